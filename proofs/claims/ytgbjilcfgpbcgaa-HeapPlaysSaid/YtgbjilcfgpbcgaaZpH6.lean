import Derived.Test.YtgbjilcfgpbcgaaZpH5
/- Layer 8: lay, walked. -/
namespace Go.Proofs.Ytgbjilcfgpbcgaa
open Go.RowKit Go.Proofs.YtgbjilcfgpbcgaaW.PrintWords Go.Proofs.YtgbjilcfgpbcgaaW.PrintLast Go.Proofs.YtgbjilcfgpbcgaaW.PrintMore
set_option linter.unusedSimpArgs false
set_option linter.unusedVariables false
theorem Hq.below {base : Nat} {O : Nat → Prop} {w w' : World} {hb : Nat} {E : List Ent} {I F : List Int} {ed la : Int} {mb : Nat} {vi vf : Value} {cb : Int → Nat} {rv : Int → Value} (h : Hq base O w hb E I F ed la mb vi vf cb rv) (hk : Below w.heap.size w w') : Hq base O w' hb E I F ed la mb vi vf cb rv := h.keep fun k _ hl => hk.block k hl
theorem un_un {w w1 : World} (h : Below w.heap.size w w1) : Below w.heap.size w w1 := h
theorem Fr.trans {base : Nat} {O : Nat → Prop} {w w1 w2 : World} (h : Fr base O w w1) (k : Fr base O w1 w2) : Fr base O w w2 := ⟨h.low.trans k.low, h.kept.then_ k.kept fun _ h => .inl h⟩
theorem Fr.below {base : Nat} {O : Nat → Prop} {w w1 w2 : World} (h : Fr base O w w1) (k : Below w1.heap.size w1 w2) (hb : base ≤ w1.heap.size) : Fr base O w w2 := ⟨h.low.trans (k.mono hb), h.kept.below k⟩
theorem un_drew {B : Nat} {w w1 : World} (h : Below B w.drew w1) : Below B w w1 := ⟨h.os, h.tape, h.output, h.size, h.block⟩
theorem slot_ents (S : St) : (slotP S).2.ents = S.ents ∧ (slotP S).2.last = S.last := by
  unfold slotP
  split <;> exact ⟨rfl, rfl⟩
theorem fM_int (ids : List Int) (cb : Int → Nat) (c : Int) : fM ids cb (keyI c) = if c ∈ ids then some (.pointer (some ⟨cb c, 0, none⟩)) else none := rfl
/-- The new cell is stored under its number. -/
theorem lay_store {base : Nat} {O : Nat → Prop} {w : World} {hb : Nat} {S : St} {mb : Nat} {vi vf : Value} {cb : Int → Nat} {rv : Int → Value} {N : Int} (h : Hp base O w hb (slotP S).2 mb vi vf cb rv) (s : Int) (v : Value) (id : Int) (hid : 1 ≤ id ∧ id ≤ S.last) (hnew : id ∉ S.ids) (hI : Inv N S) (hN : N ≤ 4000000000000) :
    ∃ w', (Instr.mapUpdate 55 (.map (some mb)) (.int .i64 id) (.pointer (some ⟨w.heap.size, 0, none⟩))).run Try.prog (w.alloc (.cells #[v, .int .i64 s] 63)) = .ok () w' ∧
      MapG w' mb (S.ents.length + 1) (fM (id :: S.ids) fun c => if c = id then w.heap.size else cb c) ∧ (w.alloc (.cells #[v, .int .i64 s] 63)).grownBy w' (some mb) := by
  have hm : MapG (w.alloc (.cells #[v, .int .i64 s] 63)) mb S.ents.length (fM S.ids cb) := by
    have := h.map
    rw [(slot_ents S).1] at this
    exact this.blk (Below.heap_alloc w _ mb this.lt)
  have hc := hI.cnt
  have hb := hI.bd
  refine hm.store id (by omega) (by omega) _ ?_ ?_ fun kl hkl => ?_
  · rw [fM_int, if_neg hnew]
  · rw [fM_int, if_pos List.mem_cons_self]; simp
  · cases kl with
    | int k c =>
      cases k <;> try rfl
      have hne : c ≠ id := fun e => hkl (by rw [e])
      show fM (id :: S.ids) _ (keyI c) = fM S.ids cb (keyI c)
      rw [fM_int, fM_int]
      by_cases hc : c ∈ S.ids
      · rw [if_pos hc, if_pos (List.mem_cons_of_mem _ hc), if_neg hne]
      · rw [if_neg hc, if_neg (by rw [List.mem_cons]; exact fun e => e.elim hne hc)]
    | _ => rfl
theorem Hq.mb_ne {base : Nat} {O : Nat → Prop} {w : World} {hb : Nat} {E : List Ent} {I F : List Int} {ed la : Int} {mb : Nat} {vi vf : Value} {cb : Int → Nat} {rv : Int → Value} (h : Hq base O w hb E I F ed la mb vi vf cb rv) : hb ≠ mb := fun e => by
  obtain ⟨D, ⟨es, clock, hm, _⟩, _⟩ := h.map
  rw [← e, h.blk] at hm; cases hm
theorem mem_insAt {α : Type} (xs : List α) (i : Nat) (x y : α) : y ∈ insAt xs i x ↔ y = x ∨ y ∈ xs := by
  unfold insAt
  rw [List.mem_append, List.mem_cons]
  constructor
  · rintro (h | h | h)
    · exact .inr (List.mem_of_mem_take h)
    · exact .inl h
    · exact .inr (List.mem_of_mem_drop h)
  · rintro (h | h)
    · exact .inr (.inl h)
    · rw [← List.take_append_drop i xs, List.mem_append] at h
      exact h.imp (fun h => h) .inr
theorem lay_ids (S : St) (id : Int) (xs : List Int) : (layP S id xs).ids = insAt S.ids (idxP S id) id := by
  show (insAt S.ents (idxP S id) ⟨id, xs, (slotP S).1⟩).map Ent.id = _
  unfold insAt St.ids
  rw [List.map_append, List.map_cons, List.map_take, List.map_drop]
/-- The entries in another order. -/
theorem Hq.perm {base : Nat} {O : Nat → Prop} {w : World} {hb : Nat} {E E' : List Ent} {I F : List Int} {ed la : Int} {mb : Nat} {vi vf : Value} {cb : Int → Nat} {rv : Int → Value} (h : Hq base O w hb E I F ed la mb vi vf cb rv) (hm : ∀ e, e ∈ E' ↔ e ∈ E) (hl : E'.length = E.length) : Hq base O w hb E' I F ed la mb vi vf cb rv where
  blk := h.blk
  map := by
    have e : fM (E'.map Ent.id) cb = fM (E.map Ent.id) cb := by
      funext kl
      cases kl with
      | int k c =>
        cases k <;> try rfl
        show fM (E'.map Ent.id) cb (keyI c) = fM (E.map Ent.id) cb (keyI c)
        rw [fM_int, fM_int]
        have hc : c ∈ E'.map Ent.id ↔ c ∈ E.map Ent.id := by
          simp only [List.mem_map, hm]
        by_cases h1 : c ∈ E.map Ent.id
        · rw [if_pos h1, if_pos (hc.2 h1)]
        · rw [if_neg h1, if_neg (fun q => h1 (hc.1 q))]
      | _ => rfl
    rw [e, hl]; exact h.map
  own := h.own
  ids := h.ids
  free := h.free
  apart := h.apart
  cell e he := h.cell e ((hm e).1 he)
  cinj e he e' he' := h.cinj e ((hm e).1 he) e' ((hm e').1 he')
  row e he := h.row e ((hm e).1 he)
/-- Behind the map's store. -/
theorem lay_mid {base : Nat} {O : Nat → Prop} {w w1 w2 w4 : World} {hb : Nat} {E : List Ent} {I F : List Int} {ed la : Int} {mb : Nat} {vi vf : Value} {cb : Int → Nat} {rv : Int → Value} (hO : ∀ k, O k → base ≤ k ∧ k < w.heap.size) (hbw : base ≤ w.heap.size) (id s : Int) (hnew : id ∉ E.map Ent.id) (v : Value) (xs : List Int)
    (hr : kb.R 5 w1 w.heap.size (fun _ => True) v xs) (hb1 : Below w.heap.size w w1) (hp : Hq base O w2 hb E I F ed la mb vi vf cb rv) (hf : Fr base O w1 w2)
    (hm : MapG w4 mb (E.length + 1) (fM (id :: E.map Ent.id) fun c => if c = id then w2.heap.size else cb c)) (hg : (w2.alloc (.cells #[v, .int .i64 s] 63)).grownBy w4 (some mb)) :
    Hq base (fun k => O k ∨ w.heap.size ≤ k) w4 hb (⟨id, xs, s⟩ :: E) I F ed la mb vi vf (fun c => if c = id then w2.heap.size else cb c) (fun c => if c = id then v else rv c) := by
  have hs : w.heap.size ≤ w2.heap.size := Nat.le_trans hb1.size hf.low.size
  have hal : ∀ k, k < w2.heap.size → k ≠ mb → w4.heap[k]? = w2.heap[k]? := fun k hk hne => (hg.block k (by simp; omega) (fun e => by injection e with e; exact hne e)).trans (Below.heap_alloc w2 _ k hk)
  have hmm : ∀ (t : TypeId) (k : Nat) (cells : Array Value), w2.heap[k]? = some (.cells cells t (0, 0)) → k ≠ mb := fun t k cells hc e => by
    obtain ⟨D, ⟨es, clock, hm, _⟩, _⟩ := hp.map
    rw [e, hm] at hc; cases hc
  have rmv : ∀ {v : Value} {xs : List Int} {k : IntKind} {e : Nat} {ok : Nat → Prop} {b : Nat}, (Kd.int k).R e w2 b ok v xs → (Kd.int k).R e w4 b ok v xs := fun {v xs k e ok b} h => by
    refine Kd.R_mono (ok := fun k => ok k ∧ k ≠ mb) (Kd.R_step (Kd.R_mono (Kd.R_bound h) fun k hk => ⟨hk.1, ?_⟩) fun k hk hl => hal k hl hk.2) fun k hk => hk.1
    obtain ⟨_, _, _, q, _, cells, hc⟩ := hk
    exact hmm q k cells hc
  have ne_id : ∀ e ∈ E, ¬ e.id = id := fun e he q => hnew (by rw [← q]; exact List.mem_map_of_mem he)
  have hr2 : kb.R 5 w2 w.heap.size (fun _ => True) v xs := by
    refine Kd.R_mono (ok := fun k => w.heap.size ≤ k) (Kd.R_step (Kd.R_mono (Kd.R_bound hr) fun k hk => hk.2.1) fun k hk hl => hf.kept.2 k hl fun ho => ?_) fun _ _ => trivial
    have := (hO k ho).2
    omega
  refine ⟨(hal hb (blk_lt hp.blk) hp.mb_ne).trans hp.blk, hm, ⟨hp.own.1, .inl hp.own.2.1, hp.own.2.2.1, .inl hp.own.2.2.2⟩, Kd.R_mono (rmv hp.ids) fun _ h => .inl h, Kd.R_mono (rmv hp.free) fun _ h => .inl h, hp.apart, fun e he => ?_, fun e he e' he' hc => ?_, fun e he => ?_⟩
  · rcases List.mem_cons.1 he with rfl | he
    · simp only [if_pos]
      refine ⟨(hg.block w2.heap.size (by simp) (fun e => by injection e with e; have := hp.map.lt; omega)).trans (heap_alloc_new w2 _), by omega, .inr hs⟩
    · have hne := ne_id e he
      simp only [if_neg hne]
      exact ⟨(hal _ (blk_lt (hp.cell e he).1) (hmm _ _ _ (hp.cell e he).1)).trans (hp.cell e he).1, (hp.cell e he).2.1, .inl (hp.cell e he).2.2⟩
  · rcases List.mem_cons.1 he with rfl | he <;> rcases List.mem_cons.1 he' with rfl | he'
    · rfl
    · simp only [if_pos, if_neg (ne_id e' he')] at hc
      have := blk_lt (hp.cell e' he').1
      omega
    · simp only [if_pos, if_neg (ne_id e he)] at hc
      have := blk_lt (hp.cell e he).1
      omega
    · simp only [if_neg (ne_id e he), if_neg (ne_id e' he')] at hc
      exact hp.cinj e he e' he' hc
  · rcases List.mem_cons.1 he with rfl | he
    · simp only [if_pos]
      exact Kd.R_lower (Kd.R_mono (Kd.R_bound (rmv hr2)) fun k hk => .inr hk.2.1) hbw
    · simp only [if_neg (ne_id e he)]
      exact Kd.R_mono (rmv (hp.row e he)) fun _ h => .inl h
theorem HeapAt.of {base : Nat} {O : Nat → Prop} {w : World} {hb : Nat} {S : St} {I : List Int} {la : Int} {mb : Nat} {vi vf : Value} {cb : Int → Nat} {rv : Int → Value} (h : Hq base O w hb S.ents I S.free S.edge la mb vi vf cb rv) (hI : I = S.ids) (hla : la = S.last) : HeapAt base O w hb S :=
  ⟨mb, vi, vf, cb, rv, by subst hI; subst hla; exact h⟩
set_option maxHeartbeats 8000000 in
set_option maxRecDepth 100000 in
theorem lay_calls {base : Nat} {O : Nat → Prop} {w : World} {hb : Nat} {S : St} {mb : Nat} {vi vf : Value} {cb : Int → Nat} {rv : Int → Value} {N : Int} (h : Hp base O w hb S mb vi vf cb rv) (hI : Inv N S) (hN : N ≤ 4000000000000) (hO : ∀ k, O k → base ≤ k ∧ k < w.heap.size) (hbw : base ≤ w.heap.size)
    (id : Int) (hid : 1 ≤ id ∧ id ≤ S.last) (hnew : id ∉ S.ids) (A : Option Addr) (n c : Nat) (xs : List Int) (hC : kb.C w A n xs) (hl : xs.length = n) (hn : n ≤ 140737488355328) :
    Calls Try.prog 27 #[.pointer (some ⟨hb, 0, none⟩), .int .i64 id, .slice A n c] w fun e w' => e = .returned (.tuple #[]) ∧ HeapAt base (grow O w w') w' hb (layP S id xs) ∧ Fr base O w w' := by
  have HH := Aside0.mk h
  have HI := Aside0.mk hI
  have HN := Aside0.mk hN
  have HO := Aside0.mk hO
  have HBW := Aside0.mk hbw
  have HID := Aside0.mk hid
  have HNEW := Aside0.mk hnew
  have HC := Aside0.mk hC
  have HL := Aside0.mk hl
  have HNN := Aside0.mk hn
  have c0 : w.cell? ⟨hb, 0, none⟩ = some (.map (some mb)) := (blk_cell h.blk 0).trans rfl
  clear h hI hN hO hbw hid hnew hC hl hn
  go_enter Try.func27, Try.ntmps27
  go_wp2_with fail
  go_region_held3 (fun W => W.cell? ⟨hb, 0, none⟩ = some (.map (some mb))) (first | assumption | exact c0)
    ((first
      | (go_at_call 31; (with_reducible refine (clone_calls A n c xs w.drew HL.out HNN.out (Kd.C_below HC.out (below_drew (Below.refl _ _)))).mono ?_); rintro e w1 ⟨v, rfl, hR, hb⟩; obtain ⟨A1, c1', ev⟩ := Kd.R_slice hR; rw [HL.out] at ev; subst ev; have HR1 : Aside0 (kb.R 5 w1 w.heap.size (fun _ => True) (.slice A1 n c1') xs) := ⟨hR⟩; have HB1 : Aside0 (Below w.heap.size w w1) := ⟨un_drew hb⟩; have HP1 := Aside0.mk (HH.out.below HB1.out); clear hR hb; have c1 : w1.cell? ⟨hb, 0, none⟩ = some (.map (some mb)) := (blk_cell HP1.out.blk 0).trans rfl)
      | (go_at_call 35; (with_reducible refine (slot_calls HP1.out HI.out HN.out (fun k hk => (HO.out k hk).1) (Nat.le_trans HBW.out HB1.out.size)).mono ?_); rintro e w2 ⟨rfl, vf2, hP, hF⟩; have HP2 := Aside0.mk hP; have HF2 := Aside0.mk hF; clear hP hF; have c2 : w2.cell? ⟨hb, 0, none⟩ = some (.map (some mb)) := (blk_cell HP2.out.blk 0).trans rfl; obtain ⟨s, hs⟩ : ∃ s, (slotP S).1 = s := ⟨_, rfl⟩; rw [hs]; have HSL := Aside0.mk hs; clear hs; obtain ⟨w4, hst, hM4, hG4⟩ := (lay_store HP2.out s (.slice A1 n c1') id HID.out HNEW.out HI.out HN.out); have HM4 := Aside0.mk hM4; have HG4 := Aside0.mk hG4; have c3 : (w2.alloc (.cells #[.slice A1 n c1', .int .i64 s] 63)).cell? ⟨hb, 0, none⟩ = some (.map (some mb)) := (blk_cell (blk_alloc HP2.out.blk _) 0).trans rfl; have c4 : w4.cell? ⟨hb, 0, none⟩ = some (.map (some mb)) := (blk_cell ((HG4.out.block hb (blk_lt (blk_alloc HP2.out.blk _)) (fun e => HP2.out.mb_ne (by injection e))).trans (blk_alloc HP2.out.blk _)) 0).trans rfl; clear hM4 hG4)))
  have hp2 : Hq base O w2 hb S.ents S.ids (slotP S).2.free (slotP S).2.edge S.last mb vi vf2 cb rv := by
    have := HP2.out
    simp only [Hp, St.ids, (slot_ents S).1, (slot_ents S).2] at this
    exact this
  have hq := lay_mid HO.out HBW.out id s HNEW.out (.slice A1 n c1') xs HR1.out HB1.out hp2 HF2.out HM4.out HG4.out
  have hbase : base ≤ w4.heap.size := Nat.le_trans HBW.out (Nat.le_trans HB1.out.size (Nat.le_trans HF2.out.low.size (Nat.le_trans (by simp) HG4.out.size)))
  have HBS := Aside0.mk hbase
  have HQ := Aside0.mk hq
  obtain ⟨Ai, ci, ei⟩ := Kd.R_slice hq.ids
  obtain ⟨ni, hni⟩ : ∃ ni, S.ids.length = ni := ⟨_, rfl⟩
  rw [hni] at ei
  have HNI : Aside0 (ni ≤ 4000000000000) := ⟨by have := HI.out.cnt; have := HI.out.bd; have := HN.out; rw [← hni, List.length_map]; omega⟩
  have HE := Aside0.mk ei
  have HS := Aside0.mk (search_calls vi S.ids id w4 base _ hq.ids (HI.out.ids.imp fun h => Int.le_of_lt h) (by rw [hni]; have := HNI.out; omega))
  have hsh : S.ids.contains id = false := by
    rw [List.contains_eq_mem]; exact decide_eq_false HNEW.out
  obtain ⟨ix, hix⟩ : ∃ ix, idxP S id = ix := ⟨_, rfl⟩
  have hix' : S.ids.countP (fun x => decide (x < id)) = ix := hix
  rw [hix', hsh] at HS
  have HIX := Aside0.mk hix
  rw [ei] at HS
  have k1 : w4.cell? ⟨hb, 1, none⟩ = some (.slice Ai ni ci) := by rw [← ei]; exact (blk_cell hq.blk 1).trans rfl
  clear hp2 hq hbase ei hsh hix hix' c0 hst
  have hBi : ∀ q, Below w4.heap.size w4 ((w4.drewN q).alloc (.cells #[.int .i64 id] 3)) := fun q => below_alloc (pw_below_drewN (Below.refl _ _) q) _
  have hin := fun q => insert_calls vi S.ids ix w4.heap.size id ((w4.drewN q).alloc (.cells #[.int .i64 id] 3)) base (fun k => O k ∨ w.heap.size ≤ k) (Kd.R_below HQ.out.ids (hBi q)) (by rw [← HIX.out, idxP]; exact List.countP_le_length) (Nat.le_trans HBS.out (hBi q).size) (heap_alloc_new (w4.drewN q) _) (fun e => by
    obtain ⟨cells, hc⟩ := own_typed (Kd.R_own HQ.out.ids).choose_spec _ e
    have := blk_lt hc
    omega) (by have := HNI.out; rw [hni]; omega)
  rw [HE.out] at hin
  have HIN := Aside0.mk hin
  have HBI := Aside0.mk hBi
  clear hBi hin hni
  go_wp2_with (first | (go_at_call 28; (with_reducible refine HS.out.mono ?_); rintro e w5 ⟨rfl, q, rfl⟩) | (go_at_call 30; (with_reducible refine (HIN.out q).mono ?_); rintro e w6 ⟨v6, rfl, hr, hg, hv⟩; rw [← HE.out] at hg hv; have hqb := HQ.out.below (HBI.out q); have HP := Aside0.mk (hqb.put1 hr (fun k h => .inl h) hg hv); have HG := Aside0.mk hg; have hbk := (hg.block hb (blk_lt hqb.blk) (Kd.R_ne hqb.ids hqb.blk (by decide))).trans hqb.blk; have k6 : w6.cell? ⟨hb, 1, none⟩ = some vi := (blk_cell hbk 1).trans rfl; have l6 : w6.frozen? ⟨hb, 1, none⟩ = false := frozen_of_row w6 hb 1 _ 57 hbk; obtain ⟨A6, c6, e6⟩ := Kd.R_slice hr; obtain ⟨n6, hn6⟩ : ∃ n6, (insAt S.ids ix id).length = n6 := ⟨_, rfl⟩; rw [hn6] at e6; subst e6; clear hr hg hv hqb hbk hn6))
  go_end0
  have F1 := ((Fr.refl base O w).below (un_un HB1.out) HBW.out).trans HF2.out
  have F2 := (F1.below (below_alloc (Below.refl _ _) (.cells #[.slice A1 n c1', .int .i64 s] 63)) (Nat.le_trans HBW.out (Nat.le_trans HB1.out.size HF2.out.low.size))).grown (fun k hk => (HO.out k hk).1) HG4.out (Nat.le_trans HBW.out (Nat.le_trans HB1.out.size (Nat.le_trans HF2.out.low.size (by simp)))) (fun k hk => by injection hk with hk; rw [← hk]; exact .inl HP2.out.own.2.2.2)
  have F3 := (F2.below (HBI.out q) HBS.out).grown (fun k hk => (HO.out k hk).1) HG.out (Nat.le_trans HBS.out (HBI.out q).size) (fun k hk => (HQ.out.ids.1 k hk).imp (fun h => h) fun h => ⟨Nat.le_trans HBW.out h, h⟩)
  have F4 := F3.set (fun k hk => (HO.out k hk).1) HH.out.own.2.1 1 (.slice A6 n6 c6)
  have e1 : (layP S id xs).ids = insAt S.ids ix id := by rw [lay_ids, HIX.out]
  have e2 : (layP S id xs).last = S.last := (slot_ents S).2
  have hp3 := HP.out.perm (E' := (layP S id xs).ents) (fun e => by
    show e ∈ insAt S.ents (idxP S id) ⟨id, xs, (slotP S).1⟩ ↔ _
    rw [HSL.out, mem_insAt]
    simp) (by
    show (insAt S.ents (idxP S id) ⟨id, xs, (slotP S).1⟩).length = _
    rw [insAt_length _ _ _ (by unfold idxP; have := List.countP_le_length (p := fun x => decide (x < id)) (l := S.ids); rw [List.length_map] at this; exact this)]
    rfl)
  have hp4 := hp3.mono (O' := grow O w (w6.setCell ⟨hb, 1, none⟩ (.slice A6 n6 c6))) (fun k hk hl => by
    rcases hk with (hk | hk) | hk
    · exact .inl hk
    · exact .inr ⟨hk, hl⟩
    · exact .inr ⟨Nat.le_trans (Nat.le_trans (Nat.le_trans HB1.out.size HF2.out.low.size) (Nat.le_trans (by simp) HG4.out.size)) (Nat.le_trans (HBI.out q).size hk), hl⟩)
  exact ⟨rfl, HeapAt.of (S := layP S id xs) hp4 e1.symm e2.symm, F4⟩
end Go.Proofs.Ytgbjilcfgpbcgaa
