import Derived.Test.YtgbjilcfgpbcgaaZpH7
/- Layer 8: Get, Place, Set, Back, walked. -/
namespace Go.Proofs.Ytgbjilcfgpbcgaa
open Go.RowKit Go.Proofs.YtgbjilcfgpbcgaaW.PrintWords Go.Proofs.YtgbjilcfgpbcgaaW.PrintLast Go.Proofs.YtgbjilcfgpbcgaaW.PrintMore
set_option linter.unusedSimpArgs false
set_option linter.unusedVariables false
abbrev I64 (x : Int) : Prop := -9223372036854775808 ≤ x ∧ x < 9223372036854775808
theorem find_none {S : St} {id : Int} (h : findP S id = none) : id ∉ S.ids := by
  intro hm
  obtain ⟨e, he, rfl⟩ := List.mem_map.1 hm
  have := List.find?_eq_none.1 h e he
  simp at this
theorem find_some {S : St} {id : Int} {e : Ent} (h : findP S id = some e) : e ∈ S.ents ∧ e.id = id := by
  refine ⟨List.mem_of_find?_eq_some h, ?_⟩
  have := List.find?_some h
  simpa using this
/-- What the cells' map leads to. -/
theorem Hq.look_none {base : Nat} {O : Nat → Prop} {w : World} {hb : Nat} {S : St} {mb : Nat} {vi vf : Value} {cb : Int → Nat} {rv : Int → Value} (h : Hp base O w hb S mb vi vf cb rv) (id : Int) (hid : I64 id) (hf : findP S id = none) (w' : World) (hw : w'.heap[mb]? = w.heap[mb]?) :
    (Instr.lookup 55 (.map (some mb)) (.int .i64 id) false).run Try.prog w' = .ok (.pointer none) w' := by
  have := h.map.look id hid w' hw
  rw [fM_int, if_neg (find_none hf)] at this
  exact this
theorem Hq.look_some {base : Nat} {O : Nat → Prop} {w : World} {hb : Nat} {S : St} {mb : Nat} {vi vf : Value} {cb : Int → Nat} {rv : Int → Value} (h : Hp base O w hb S mb vi vf cb rv) (id : Int) (hid : I64 id) {e : Ent} (hf : findP S id = some e) (w' : World) (hw : w'.heap[mb]? = w.heap[mb]?) :
    (Instr.lookup 55 (.map (some mb)) (.int .i64 id) false).run Try.prog w' = .ok (.pointer (some ⟨cb id, 0, none⟩)) w' := by
  have := h.map.look id hid w' hw
  obtain ⟨h1, h2⟩ := find_some hf
  rw [fM_int, if_pos (show id ∈ S.ids by rw [← h2]; exact List.mem_map_of_mem h1)] at this
  exact this
def GetPost (w : World) (o : Option Ent) (e : Ending) (w' : World) : Prop := match o with
  | none => e = .returned (.tuple #[.slice none 0 0, .bool false]) ∧ w' = w
  | some x => ∃ v, e = .returned (.tuple #[v, .bool true]) ∧ kb.R 5 w' w.heap.size (fun _ => True) v x.row ∧ Below w.heap.size w w'
set_option maxHeartbeats 1000000 in
theorem get_calls {base : Nat} {O : Nat → Prop} {w : World} {hb : Nat} {S : St} (h : HeapAt base O w hb S) (id : Int) (hid : I64 id) (hn : ∀ e ∈ S.ents, e.row.length ≤ 140737488355328) : Calls Try.prog 12 #[.pointer (some ⟨hb, 0, none⟩), .int .i64 id] w (GetPost w (findP S id)) := by
  obtain ⟨mb, vi, vf, cb, rv, h⟩ := h
  have c0 : w.cell? ⟨hb, 0, none⟩ = some (.map (some mb)) := (blk_cell h.blk 0).trans rfl
  cases hf : findP S id with
  | none =>
    have hlk := h.look_none id hid hf w rfl
    clear h hf hn hid
    unfold GetPost
    go_enter Try.func12, Try.ntmps12
    go_wp2
    go_ret2
    exact ⟨rfl, rfl⟩
  | some x =>
    have hlk := h.look_some id hid hf w rfl
    obtain ⟨h1, h2⟩ := find_some hf
    subst h2
    have hR := h.row x h1
    obtain ⟨A, c, ev⟩ := Kd.R_slice hR
    have hC : kb.C w A x.row.length x.row := by
      have := Kd.R_reads hR
      obtain ⟨A', c', e', _, hC⟩ := this
      rw [ev] at e'; injection e' with e1; subst e1; exact hC
    have r0 : w.cell? ⟨cb x.id, 0, none⟩ = some (.slice A x.row.length c) := by rw [← ev]; exact (blk_cell (h.cell x h1).1 0).trans rfl
    have hcl := clone_calls A x.row.length c x.row w rfl (hn x h1) hC
    have HCL := Aside0.mk hcl
    obtain ⟨n, hn2⟩ : ∃ n, x.row.length = n := ⟨_, rfl⟩
    obtain ⟨p, hp⟩ : ∃ p, cb x.id = p := ⟨_, rfl⟩
    rw [hn2] at r0 HCL
    rw [hp] at hlk r0
    clear h hf hn hid hR hC ev hcl h1 hn2 hp
    obtain ⟨id, hid⟩ : ∃ id, x.id = id := ⟨_, rfl⟩
    rw [hid] at hlk
    rw [hid]
    clear hid
    go_enter Try.func12, Try.ntmps12
    go_wp2_with (first | (go_at_call 31; (with_reducible refine HCL.out.mono ?_); rintro e w2 ⟨v, rfl, hR, hB⟩; have HR := Aside0.mk hR; have HB := Aside0.mk hB; clear hR hB))
    go_ret2
    exact ⟨v, rfl, HR.out, HB.out⟩
def placeP (o : Option Ent) : Int × Int := match o with
  | none => (-1, -1)
  | some e => (e.slot / 16, e.slot % 16)
set_option maxHeartbeats 1000000 in
theorem place_calls {base : Nat} {O : Nat → Prop} {w : World} {hb : Nat} {S : St} {N : Int} (h : HeapAt base O w hb S) (hI : Inv N S) (hN : N ≤ 4000000000000) (id : Int) (hid : I64 id) : Calls Try.prog 17 #[.pointer (some ⟨hb, 0, none⟩), .int .i64 id] w fun e w' => e = .returned (.tuple #[.int .i64 (placeP (findP S id)).1, .int .i64 (placeP (findP S id)).2]) ∧ Below w.heap.size w w' := by
  obtain ⟨mb, vi, vf, cb, rv, h⟩ := h
  have c0 : w.cell? ⟨hb, 0, none⟩ = some (.map (some mb)) := (blk_cell h.blk 0).trans rfl
  cases hf : findP S id with
  | none =>
    have hlk := h.look_none id hid hf w rfl
    clear h hf hid hI hN
    unfold placeP
    go_enter Try.func17, Try.ntmps17
    go_wp2
    go_ret2
    exact ⟨rfl, Below.refl _ _⟩
  | some x =>
    have hlk := h.look_some id hid hf w rfl
    obtain ⟨h1, h2⟩ := find_some hf
    subst h2
    have r1 : w.cell? ⟨cb x.id, 1, none⟩ = some (.int .i64 x.slot) := (blk_cell (h.cell x h1).1 1).trans rfl
    have hs := hI.sl x h1
    have hb := hI.bd
    have s0 : 0 ≤ x.slot := hs.1
    have s1 : x.slot ≤ 4000000000000 := by omega
    obtain ⟨p, hp⟩ : ∃ p, cb x.id = p := ⟨_, rfl⟩
    rw [hp] at hlk r1
    clear h hf hid h1 hp hs hb hI hN
    unfold placeP
    obtain ⟨id, hid⟩ : ∃ id, x.id = id := ⟨_, rfl⟩
    obtain ⟨s, hs⟩ : ∃ s, x.slot = s := ⟨_, rfl⟩
    rw [hid] at hlk
    rw [hs] at r1 s0 s1
    rw [hid]
    show Calls _ _ _ _ (fun e w' => e = .returned (.tuple #[.int .i64 (x.slot / 16), .int .i64 (x.slot % 16)]) ∧ _)
    rw [hs]
    clear hid hs
    go_enter Try.func17, Try.ntmps17
    go_wp2
    go_region
    go_wp2
    go_ret2
    exact ⟨rfl, by repeat (first | exact Below.refl _ _ | apply pw_below_drewN | apply below_drew1)⟩
def reRow (id : Int) (row : List Int) (e : Ent) : Ent := if e.id = id then { e with row := row } else e
theorem reRow_id (id : Int) (row : List Int) (e : Ent) : (reRow id row e).id = e.id ∧ (reRow id row e).slot = e.slot := by
  unfold reRow; split <;> exact ⟨rfl, rfl⟩
theorem reRow_ids (id : Int) (row : List Int) (E : List Ent) : (E.map (reRow id row)).map Ent.id = E.map Ent.id := by
  rw [List.map_map]
  exact List.map_congr_left fun e _ => (reRow_id id row e).1
/-- A row's cell is written: another row under the same number. -/
theorem Hq.setrow {base : Nat} {O : Nat → Prop} {w w2 : World} {hb : Nat} {E : List Ent} {I F : List Int} {ed la : Int} {mb : Nat} {vi vf : Value} {cb : Int → Nat} {rv : Int → Value} (h : Hq base O w hb E I F ed la mb vi vf cb rv) (hB : Below w.heap.size w w2) (hbw : base ≤ w.heap.size) {x : Ent} (hx : x ∈ E) (v : Value) (row : List Int) (hr : kb.R 5 w2 w.heap.size (fun _ => True) v row) :
    Hq base (fun k => O k ∨ w.heap.size ≤ k) (w2.setCell ⟨cb x.id, 0, none⟩ v) hb (E.map (reRow x.id row)) I F ed la mb vi vf cb (fun c => if c = x.id then v else rv c) := by
  have h2 := h.below hB
  have hc := (h2.cell x hx).1
  have hk : ∀ k, k ≠ cb x.id → (w2.setCell ⟨cb x.id, 0, none⟩ v).heap[k]? = w2.heap[k]? := fun k hk => Below.heap_setCell w2 ⟨cb x.id, 0, none⟩ _ k hk
  have hm : mb ≠ cb x.id := fun e => by
    obtain ⟨D, ⟨es, clock, hm, _⟩, _⟩ := h2.map
    rw [e, hc] at hm; cases hm
  have hhb : hb ≠ cb x.id := fun e => by rw [← e] at hc; exact ty_ne h2.blk hc (by decide)
  have rset : ∀ {v' : Value} {xs : List Int} {k : IntKind} {e : Nat} {ok : Nat → Prop} {b : Nat}, e ≠ 63 → (Kd.int k).R e w2 b ok v' xs → (Kd.int k).R e (w2.setCell ⟨cb x.id, 0, none⟩ v) b ok v' xs := fun {v' xs k e ok b} hne h => Kd.R_set h hc (fun q hq => by
    have : q = e := by simpa [Kd.int, Kd.scalar] using hq
    omega) 0 _
  refine ⟨(hk hb hhb).trans h2.blk, ?_, ⟨h.own.1, .inl h.own.2.1, h.own.2.2.1, .inl h.own.2.2.2⟩, Kd.R_mono (rset (by decide) h2.ids) fun _ h => .inl h, Kd.R_mono (rset (by decide) h2.free) fun _ h => .inl h, h.apart, fun e he => ?_, fun e he e' he' hcc => ?_, fun e he => ?_⟩
  · rw [reRow_ids, List.length_map]
    exact h2.map.blk (hk mb hm)
  · obtain ⟨u, hu, rfl⟩ := List.mem_map.1 he
    obtain ⟨i1, i2⟩ := reRow_id x.id row u
    rw [i1, i2]
    have hcu := h2.cell u hu
    refine ⟨?_, hcu.2.1, .inl hcu.2.2⟩
    by_cases e1 : u.id = x.id
    · rw [if_pos e1]
      have hcu1 := hcu.1
      rw [e1] at hcu1 ⊢
      exact (heap_setCell_same w2 (cb x.id) 0 _ 63 v hcu1).trans rfl
    · rw [if_neg e1]
      exact (hk _ fun q => e1 (h.cinj u hu x hx q)).trans hcu.1
  · obtain ⟨u, hu, rfl⟩ := List.mem_map.1 he
    obtain ⟨u', hu', rfl⟩ := List.mem_map.1 he'
    rw [(reRow_id x.id row u).1, (reRow_id x.id row u').1] at hcc ⊢
    exact h.cinj u hu u' hu' hcc
  · obtain ⟨u, hu, rfl⟩ := List.mem_map.1 he
    rw [(reRow_id x.id row u).1]
    by_cases e1 : u.id = x.id
    · have e2 : (reRow x.id row u).row = row := by unfold reRow; rw [if_pos e1]
      rw [if_pos e1, e2]
      exact Kd.R_lower (Kd.R_mono (Kd.R_bound (rset (by decide) hr)) fun k hk => .inr hk.2.1) hbw
    · have e2 : (reRow x.id row u).row = u.row := by unfold reRow; rw [if_neg e1]
      rw [if_neg e1, e2]
      exact Kd.R_mono (rset (by decide) (h2.row u hu)) fun _ h => .inl h
theorem setP_eq (S : St) (id : Int) (row : List Int) : setP S id row = { S with ents := S.ents.map (reRow id row) } := rfl
def SetPost (base : Nat) (O : Nat → Prop) (w : World) (hb : Nat) (S : St) (id : Int) (row : List Int) (o : Option Ent) (e : Ending) (w' : World) : Prop := match o with
  | none => e = .returned (.bool false) ∧ w' = w
  | some _ => e = .returned (.bool true) ∧ HeapAt base (grow O w w') w' hb (setP S id row) ∧ Fr base O w w'
set_option maxHeartbeats 1000000 in
theorem set_calls {base : Nat} {O : Nat → Prop} {w : World} {hb : Nat} {S : St} (h : HeapAt base O w hb S) (hO : ∀ k, O k → base ≤ k ∧ k < w.heap.size) (hbw : base ≤ w.heap.size) (id : Int) (hid : I64 id)
    (A : Option Addr) (n c : Nat) (xs : List Int) (hC : kb.C w A n xs) (hl : xs.length = n) (hn : n ≤ 140737488355328) : Calls Try.prog 22 #[.pointer (some ⟨hb, 0, none⟩), .int .i64 id, .slice A n c] w (SetPost base O w hb S id xs (findP S id)) := by
  obtain ⟨mb, vi, vf, cb, rv, h⟩ := h
  have c0 : w.cell? ⟨hb, 0, none⟩ = some (.map (some mb)) := (blk_cell h.blk 0).trans rfl
  cases hf : findP S id with
  | none =>
    have hlk := h.look_none id hid hf w rfl
    clear h hf hn hid hC hl hO hbw
    unfold SetPost
    go_enter Try.func22, Try.ntmps22
    go_wp2
    go_ret
    exact ⟨rfl, rfl⟩
  | some x =>
    have hlk := h.look_some id hid hf w rfl
    obtain ⟨h1, h2⟩ := find_some hf
    have HH := Aside0.mk h
    have HX := Aside0.mk (And.intro h1 h2)
    have HO := Aside0.mk hO
    have HBW := Aside0.mk hbw
    have HCL := Aside0.mk (clone_calls A n c xs w hl hn hC)
    have HCB := Aside0.mk (h.cell x h1).1
    have HL := Aside0.mk hl
    obtain ⟨p, hp⟩ : ∃ p, cb id = p := ⟨_, rfl⟩
    have HP := Aside0.mk hp
    rw [hp] at hlk
    rw [h2, hp] at HCB
    clear h hf hn hid hC hl hO hbw h1 h2 hp
    unfold SetPost
    go_enter Try.func22, Try.ntmps22
    go_wp2_with (first | (go_at_call 31; (with_reducible refine HCL.out.mono ?_); rintro e w2 ⟨v, rfl, hR, hB⟩; have HR := Aside0.mk hR; have HB := Aside0.mk hB; obtain ⟨A1, c1, ev⟩ := Kd.R_slice hR; rw [HL.out] at ev; subst ev; have hb2 := (hB.block p (blk_lt HCB.out)).trans HCB.out; have k0 : w2.cell? ⟨p, 0, none⟩ = some (rv id) := (blk_cell hb2 0).trans rfl; have l0 : w2.frozen? ⟨p, 0, none⟩ = false := frozen_of_row w2 p 0 _ 63 hb2; clear hR hB hb2))
    go_ret
    have hs := HH.out.setrow HB.out HBW.out HX.out.1 (.slice A1 n c1) xs HR.out
    rw [HX.out.2, HP.out] at hs
    have hs2 := hs.mono (O' := grow O w (w2.setCell ⟨p, 0, none⟩ (.slice A1 n c1))) (fun k hk hl => hk.imp (fun h => h) fun h => ⟨h, hl⟩)
    have hOp : O p := by rw [← HP.out, ← HX.out.2]; exact (HH.out.cell x HX.out.1).2.2
    refine ⟨rfl, HeapAt.of (S := setP S id xs) hs2 (reRow_ids id xs S.ents).symm rfl, (((Fr.refl base O w).below (un_un HB.out) HBW.out).set (fun k hk => (HO.out k hk).1) hOp 0 _)⟩
end Go.Proofs.Ytgbjilcfgpbcgaa
