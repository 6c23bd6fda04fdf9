import Derived.Test.YtgbjilcfgpbcgaaZpH10
/- Layer 8: Drop, walked: the second part. -/
namespace Go.Proofs.Ytgbjilcfgpbcgaa
open Go.RowKit Go.Proofs.YtgbjilcfgpbcgaaW.PrintWords Go.Proofs.YtgbjilcfgpbcgaaW.PrintLast Go.Proofs.YtgbjilcfgpbcgaaW.PrintMore
set_option linter.unusedSimpArgs false
set_option linter.unusedVariables false
theorem drop_no {base : Nat} {O : Nat → Prop} {w : World} {hb : Nat} {S : St} (h : HeapAt base O w hb S) (id : Int) (hid : I64 id) (hf : findP S id = none) : Calls Try.prog 10 #[.pointer (some ⟨hb, 0, none⟩), .int .i64 id] w fun e w' => e = .returned (.bool false) ∧ w' = w := by
  obtain ⟨mb, vi, vf, cb, rv, h⟩ := h
  have c0 : w.cell? ⟨hb, 0, none⟩ = some (.map (some mb)) := (blk_cell h.blk 0).trans rfl
  have hlk := h.look_none id hid hf w rfl
  clear h hf hid
  go_enter Try.func10, Try.ntmps10
  go_wp2
  go_ret
  exact ⟨rfl, rfl⟩
theorem grown_refl (w : World) (r : Option Nat) : w.grownBy w r := ⟨rfl, rfl, rfl, Nat.le_refl _, fun _ _ _ => rfl⟩
theorem drop_fin {base : Nat} {O : Nat → Prop} {w W : World} {hb : Nat} {S : St} {id : Int} {ix sz : Nat} {f : List Int} {ed : Int} {mb : Nat} {vi vf : Value} {cb : Int → Nat} {rv : Int → Value}
    (hq : Hq base (fun k => O k ∨ sz ≤ k) W hb (cutAt S.ents (idxP S id)) (cutAt S.ids ix) f ed S.last mb vi vf cb rv)
    (he : (dropP S id).ents = cutAt S.ents (idxP S id) ∧ (dropP S id).free = f ∧ (dropP S id).edge = ed ∧ (dropP S id).last = S.last) (hix : idxP S id = ix) (hle : w.heap.size ≤ W.heap.size) (hsz : w.heap.size ≤ sz) (q : Nat) :
    HeapAt base (grow O w (W.drewN q)) (W.drewN q) hb (dropP S id) := by
  obtain ⟨e1, e2, e3, e4⟩ := he
  have h1 := (hq.below (pw_below_drewN (Below.refl _ _) q)).mono (O' := grow O w (W.drewN q)) fun k hk hl => hk.imp (fun h => h) fun h => ⟨Nat.le_trans hsz h, hl⟩
  rw [← e1, ← e2, ← e3] at h1
  refine HeapAt.of (S := dropP S id) h1 ?_ e4.symm
  show _ = (dropP S id).ents.map Ent.id
  rw [e1, ← hix, List.map_append, List.map_take, List.map_drop]
set_option maxHeartbeats 8000000 in
set_option maxRecDepth 100000 in
theorem drop_yes {base : Nat} {O : Nat → Prop} {w : World} {hb : Nat} {S : St} {N : Int} (h : HeapAt base O w hb S) (hI : Inv N S) (hN : N ≤ 4000000000000) (hO : ∀ k, O k → base ≤ k ∧ k < w.heap.size) (hbw : base ≤ w.heap.size) (id : Int) (hid : I64 id) (x : Ent) (hf : findP S id = some x) :
    Calls Try.prog 10 #[.pointer (some ⟨hb, 0, none⟩), .int .i64 id] w fun e w' => e = .returned (.bool true) ∧ HeapAt base (grow O w w') w' hb (dropP S id) ∧ Fr base O w w' := by
  obtain ⟨mb, vi, vf, cb, rv, h⟩ := h
  have c0 : w.cell? ⟨hb, 0, none⟩ = some (.map (some mb)) := (blk_cell h.blk 0).trans rfl
  have hlk := h.look_some id hid hf w rfl
  obtain ⟨w4, hdel, hq4, hg4⟩ := h.del_run hI hid hf 0
  obtain ⟨h1, h2⟩ := find_some hf
  obtain ⟨hi, he⟩ := find_at hI hf
  have hcb := (h.cell x h1).1
  rw [h2] at hcb
  have HH := Aside0.mk h
  have HI := Aside0.mk hI
  have HN := Aside0.mk hN
  have HO := Aside0.mk hO
  have HBW := Aside0.mk hbw
  have HX := Aside0.mk (And.intro h1 (And.intro h2 hf))
  have HQ4 := Aside0.mk hq4
  have HG4 := Aside0.mk hg4
  have HCB := Aside0.mk hcb
  obtain ⟨Ai, ci, ei⟩ := Kd.R_slice hq4.ids
  obtain ⟨ni, hni⟩ : ∃ ni, S.ids.length = ni := ⟨_, rfl⟩
  rw [hni] at ei
  have HEI := Aside0.mk ei
  have HNI := Aside0.mk hni
  have hni4 : (ni : Int) ≤ 4000000000000 := by have := hI.cnt; have := hI.bd; rw [← hni, List.length_map]; omega
  obtain ⟨ix, hix⟩ : ∃ ix, idxP S id = ix := ⟨_, rfl⟩
  have HIX := Aside0.mk hix
  have hixl : ix < ni := by rw [← hix, ← hni, List.length_map]; exact hi
  have hsh : S.ids.contains id = true := by rw [List.contains_eq_mem]; exact decide_eq_true (by rw [← h2]; exact List.mem_map_of_mem h1)
  have hS := search_calls vi S.ids id w4 base O hq4.ids (hI.ids.imp fun h => Int.le_of_lt h) (by rw [hni]; omega)
  have hix' : S.ids.countP (fun x => decide (x < id)) = ix := hix
  rw [hix', hsh, ei] at hS
  have HS := Aside0.mk hS
  have hD : ∀ q, Calls Try.prog 29 #[vi, .int .i64 ix, .int .i64 (ix + 1)] (w4.drewN q) fun e w' => ∃ v', e = .returned v' ∧ ki.R 3 w' base O v' (cutAt S.ids ix) ∧ v'.ownBlock = vi.ownBlock ∧ (w4.drewN q).grownBy w' vi.ownBlock := fun q => delete_calls vi S.ids ix (ix + 1) (w4.drewN q) base O (Kd.R_drewN hq4.ids q) (by omega) (by rw [hni]; omega)
  have HD := Aside0.mk hD
  rw [ei] at HD
  have k1 : ∀ q, (w4.drewN q).cell? ⟨hb, 1, none⟩ = some (.slice Ai ni ci) := fun q => by rw [← ei]; exact (blk_cell hq4.blk 1).trans rfl
  have k1a : w4.cell? ⟨hb, 1, none⟩ = some (.slice Ai ni ci) := k1 0
  have K1 := Aside0.mk k1
  obtain ⟨p, hp⟩ : ∃ p, cb id = p := ⟨_, rfl⟩
  rw [hp] at hlk HCB
  have HP := Aside0.mk hp
  clear h hI hN hO hbw hid hf h1 h2 hi he hcb hq4 hg4 ei hni hix hix' hsh hS hD hp k1
  go_enter Try.func10, Try.ntmps10
  go_upto_region 7 with (first
    | (go_at_call 28; (with_reducible refine HS.out.mono ?_); rintro e w5 ⟨rfl, q, rfl⟩; have k5 := K1.out q)
    | (go_at_call 29; (with_reducible refine (HD.out q).mono ?_); rintro e w6 ⟨v6, rfl, hr, hv, hg⟩; rw [← HEI.out] at hv hg; have hqd := HQ4.out.below (pw_below_drewN (Below.refl _ _) q); have HQ7 := Aside0.mk (hqd.put1 hr (fun _ h => h) hg (.inl hv)); have HG6 := Aside0.mk hg; have hbk := (hg.block hb (blk_lt hqd.blk) (Kd.R_ne hqd.ids hqd.blk (by decide))).trans hqd.blk; have k6 : w6.cell? ⟨hb, 1, none⟩ = some vi := (blk_cell hbk 1).trans rfl; have l6 : w6.frozen? ⟨hb, 1, none⟩ = false := frozen_of_row w6 hb 1 _ 57 hbk; obtain ⟨A6, c6, e6⟩ := Kd.R_slice hr; obtain ⟨n6, hn6⟩ : ∃ n6, (cutAt S.ids ix).length = n6 := ⟨_, rfl⟩; rw [hn6] at e6; subst e6; clear hr hv hg hqd hbk hn6))
  have hF4 : Fr base O w w4 := (Fr.refl base O w).grown (fun k hk => (HO.out k hk).1) HG4.out HBW.out (fun k hk => by injection hk with hk; rw [← hk]; exact .inl HH.out.own.2.2.2)
  have hF7 := (((hF4.below (pw_below_drewN (Below.refl _ _) q) (Nat.le_trans HBW.out hF4.low.size)).grown (fun k hk => (HO.out k hk).1) HG6.out (Nat.le_trans HBW.out hF4.low.size) (fun k hk => .inl (HQ4.out.ids.1 k hk)))).set (fun k hk => (HO.out k hk).1) HH.out.own.2.1 1 (.slice A6 n6 c6)
  have hp4 : w4.heap[p]? = some (.cells #[rv id, .int .i64 x.slot] 63 (0, 0)) := (HG4.out.block p (blk_lt HCB.out) (fun e => by
    injection e with e
    obtain ⟨D, ⟨es, clock, hm, _⟩, _⟩ := HH.out.map
    have := HCB.out
    rw [e, hm] at this; cases this)).trans HCB.out
  have hp6 : w6.heap[p]? = some (.cells #[rv id, .int .i64 x.slot] 63 (0, 0)) := (HG6.out.block p (blk_lt hp4) (Kd.R_ne HQ4.out.ids hp4 (by decide))).trans hp4
  have hp7 : (w6.setCell ⟨hb, 1, none⟩ (.slice A6 n6 c6)).heap[p]? = some (.cells #[rv id, .int .i64 x.slot] 63 (0, 0)) := (Below.heap_setCell w6 ⟨hb, 1, none⟩ _ p (fun e => by
    have := hp4
    rw [e] at this
    exact ty_ne HQ4.out.blk this (by decide))).trans hp6
  generalize w6.setCell ⟨hb, 1, none⟩ (.slice A6 n6 c6) = w7 at HQ7 hF7 hp7 ⊢
  have HF7 := Aside0.mk hF7
  have HP7 := Aside0.mk hp7
  clear hF4 hF7 hp4 hp6 hp7 hdel HD HS HCB HG6 k6 l6 k5 k1a K1 hlk c0 HG4
  have hq7 := HQ7.out
  have hfree := HI.out.free
  obtain ⟨Af, cf, ef⟩ := Kd.R_slice hq7.free
  obtain ⟨nf, hnf⟩ : ∃ nf, S.free.length = nf := ⟨_, rfl⟩
  rw [hnf] at ef
  obtain ⟨s, hs⟩ : ∃ s, x.slot = s := ⟨_, rfl⟩
  rw [hs] at HP7
  have HSL := Aside0.mk hs
  have HNF := Aside0.mk hnf
  have HEF := Aside0.mk ef
  have hnf4 : (nf : Int) ≤ 4000000000000 := by have := HI.out.cnt; have := HI.out.bd; have := HN.out; rw [← hnf]; omega
  obtain ⟨kx, hkx⟩ : ∃ kx, S.free.countP (fun y => decide (y < s)) = kx := ⟨_, rfl⟩
  have HKX := Aside0.mk hkx
  have hkl : kx ≤ nf := by rw [← hkx, ← hnf]; exact List.countP_le_length
  have hsf := fun q => search_calls vf S.free s (w7.drewN q) base O (Kd.R_drewN hq7.free q) (hfree.imp fun h => Int.le_of_lt h) (by rw [hnf]; omega)
  have hcf : S.free.contains s = false := by rw [List.contains_eq_mem]; exact decide_eq_false (by rw [← hs]; exact (HI.out.sl x HX.out.1).2.2)
  rw [hkx, hcf, ef] at hsf
  have HSF := Aside0.mk hsf
  have k2 : w7.cell? ⟨hb, 2, none⟩ = some (.slice Af nf cf) := by rw [← ef]; exact (blk_cell hq7.blk 2).trans rfl
  have r1 : w7.cell? ⟨p, 1, none⟩ = some (.int .i64 s) := (blk_cell HP7.out 1).trans rfl
  clear hq7 hfree ef hs hnf hkx hsf hcf
  go_quiet ((go_at_call 28; exact Calls.quiet_of (HSF.out _)))
  rename_i nq
  go_upto_region 8 with (fail)
  have hq8 := HQ7.out.below (pw_below_drewN (Below.refl _ _) nq)
  have hf8 := HF7.out.below (pw_below_drewN (Below.refl _ _) nq) (Nat.le_trans HBW.out HF7.out.low.size)
  have hp8 : (w7.drewN nq).heap[p]? = _ := HP7.out
  generalize w7.drewN nq = w8 at hq8 hf8 hp8 ⊢
  have HQ8 := Aside0.mk hq8
  have HF8 := Aside0.mk hf8
  have HP8 := Aside0.mk hp8
  clear HQ7 HF7 HP7 k2 r1 HSF hq8 hf8 hp8
  have k2 : w8.cell? ⟨hb, 2, none⟩ = some (.slice Af nf cf) := by rw [← HEF.out]; exact (blk_cell HQ8.out.blk 2).trans rfl
  have r1 : w8.cell? ⟨p, 1, none⟩ = some (.int .i64 s) := (blk_cell HP8.out 1).trans rfl
  have hin : ∀ W, Below w8.heap.size w8 W → W.heap[w8.heap.size]? = some (.cells #[.int .i64 s] 3 (0, 0)) → Calls Try.prog 30 #[vf, .int .i64 kx, .slice (some ⟨w8.heap.size, 0, none⟩) 1 1] W fun e w' => ∃ v', e = .returned v' ∧ ki.R 3 w' base (fun k => O k ∨ w8.heap.size ≤ k) v' (insAt S.free kx s) ∧ W.grownBy w' vf.ownBlock ∧ (v'.ownBlock = vf.ownBlock ∨ ∃ b, v'.ownBlock = some b ∧ W.heap.size ≤ b) ∧ Below w8.heap.size w8 W := fun W hB hbk => by
    refine (insert_calls vf S.free kx w8.heap.size s W base O (Kd.R_below HQ8.out.free hB) (by rw [HNF.out]; exact hkl) (Nat.le_trans (Nat.le_trans HBW.out HF8.out.low.size) hB.size) hbk (fun e => by
      obtain ⟨cells, hc⟩ := own_typed (Kd.R_own HQ8.out.free).choose_spec _ e
      have := blk_lt hc
      omega) (by rw [HNF.out]; omega)).mono fun e w' ⟨v', h1, h2, h3, h4⟩ => ⟨v', h1, Kd.R_mono h2 fun k hk => hk.imp (fun h => h) fun h => Nat.le_trans hB.size h, h3, h4, hB⟩
  have k2a : (w8.alloc (.cells #[.int .i64 s] 3)).cell? ⟨hb, 2, none⟩ = some (.slice Af nf cf) := by rw [← HEF.out]; exact (blk_cell (blk_alloc HQ8.out.blk _) 2).trans rfl
  rw [HEF.out] at hin
  have HIN := Aside0.mk hin
  clear hin
  go_cut [] (fun wc => ∃ v9, Aside0 (Hq base (fun k => O k ∨ w8.heap.size ≤ k) wc hb (cutAt S.ents (idxP S id)) (cutAt S.ids ix) (insAt S.free kx s) S.edge S.last mb (.slice A6 n6 c6) v9 cb rv) ∧ Aside0 (Fr base O w wc))
  case first =>
    go_region_law
      ((go_simp; go_at_call 30; refine (HIN.out _ ?_ ?_).mono ?_; (repeat (first | exact Below.refl _ _ | apply below_alloc | apply pw_below_drewN | apply below_drew1)); (exact heap_alloc_new w8 _); rintro e w9 ⟨v9, rfl, hr, hg, hv, hB⟩; rw [← HEF.out] at hg hv; have hqw := HQ8.out.below hB; have HQ9 := Aside0.mk (hqw.put2 hr (fun k h => .inl h) hg hv); have HG9 := Aside0.mk hg; have HB9 := Aside0.mk hB; have hbk := (hg.block hb (blk_lt hqw.blk) (Kd.R_ne hqw.free hqw.blk (by decide))).trans hqw.blk; have hpw := (hB.block p (blk_lt HP8.out)).trans HP8.out; have hpk := (hg.block p (blk_lt hpw) (Kd.R_ne hqw.free hpw (by decide))).trans hpw; have k9 : w9.cell? ⟨hb, 2, none⟩ = some (.slice Af nf cf) := (by rw [← HEF.out]; exact (blk_cell hbk 2).trans rfl); have r9 : w9.cell? ⟨p, 1, none⟩ = some (.int .i64 s) := (blk_cell hpk 1).trans rfl; have l9 : w9.frozen? ⟨hb, 2, none⟩ = false := frozen_of_row w9 hb 2 _ 57 hbk; obtain ⟨A9, c9, e9⟩ := Kd.R_slice hr; obtain ⟨n9, hn9⟩ : ∃ n9, (insAt S.free kx s).length = n9 := ⟨_, rfl⟩; rw [hn9] at e9; subst e9; have HN9 := Aside0.mk hn9; clear hr hg hv hB hqw hbk hpw hpk hn9))
    all_goals
      go_wp2
      go_meet
      case rel => exact ⟨_, HQ9, ⟨(((HF8.out.below HB9.out (Nat.le_trans HBW.out HF8.out.low.size)).grown (fun k hk => (HO.out k hk).1) HG9.out (Nat.le_trans (Nat.le_trans HBW.out HF8.out.low.size) HB9.out.size) (fun k hk => .inl (HQ8.out.free.1 k hk))).set (fun k hk => (HO.out k hk).1) HH.out.own.2.1 2 _)⟩⟩
  case rest =>
    obtain ⟨v9, HQ9, HF9⟩ := hcut
    clear k2 r1 k2a HIN
    go_upto_region 9 with (fail)
    have hw8 : w.heap.size ≤ w8.heap.size := HF8.out.low.size
    have HW8 := Aside0.mk hw8
    obtain ⟨A9, c9, e9⟩ := Kd.R_slice HQ9.out.free
    obtain ⟨n9, hn9⟩ : ∃ n9, (insAt S.free kx s).length = n9 := ⟨_, rfl⟩
    rw [hn9] at e9
    have HN9 := Aside0.mk hn9
    subst e9
    have k2 : wc.cell? ⟨hb, 2, none⟩ = some (.slice A9 n9 c9) := (blk_cell HQ9.out.blk 2).trans rfl
    have HF0 : Aside0 (∀ y ∈ insAt S.free kx s, 0 ≤ y) := ⟨fun y hy => by
      rcases (mem_insAt _ _ _ _).1 hy with rfl | hy
      · rw [← HSL.out]; exact (HI.out.sl x HX.out.1).1
      · exact (HI.out.frr y hy).1⟩
    have HE0 : Aside0 (0 ≤ S.edge ∧ S.edge ≤ 4000000000000) := ⟨by have := HI.out.cnt; have := HI.out.bd; have := HN.out; omega⟩
    clear HF8 HQ8 HP8 hn9 hw8
    go_wp2
    clear k2
    go_loopg [10] n9 (fun kq v10 W => ∃ (f : List Int) (ed : Int) (vf' : Value), v10 = .int .i64 f.length ∧ Aside0 (kq = f.length) ∧ Aside0 (Hq base (fun k => O k ∨ w8.heap.size ≤ k) W hb (cutAt S.ents (idxP S id)) (cutAt S.ids ix) f ed S.last mb (.slice A6 n6 c6) vf' cb rv) ∧ Aside0 (Fr base O w W) ∧
      Aside0 (trimN f.length f ed = trimN (insAt S.free kx s).length (insAt S.free kx s) S.edge) ∧ Aside0 (∀ y ∈ f, 0 ≤ y) ∧ Aside0 (0 ≤ ed ∧ ed ≤ 4000000000000 ∧ f.length ≤ 4000000000001))
    case atStart => exact ⟨insAt S.free kx s, S.edge, _, by rw [HN9.out], ⟨HN9.out.symm⟩, HQ9, HF9, ⟨rfl⟩, HF0, ⟨HE0.out.1, HE0.out.2, by rw [insAt_length _ _ _ (by rw [HNF.out]; exact hkl), HNF.out]; omega⟩⟩
    case round =>
      clear HQ9 HF9 HF0 HE0
      obtain ⟨f, ed, vf', rfl, HKQ, HQ, HF, HT, HP, HE⟩ := hrel
      have hed := HE.out
      by_cases h0 : f = []
      · subst h0
        have b1 : decide ((([] : List Int).length : Int) > 0) = false := rfl
        go_upto_region 10 with (fail)
        go_quiet (fail)
        go_wp2
        go_ret
        refine ⟨rfl, ?_, HF.out.below (pw_below_drewN (Below.refl _ _) _) (Nat.le_trans HBW.out HF.out.low.size)⟩
        have e1 : (dropP S id).ents = cutAt S.ents (idxP S id) ∧ (dropP S id).free = [] ∧ (dropP S id).edge = ed ∧ (dropP S id).last = S.last := by
          have ht := HT.out
          rw [← HKX.out, ← HSL.out] at ht
          unfold dropP
          rw [HX.out.2.2]
          show _ ∧ (trimN (insAt S.free (S.free.countP (fun y => decide (y < x.slot))) x.slot).length (insAt S.free (S.free.countP (fun y => decide (y < x.slot))) x.slot) S.edge).1 = [] ∧ (trimN (insAt S.free (S.free.countP (fun y => decide (y < x.slot))) x.slot).length (insAt S.free (S.free.countP (fun y => decide (y < x.slot))) x.slot) S.edge).2 = ed ∧ _
          rw [← ht]
          exact ⟨rfl, rfl, rfl, rfl⟩
        exact drop_fin HQ.out e1 HIX.out HF.out.low.size HW8.out _
      · have hrow := row_of HQ.out.free
        rcases hrow with ⟨_, e⟩ | ⟨g, cap, cur, ev, hOg, hbg, hgb, hlc, hcm, hcs, htk⟩
        · exact absurd e h0
        obtain ⟨j, hj⟩ : ∃ j, f.length = j + 1 := ⟨f.length - 1, by have := List.length_pos_iff.2 h0; omega⟩
        have y0 : wr.cell? ⟨g, j, none⟩ = some (.int .i64 (f.getD j 0)) := by
          have := row_cell hgb htk j (by omega)
          rwa [Nat.zero_add] at this
        have hy0 : 0 ≤ f.getD j 0 := by
          have : f.getD j 0 = f[j] := by simp [List.getD, hj]
          rw [this]; exact HP.out _ (List.getElem_mem _)
        have htr : trimN f.length f ed = if f.getD j 0 = ed - 1 then trimN j (f.take j) (ed - 1) else (f, ed) := by rw [hj]; rfl
        have hR' : ki.R 3 wr base (fun k => O k ∨ w8.heap.size ≤ k) (.slice (some ⟨g, 0, none⟩) j cap) (f.take j) := by
          have hlt : (f.take j).length = j := by rw [List.length_take]; omega
          have := row_mk (base := base) (ok := fun k => O k ∨ w8.heap.size ≤ k) (xs := f.take j) (cap := cap) hOg hbg hgb (by omega) hcm hcs (by
            have e2 : cur.toList.take (f.take j).length = (cur.toList.take f.length).take j := by rw [List.take_take, hlt, Nat.min_eq_left (by omega)]
            rw [e2, htk]; simp [encs])
          rwa [hlt] at this
        have HR := Aside0.mk hR'
        have HTR := Aside0.mk htr
        have HJ := Aside0.mk hj
        have HEV := Aside0.mk ev
        have c3 : wr.cell? ⟨hb, 3, none⟩ = some (.int .i64 ed) := (blk_cell HQ.out.blk 3).trans rfl
        have c2 : wr.cell? ⟨hb, 2, none⟩ = some (.slice (some ⟨g, 0, none⟩) (j + 1) cap) := by rw [← hj, ← ev]; exact (blk_cell HQ.out.blk 2).trans rfl
        have f2 : wr.frozen? ⟨hb, 2, none⟩ = false := frozen_of_row wr hb 2 _ 57 HQ.out.blk
        obtain ⟨y, hy⟩ : ∃ y, f.getD j 0 = y := ⟨_, rfl⟩
        rw [hy] at y0 hy0 HTR
        have hj4 : (j : Int) ≤ 4000000000000 := by omega
        have hcap : (j : Int) ≤ (cap : Int) := by omega
        have he0 : 0 ≤ ed := hed.1
        have he1 : ed ≤ 4000000000000 := hed.2.1
        rw [hj]
        have b1 : decide ((((j + 1 : Nat) : Int)) > 0) = true := decide_eq_true (by omega)
        have w1 : wrap64 (((j + 1 : Nat) : Int) - 1) = (j : Int) := by simp only [wrap64]; omega
        have w2 : IntKind.i64.wrap (((j + 1 : Nat) : Int) - 1) = (j : Int) := by rw [IntKind.wrap_i64]; omega
        have w3 : ((j : Int)).toNat = j := by omega
        have j0 : (0 : Int) ≤ (j : Int) := by omega
        have j1 : (j : Int) < ((j + 1 : Nat) : Int) := by omega
        clear hy hed htr hR' hj ev hlc hcm hcs htk hgb hbg hOg h0
        by_cases heq : y = ed - 1
        · have b2 : (y == ed - 1) = true := beq_iff_eq.2 heq
          have HEQ := Aside0.mk heq
          clear heq
          go_upto_region 10 with (fail)
          go_quiet (fail)
          go_upto_region 12 with (fail)
          have HQ1 := Aside0.mk (HQ.out.below (pw_below_drewN (Below.refl _ _) nq))
          have HF1 := Aside0.mk (HF.out.below (pw_below_drewN (Below.refl _ _) nq) (Nat.le_trans HBW.out HF.out.low.size))
          have HR1 := Aside0.mk (Kd.R_drewN HR.out nq)
          have k2 : (wr.drewN nq).cell? ⟨hb, 2, none⟩ = some (.slice (some ⟨g, 0, none⟩) (j + 1) cap) := c2
          have l2 : (wr.drewN nq).frozen? ⟨hb, 2, none⟩ = false := f2
          clear c2 f2 c3 y0 b1 b2 HQ HF HR
          generalize wr.drewN nq = W1 at HQ1 HF1 HR1 k2 l2 ⊢
          have hq2 := HQ1.out.put2 HR1.out (fun _ h => h) (grown_refl W1 _) (.inl (by rw [HEV.out]; rfl))
          have HQ3 := Aside0.mk (hq2.set3 (ed - 1))
          have HF3 := Aside0.mk ((HF1.out.set (fun k hk => (HO.out k hk).1) HH.out.own.2.1 2 (.slice (some ⟨g, 0, none⟩) j cap)).set (fun k hk => (HO.out k hk).1) HH.out.own.2.1 3 (.int .i64 (ed - 1)))
          have k3 : (W1.setCell ⟨hb, 2, none⟩ (.slice (some ⟨g, 0, none⟩) j cap)).cell? ⟨hb, 3, none⟩ = some (.int .i64 ed) := (blk_cell hq2.blk 3).trans rfl
          have l3 : (W1.setCell ⟨hb, 2, none⟩ (.slice (some ⟨g, 0, none⟩) j cap)).frozen? ⟨hb, 3, none⟩ = false := frozen_of_row _ hb 3 _ 57 hq2.blk
          clear hq2
          go_wp2
          go_roundg j
          case measure => have := HKQ.out; have := HJ.out; omega
          case rel => exact ⟨f.take j, ed - 1, _, by rw [List.length_take, Nat.min_eq_left (by have := HJ.out; omega)], ⟨by rw [List.length_take, Nat.min_eq_left (by have := HJ.out; omega)]⟩, HQ3, HF3, ⟨by rw [← HT.out, HTR.out, if_pos HEQ.out, List.length_take, Nat.min_eq_left (by have := HJ.out; omega)]⟩, ⟨fun z hz => HP.out z (List.mem_of_mem_take hz)⟩, ⟨by have := HEQ.out; omega, by omega, by rw [List.length_take]; omega⟩⟩
        · have b2 : (y == ed - 1) = false := beq_eq_false_iff_ne.2 heq
          have HNE := Aside0.mk heq
          clear heq
          go_upto_region 10 with (fail)
          go_quiet (fail)
          go_wp2
          go_ret
          refine ⟨rfl, ?_, HF.out.below (pw_below_drewN (Below.refl _ _) _) (Nat.le_trans HBW.out HF.out.low.size)⟩
          have e1 : (dropP S id).ents = cutAt S.ents (idxP S id) ∧ (dropP S id).free = f ∧ (dropP S id).edge = ed ∧ (dropP S id).last = S.last := by
            have ht := HT.out
            rw [HTR.out, if_neg HNE.out, ← HKX.out, ← HSL.out] at ht
            unfold dropP
            rw [HX.out.2.2]
            show _ ∧ (trimN (insAt S.free (S.free.countP (fun y => decide (y < x.slot))) x.slot).length (insAt S.free (S.free.countP (fun y => decide (y < x.slot))) x.slot) S.edge).1 = f ∧ (trimN (insAt S.free (S.free.countP (fun y => decide (y < x.slot))) x.slot).length (insAt S.free (S.free.countP (fun y => decide (y < x.slot))) x.slot) S.edge).2 = ed ∧ _
            rw [← ht]
            exact ⟨rfl, rfl, rfl, rfl⟩
          exact drop_fin HQ.out e1 HIX.out HF.out.low.size HW8.out _
end Go.Proofs.Ytgbjilcfgpbcgaa
