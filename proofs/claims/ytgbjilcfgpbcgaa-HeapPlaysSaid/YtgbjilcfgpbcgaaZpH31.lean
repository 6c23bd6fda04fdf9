import Derived.Test.YtgbjilcfgpbcgaaZpH30
/- Layer 8: the reference's Add, Drop, Back, walked. -/
namespace Go.Proofs.Ytgbjilcfgpbcgaa
open Go.RowKit Go.Proofs.YtgbjilcfgpbcgaaW.PrintWords Go.Proofs.YtgbjilcfgpbcgaaW.PrintLast Go.Proofs.YtgbjilcfgpbcgaaW.PrintMore
set_option linter.unusedSimpArgs false
set_option linter.unusedVariables false
theorem R8.cell1 {B : Nat} {w : World} {g : Nat} {sl : List S51} {la : Int} {O : Nat → Prop} (h : R8 B w g sl la O) : w.cell? ⟨g, 1, none⟩ = some (.int .i64 la) ∧ w.frozen? ⟨g, 1, none⟩ = false := by
  obtain ⟨⟨vs, ha⟩, _⟩ := h
  exact ⟨(blk_cell ha.blk 1).trans rfl, frozen_of_row w g 1 _ 48 ha.blk⟩
theorem R8.set1 {B : Nat} {w : World} {g : Nat} {sl : List S51} {la : Int} {O : Nat → Prop} (h : R8 B w g sl la O) (x : Int) : R8 B (w.setCell ⟨g, 1, none⟩ (.int .i64 x)) g sl x O ∧ Fr B O w (w.setCell ⟨g, 1, none⟩ (.int .i64 x)) := by
  obtain ⟨⟨vs, ha⟩, ho, hb, hd⟩ := h
  have hs : (w.setCell ⟨g, 1, none⟩ (.int .i64 x)).heap.size = w.heap.size := by simp
  refine ⟨⟨⟨vs, ⟨?_, ha.own, ?_⟩⟩, fun k hk => by rw [hs]; exact ho k hk, by rw [hs]; exact hb, hd⟩, (Fr.refl B O w).set (fun k hk => (ho k hk).1) ha.own.2 1 _⟩
  · exact (heap_setCell_same w g 1 _ 48 (.int .i64 x) ha.blk).trans rfl
  · exact Kd.R_set ha.slots ha.blk (fun q hq => by
      rcases List.mem_cons.1 hq with rfl | hq
      · decide
      · have : q = 5 := by simpa [k51, Go.Proofs.Ytgbjilcfgpbcgaa.B.k51, Kd.iso, Kd.pair, Kd.slice, Kd.int, Kd.scalar] using hq
        subst this; decide) 1 _
theorem Nr.same {B : Nat} {w w' : World} {g : Nat} {sl : List S51} {la : Int} {O : Nat → Prop} (h : R8 B w g sl la O) (hB : Below w.heap.size w w') : Nr B w g O sl la w' (grow O w w') := by
  refine ⟨?_, ⟨hB.mono h.base, Kept.of_below hB _⟩, old_grow⟩
  have h1 := h.below hB
  obtain ⟨⟨vs, ha⟩, ho, hbb, hd⟩ := h1
  exact ⟨⟨vs, ha.blk, ⟨ha.own.1, .inl ha.own.2⟩, Kd.R_mono ha.slots fun k hk => .inl hk⟩, own_bound h.own h.base hB.size, hbb, hd⟩
theorem R8.mono {B : Nat} {w : World} {g : Nat} {sl : List S51} {la : Int} {O O' : Nat → Prop} (h : R8 B w g sl la O) (h1 : ∀ k, O k → O' k) (h2 : ∀ k, O' k → B ≤ k ∧ k < w.heap.size) : R8 B w g sl la O' := by
  obtain ⟨⟨vs, ha⟩, ho, hbb, hd⟩ := h
  exact ⟨⟨vs, ha.blk, ⟨ha.own.1, h1 _ ha.own.2⟩, Kd.R_mono ha.slots h1⟩, h2, hbb, hd⟩
theorem Nr.after {B : Nat} {w w1 w2 : World} {g : Nat} {sl sl' : List S51} {la la' : Int} {O : Nat → Prop} (h : Nr B w1 g O sl' la' w2 (grow O w1 w2)) (h0 : R8 B w g sl la O) (hB : Below w.heap.size w w1) : Nr B w g O sl' la' w2 (grow O w w2) := by
  have hs : w.heap.size ≤ w2.heap.size := Nat.le_trans hB.size h.fr.low.size
  exact ⟨h.heap.mono (fun k hk => hk.imp (fun h => h) fun hk => ⟨Nat.le_trans hB.size hk.1, hk.2⟩) (own_bound h0.own h0.base hs), ((Fr.refl B O w).below hB h0.base).trans h.fr, old_grow⟩
set_option maxHeartbeats 4000000 in
theorem addR_calls {B : Nat} {w : World} {g : Nat} {sl : List S51} {la : Int} {O : Nat → Prop} (h : R8 B w g sl la O) (hbd : sl.length + 1 ≤ 4000000000000) (hla : 0 ≤ la ∧ la ≤ 4000000000000) (A : Option Addr) (n c : Nat) (xs : List Int) (hl : xs.length = n) (hc : n ≤ c) (hC : ∀ W, Kept w W O → kb.C W A n xs) (hn : n ≤ 140737488355328) {j : Nat} (hj : FirstFree sl j) :
    Calls Try.prog 18 #[.pointer (some ⟨g, 0, none⟩), .slice A n c] w fun e w' => e = .returned (.int .i64 (la + 1)) ∧ Nr B w g O (layR sl j ⟨la + 1, xs⟩) (la + 1) w' (grow O w w') := by
  obtain ⟨k1, f1⟩ := h.cell1
  obtain ⟨h1, hf1⟩ := h.set1 (la + 1)
  have hlay := layR_calls h1 hbd (la + 1) A n c xs hl hc (hC _ hf1.kept) hn hj
  have k2 := h1.cell1.1
  have HLAY := Aside0.mk hlay
  have HF1 := Aside0.mk hf1
  have l0 := hla.1
  have l1 := hla.2
  have w1 : wrap64 (la + 1) = la + 1 := by simp only [wrap64]; omega
  have w2 : IntKind.i64.wrap (la + 1) = la + 1 := by rw [IntKind.wrap_i64]; omega
  clear h h1 hf1 hlay hbd hla hl hc hC hn hj
  go_enter Try.func18, Try.ntmps18
  go_wp2_with (first | (go_at_call 32; (with_reducible refine HLAY.out.mono ?_); rintro e w3 ⟨rfl, hn⟩; have k3 := hn.heap.cell1.1; have HN := Aside0.mk hn; clear hn))
  go_ret
  have e1 : grow O (w.setCell ⟨g, 1, none⟩ (.int .i64 (la + 1))) w3 = grow O w w3 := by unfold grow; simp
  have hh := HN.out.heap
  rw [e1] at hh
  exact ⟨rfl, ⟨hh, HF1.out.trans HN.out.fr, old_grow⟩⟩
set_option maxHeartbeats 4000000 in
theorem dropR_calls {B : Nat} {w : World} {g : Nat} {sl : List S51} {la : Int} {O : Nat → Prop} (h : R8 B w g sl la O) (hbd : sl.length + 1 ≤ 4000000000000) (id : Int) :
    Calls Try.prog 19 #[.pointer (some ⟨g, 0, none⟩), .int .i64 id] w fun e w' => ∃ r, FindRes sl id r ∧ e = .returned (.bool (decide (r ≥ 0))) ∧ Nr B w g O (if r ≥ 0 then sl.set r.toNat ⟨0, []⟩ else sl) la w' (grow O w w') := by
  have HF := Aside0.mk (h.find id)
  have H := Aside0.mk h
  have HBD := Aside0.mk hbd
  clear h hbd
  go_enter Try.func19, Try.ntmps19
  go_upto_region 2 with (first | (go_at_call 21; (with_reducible refine HF.out.mono ?_); rintro e w1 ⟨r, rfl, hr, hb⟩; have HR := Aside0.mk hr; have HB := Aside0.mk hb; clear hr hb))
  by_cases h0 : r ≥ 0
  · rcases HR.out with ⟨j, hj, rfl, h2, h3⟩ | ⟨h2, _⟩
    · have HJ := Aside0.mk hj
      obtain ⟨⟨vs, ha⟩, ho, hbb, hd⟩ := H.out
      have hB := HB.out
      obtain ⟨b, cap, cur, hvb, hOb, hcur, hsz⟩ := slots_form (Kd.R_below ha.slots hB) (by omega)
      subst hvb
      have hgk := (hB.block g (blk_lt ha.blk)).trans ha.blk
      obtain ⟨ln, hln⟩ : ∃ ln, sl.length = ln := ⟨_, rfl⟩
      have HLN := Aside0.mk hln
      have HA := Aside0.mk ha
      have HO := Aside0.mk ho
      have HBB := Aside0.mk hbb
      rw [hln] at hgk hsz hj
      have g0 : w1.cell? ⟨g, 0, none⟩ = some (.slice (some ⟨b, 0, none⟩) ln cap) := (blk_cell hgk 0).trans rfl
      obtain ⟨o0, z0⟩ : ∃ o0, w1.cell? ⟨b, j * 2, none⟩ = some o0 := ⟨_, (blk_cell hcur (j * 2)).trans (Array.getElem?_eq_getElem (by omega))⟩
      obtain ⟨o1, z1⟩ : ∃ o1, w1.cell? ⟨b, j * 2 + 1, none⟩ = some o1 := ⟨_, (blk_cell hcur (j * 2 + 1)).trans (Array.getElem?_eq_getElem (by omega))⟩
      have y0 : w1.frozen? ⟨b, j * 2, none⟩ = false := frozen_of_row w1 b _ _ 51 hcur
      have y1 : w1.frozen? ⟨b, j * 2 + 1, none⟩ = false := frozen_of_row w1 b _ _ 51 hcur
      have q1 : decide ((j : Int) ≥ 0) = true := decide_eq_true (by omega)
      have j0 : (0 : Int) ≤ (j : Int) := by omega
      have j1 : (j : Int) < (ln : Int) := by omega
      have j2 : ((j : Int)).toNat = j := by omega
      clear h0 hj hgk hcur hsz hln ha ho hbb hd hB hOb
      go_wp2
      go_ret
      refine ⟨(j : Int), HR.out, ret_bool (a := true) (decide_eq_true (show (j : Int) ≥ 0 by omega)).symm, ?_⟩
      rw [if_pos (show (j : Int) ≥ 0 by omega), j2]
      have ha2 := HA.out
      rw [HLN.out] at ha2
      exact lay_fin_put ha2 HO.out HBB.out HBD.out HB.out ⟨0, []⟩ (Kd.R_nil _ _ _ _ _) j (by have := HJ.out; rw [HLN.out] at this; exact this)
    · omega
  · have q1 : decide (r ≥ 0) = false := decide_eq_false h0
    have H0 := Aside0.mk h0
    clear h0
    go_wp2
    go_ret
    refine ⟨r, HR.out, ret_bool (a := false) (decide_eq_false (by have := H0.out; omega)).symm, ?_⟩
    rw [if_neg (by have := H0.out; omega)]
    exact Nr.same H.out HB.out
set_option maxHeartbeats 4000000 in
theorem backR_calls {B : Nat} {w : World} {g : Nat} {S : St} {N : Int} {sl : List S51} {la : Int} {O : Nat → Prop} (h : R8 B w g sl la O) (hI : Inv N S) (hr : Rel S sl) (hls : S.last = la) (hbd : sl.length + 1 ≤ 4000000000000) (id : Int) (A : Option Addr) (n c : Nat) (xs : List Int) (hl : xs.length = n) (hc : n ≤ c) (hC : ∀ W, Below w.heap.size w W → kb.C W A n xs) (hn : n ≤ 140737488355328) {j : Nat} (hj : FirstFree sl j) :
    Calls Try.prog 20 #[.pointer (some ⟨g, 0, none⟩), .int .i64 id, .slice A n c] w fun e w' => e = .returned (.bool (backB S id)) ∧ Nr B w g O (if backB S id = true then layR sl j ⟨id, xs⟩ else sl) la w' (grow O w w') := by
  have H := Aside0.mk h
  obtain ⟨k1, _⟩ := h.cell1
  by_cases h1 : id < 1
  · have e : backB S id = false := by unfold backB; rw [decide_eq_false (show ¬ 1 ≤ id by omega)]; rfl
    have d1 : decide (id < 1) = true := decide_eq_true h1
    rw [e, if_neg (by decide)]
    clear h hI hr hls hbd hl hc hC hn hj h1 e
    go_enter Try.func20, Try.ntmps20
    go_wp2
    go_ret
    exact ⟨rfl, Nr.same H.out (Below.refl _ _)⟩
  · have d1 : decide (id < 1) = false := decide_eq_false h1
    by_cases h2 : id > la
    · have e : backB S id = false := by unfold backB; rw [decide_eq_false (show ¬ id ≤ S.last by omega)]; simp
      have d2 : decide (id > la) = true := decide_eq_true h2
      rw [e, if_neg (by decide)]
      clear h hI hr hls hbd hl hc hC hn hj h1 h2 e
      go_enter Try.func20, Try.ntmps20
      go_wp2
      go_ret
      exact ⟨rfl, Nr.same H.out (Below.refl _ _)⟩
    · have d2 : decide (id > la) = false := decide_eq_false h2
      have HF := Aside0.mk (h.find id)
      have HFR := Aside0.mk (fun r => find_rel hI hr (id := id) (r := r))
      cases hf : findP S id with
      | some x =>
        have e : backB S id = false := by unfold backB; rw [hf]; simp
        have hx0 := (hI.sl x (find_some hf).1).1
        rw [e, if_neg (by decide)]
        rw [hf] at HFR
        have HX := Aside0.mk hx0
        clear h hI hr hls hbd hl hc hC hn hj h1 h2 e hx0 hf
        go_enter Try.func20, Try.ntmps20
        go_wp2_with (first | (go_at_call 21; (with_reducible refine HF.out.mono ?_); rintro e w1 ⟨r, rfl, hr, hb⟩; have q3 : decide (r ≥ 0) = true := decide_eq_true (by rw [HFR.out r hr]; exact HX.out); have HB := Aside0.mk hb; clear hr hb))
        go_ret
        exact ⟨rfl, Nr.same H.out HB.out⟩
      | none =>
        have e : backB S id = true := by
          unfold backB
          rw [hf, decide_eq_true (show 1 ≤ id by omega), decide_eq_true (show id ≤ S.last by omega)]; rfl
        rw [e, if_pos rfl]
        rw [hf] at HFR
        have HL := Aside0.mk (fun (W : World) (hb : Below w.heap.size w W) => layR_calls (h.below hb) hbd id A n c xs hl hc (hC W hb) hn hj)
        clear h hI hr hls hbd hl hc hC hn hj h1 h2 e hf
        go_enter Try.func20, Try.ntmps20
        go_wp2_with (first
          | (go_at_call 21; (with_reducible refine HF.out.mono ?_); rintro e w1 ⟨r, rfl, hr, hb⟩; have q3 : decide (r ≥ 0) = false := decide_eq_false (by rw [HFR.out r hr]; decide); have HB := Aside0.mk hb; clear hr hb)
          | (go_at_call 32; (with_reducible refine (HL.out _ HB.out).mono ?_); rintro e w2 ⟨rfl, hn⟩; have HN := Aside0.mk hn; clear hn))
        go_ret
        exact ⟨rfl, HN.out.after H.out HB.out⟩
end Go.Proofs.Ytgbjilcfgpbcgaa
