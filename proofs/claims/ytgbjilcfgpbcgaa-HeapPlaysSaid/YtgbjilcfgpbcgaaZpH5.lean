import Derived.Test.YtgbjilcfgpbcgaaZpH4
/- Layer 8: slot, walked. -/
namespace Go.Proofs.Ytgbjilcfgpbcgaa
open Go.RowKit Go.Proofs.YtgbjilcfgpbcgaaW.PrintWords Go.Proofs.YtgbjilcfgpbcgaaW.PrintLast Go.Proofs.YtgbjilcfgpbcgaaW.PrintMore
set_option linter.unusedSimpArgs false
set_option linter.unusedVariables false
theorem ret_int {k : IntKind} {a b : Int} (h : a = b) : Ending.returned (.int k a) = .returned (.int k b) := by rw [h]
theorem Fr.set {base : Nat} {O : Nat → Prop} {w w' : World} (h : Fr base O w w') (hO : ∀ k, O k → base ≤ k) {b : Nat} (hb : O b) (j : Nat) (u : Value) : Fr base O w (w'.setCell ⟨b, j, none⟩ u) :=
  ⟨h.low.setCell (hO b hb) u, h.kept.setCell (.inl hb) u⟩
theorem Fr.grown {base : Nat} {O : Nat → Prop} {w w1 w2 : World} {row : Option Nat} (h : Fr base O w w1) (hO : ∀ k, O k → base ≤ k) (hg : w1.grownBy w2 row) (hb : base ≤ w1.heap.size) (hr : ∀ k, row = some k → O k ∨ (base ≤ k ∧ w.heap.size ≤ k)) : Fr base O w w2 := by
  refine ⟨h.low.trans ⟨hg.os, hg.tape, hg.output, hg.size, fun k hk => hg.block k (Nat.lt_of_lt_of_le hk hb) fun e => ?_⟩, Kept.of_grown hg h.kept fun k hk => (hr k hk).imp id And.right⟩
  rcases hr k e.symm with h1 | h1
  · have := hO k h1; omega
  · omega
set_option maxHeartbeats 4000000 in
set_option maxRecDepth 100000 in
theorem slot_calls {base : Nat} {O : Nat → Prop} {w : World} {hb : Nat} {S : St} {mb : Nat} {vi vf : Value} {cb : Int → Nat} {rv : Int → Value} {N : Int} (h : Hp base O w hb S mb vi vf cb rv) (hI : Inv N S) (hN : N ≤ 4000000000000) (hO : ∀ k, O k → base ≤ k) (hbw : base ≤ w.heap.size) :
    Calls Try.prog 35 #[.pointer (some ⟨hb, 0, none⟩)] w fun e w' => e = .returned (.int .i64 (slotP S).1) ∧ ∃ vf', Hp base O w' hb (slotP S).2 mb vi vf' cb rv ∧ Fr base O w w' := by
  have HH := Aside0.mk h
  have HI := Aside0.mk hI
  have HN := Aside0.mk hN
  have HO := Aside0.mk hO
  have HBW := Aside0.mk hbw
  have f2 : w.frozen? ⟨hb, 2, none⟩ = false := frozen_of_row w hb 2 _ 57 h.blk
  have f3 : w.frozen? ⟨hb, 3, none⟩ = false := frozen_of_row w hb 3 _ 57 h.blk
  have c3 : w.cell? ⟨hb, 3, none⟩ = some (.int .i64 S.edge) := (blk_cell h.blk 3).trans rfl
  have c2 : w.cell? ⟨hb, 2, none⟩ = some vf := (blk_cell h.blk 2).trans rfl
  cases hf : S.free with
  | nil =>
    obtain ⟨A, c, ev⟩ := Kd.R_slice h.free
    rw [hf] at ev
    subst ev
    have hs1 : (slotP S).1 = S.edge := by unfold slotP; rw [hf]
    have hs2 : (slotP S).2 = { S with edge := S.edge + 1 } := by unfold slotP; rw [hf]
    rw [hs1, hs2]
    have e63 : S.edge ≤ 4000000000000 := by have := hI.bd; omega
    have e0 : 0 ≤ S.edge := by have := hI.cnt; omega
    have hset := h.set3 (S.edge + 1)
    have d3 : (w.setCell ⟨hb, 3, none⟩ (.int .i64 (S.edge + 1))).cell? ⟨hb, 3, none⟩ = some (.int .i64 (S.edge + 1)) := (blk_cell hset.blk 3).trans rfl
    have HS := Aside0.mk hset
    clear hI hN hO hbw h hs1 hs2 hf hset
    obtain ⟨ed, hed⟩ : ∃ ed, S.edge = ed := ⟨_, rfl⟩
    rw [hed] at c3 e63 e0 d3 HS
    rw [hed]
    have HED := Aside0.mk hed
    clear hed
    go_enter Try.func35, Try.ntmps35
    go_wp2
    go_ret
    exact ⟨ret_int (by omega), _, HS.out, (Fr.refl base O w).set HO.out HH.out.own.2.1 3 _⟩
  | cons s r =>
    have hs1 : (slotP S).1 = s := by unfold slotP; rw [hf]
    have hs2 : (slotP S).2 = { S with free := r } := by unfold slotP; rw [hf]
    rw [hs1, hs2]
    have hRf := h.free
    rw [hf] at hRf
    rcases row_of hRf with ⟨_, e⟩ | ⟨g, cap, cur, ev, hOg, hbg, hgb, hlc, hcm, hcs, htk⟩
    · cases e
    have x0 : w.cell? ⟨g, 0, none⟩ = some (.int .i64 s) := by
      have := row_cell hgb htk 0 (by simp)
      simpa using this
    have hD : Calls Try.prog 29 #[vf, .int .i64 0, .int .i64 1] w fun e w' => ∃ v', e = .returned v' ∧ ki.R 3 w' base O v' r ∧ v'.ownBlock = vf.ownBlock ∧ w.grownBy w' vf.ownBlock := delete_calls vf (s :: r) 0 1 w base O hRf (by omega) (by simp)
    subst ev
    obtain ⟨n, hn⟩ : ∃ n, (s :: r).length = n := ⟨_, rfl⟩
    have hn0 : 0 < n := by rw [← hn]; simp
    have HD := Aside0.mk hD
    rw [hn] at c2 HD HH
    have b1 : decide ((n : Int) > 0) = true := decide_eq_true (by omega)
    have hne : g ≠ hb := fun e => by rw [e] at hgb; exact ty_ne h.blk hgb (by decide)
    have HNE := Aside0.mk hne
    have HNG := Aside0.mk hOg
    clear hI hN hO hbw h hs1 hs2 hf hRf hOg hbg hgb hlc hcm hcs htk hn hD hne
    go_enter Try.func35, Try.ntmps35
    go_wp2_with (first | (go_at_call 29; (with_reducible refine HD.out.mono ?_); rintro e w2 ⟨v2, rfl, hr, hv, hg⟩; obtain ⟨A2, c2', ev2⟩ := Kd.R_slice hr; have HP := Aside0.mk (HH.out.put2 hr (fun _ h => h) hg (.inl hv)); have HG := Aside0.mk hg; have hbk := (hg.block hb (blk_lt HH.out.blk) (by intro e; injection e with e; exact HNE.out e.symm)).trans HH.out.blk; have k2 : w2.cell? ⟨hb, 2, none⟩ = some (.slice (some ⟨g, 0, none⟩) n cap) := (blk_cell hbk 2).trans rfl; have l2 : w2.frozen? ⟨hb, 2, none⟩ = false := frozen_of_row w2 hb 2 _ 57 hbk; clear hr hv hg hbk; obtain ⟨m, hm⟩ : ∃ m, r.length = m := ⟨_, rfl⟩; rw [hm] at ev2; subst ev2; clear hm))
    go_ret
    exact ⟨ret_int rfl, _, HP.out, ((Fr.refl base O w).grown HO.out HG.out HBW.out (fun k hk => .inl (by injection hk with hk; rw [← hk]; exact HNG.out))).set HO.out HH.out.own.2.1 2 _⟩
end Go.Proofs.Ytgbjilcfgpbcgaa
