import Derived.Test.YtfnmploaklboiaaZsD2
/- Layer 22: CoverStronger, walked where the plan is not covered. -/
namespace Go.Proofs.Ytfnmploaklboiaa
open Go.RowKit Go.Proofs.YtfnmploaklboiaaW.PrintWords Go.Proofs.YtfnmploaklboiaaW.PrintLast Go.Proofs.YtfnmploaklboiaaW.PrintMore A V
set_option linter.unusedSimpArgs false
set_option linter.unusedVariables false
theorem check_no (w : World) (t : ByteArray) (A : Option Addr) (l : List S33) (c : Nat) (hC : Kd.C k33 w A l.length l) (hcap : l.length ≤ c) (hlen : l.length ≤ 100000000000000) (hts : t.size ≤ maxLen)
    (hs : ∀ x ∈ l, x.f5.size ≤ maxLen ∧ -9223372036854775808 ≤ x.f1 ∧ x.f1 < 9223372036854775808) (hck : ckB t l = false) :
    Calls Try.prog 8 #[.agg #[.string t, .slice A l.length c]] w fun e w' => e = .returned (.int .i64 240) ∧ Below w.heap.size w w' := by
  have h := check_calls w t A l c hC hcap hlen hts hs
  rw [hck] at h
  exact h
set_option maxHeartbeats 8000000 in
set_option maxRecDepth 100000 in
theorem stronger_no (w : World) (t : ByteArray) (A : Option Addr) (l : List S33) (c : Nat) (tab : ByteArray) (mode : Int) (hC : Kd.C k33 w A l.length l) (hcap : l.length ≤ c) (hlen : l.length ≤ 100000000000000) (hts : t.size ≤ maxLen)
    (hs : ∀ x ∈ l, x.f5.size ≤ maxLen ∧ -9223372036854775808 ≤ x.f1 ∧ x.f1 < 9223372036854775808) (hck : ckB t l = false) :
    Calls Try.prog 5 #[.agg #[.string t, .slice A l.length c], .string tab, .int .i64 mode] w fun e w' => e = .returned (.bool true) ∧ Below w.heap.size w w' := by
  have HC := Aside0.mk hC
  have HCAP := Aside0.mk hcap
  have HL := Aside0.mk hlen
  have HT := Aside0.mk hts
  have HS := Aside0.mk hs
  have HCK := Aside0.mk hck
  clear hC hcap hlen hts hs hck
  go_enter Try.func5, Try.ntmps5
  go_upto_region 1 with (fail)
  have hgp := heap_alloc_new w (.cells #[.string t, .slice A l.length c] 25)
  have hb0 := Below.alloc (Below.refl w.heap.size w) (Nat.le_refl _) (.cells #[.string t, .slice A l.length c] 25)
  obtain ⟨gp, hgpe⟩ : ∃ gp, w.heap.size = gp := ⟨_, rfl⟩
  generalize w.alloc (.cells #[.string t, .slice A l.length c] 25) = W0 at hgp hb0 ⊢
  have HGP := Aside0.mk hgp
  have HB0 := Aside0.mk hb0
  clear hgp hb0
  rw [hgpe]
  go_wp2_with (first
    | (go_at_call 7; (with_reducible refine (hasplaw22_speaks.calls true _ speaks_ok).mono ?_); rintro e w2 ⟨rfl, hb⟩; have HB1 := Aside0.mk (below_step HB0.out hb); have HGP1 := Aside0.mk ((hb.block w.heap.size (blk_lt HGP.out)).trans HGP.out); clear HB0 HGP hb; rw [hgpe] at HGP1; have c0 : w2.cell? ⟨gp, 0, none⟩ = some (.string t) := (blk_cell HGP1.out 0).trans rfl; have c1 : w2.cell? ⟨gp, 1, none⟩ = some (.slice A l.length c) := (blk_cell HGP1.out 1).trans rfl)
    | (go_at_call 8; (with_reducible refine (check_no _ t A l c (Kd.C_below HC.out HB1.out) HCAP.out HL.out HT.out HS.out HCK.out).mono ?_); rintro e w3 ⟨rfl, hb⟩; have HB2 := Aside0.mk (below_step HB1.out hb); clear hb))
  go_ret
  exact ⟨by first | rfl | simp, HB2.out⟩
end Go.Proofs.Ytfnmploaklboiaa
