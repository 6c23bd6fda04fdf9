import Derived.Test.YtfnmploaklboiaaZtD2
/- Layer 22: CoverStronger, walked where the plan is not covered. -/
namespace Go.Proofs.Ytfnmploaklboiaa
open Go.RowKit Go.Proofs.YtfnmploaklboiaaW.PrintWords Go.Proofs.YtfnmploaklboiaaW.PrintLast Go.Proofs.YtfnmploaklboiaaW.PrintMore A V
set_option linter.unusedSimpArgs false
set_option linter.unusedVariables false
theorem check_no (w : World) (t : ByteArray) (A : Option Addr) (l : List S33) (c : Nat) (hC : Kd.C k33 w A l.length l) (hcap : l.length ≤ c) (hlen : l.length ≤ 100000000000000) (hts : t.size ≤ maxLen)
    (hs : ∀ x ∈ l, x.f5.size ≤ maxLen ∧ -9223372036854775808 ≤ x.f1 ∧ x.f1 < 9223372036854775808) (hck : ckB t l = false) :
    Calls Try.prog 8 #[.agg #[.string t, .slice A l.length c]] w fun e w' => e = .returned (.int .i64 240) ∧ Below w.heap.size w w' := by
  have h := check_calls w t A l c hC hcap hlen hts hs
  rw [hck] at h
  exact h
end Go.Proofs.Ytfnmploaklboiaa
