import Derived.Test.YtfnmploaklboiaaZtP5
import Derived.Test.YtfnmploaklboiaaZtVx6
/- Layer 22: the plain law, tenth part: the program's changes is the document's. -/
namespace Go.Proofs.Ytfnmploaklboiaa
open Go.RowKit Go.Proofs.YtfnmploaklboiaaW.PrintWords V A
set_option linter.unusedSimpArgs false
set_option linter.unusedVariables false
theorem cntO_zero' (n : Int) (r : List S33) (h : ∀ x ∈ r, x.f0 ≠ n) : cntO [n] r = 0 := by
  refine List.countP_eq_zero.2 fun x hx => ?_
  simp [h x hx]
end Go.Proofs.Ytfnmploaklboiaa
