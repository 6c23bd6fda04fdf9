import Derived.Test.YtnjobnkkpfaigaaZfVx0
import Derived.Test.YtnjobnkkpfaigaaZfVx7
namespace Go.Proofs.Ytnjobnkkpfaigaa.V
open Go.RowKit Go.Proofs.YtnjobnkkpfaigaaW.PrintWords Go.Proofs.YtnjobnkkpfaigaaW.PrintLast Go.Proofs.YtnjobnkkpfaigaaW.PrintMore Go.Proofs.Ytnjobnkkpfaigaa.A
attribute [local go_sem] max2_int min2_int max_two min_two max_three min_three max_four min_four   -- for this text's walks alone
set_option linter.unusedVariables false
set_option linter.unusedSimpArgs false
/-! ### haspref06_Fit: function 14 -/
def haspref06_Fit.l0 : Nat → List (S47) → List (S43) → Int → Option (Int)
  | 0, _, _, _ => none
  | k + 1, x0, x1, x5 => if x5 < (x1.length : Int) then (if 0 ≤ x5 then ((haspref02_Check.f k ((rd_T43 x1 x5).f0) ((rd_T43 x1 x5).f1) ((rd_T43 x1 x5).f2)).bind fun t153 => (if t153 = 0 then (if ((rd_T43 x1 x5).f0) = 0 then (if x5 < (x0.length : Int) then (if (rd_T47 x0 x5).f2 = true then (some 60) else (haspref06_Fit.l0 k x0 x1 (wrap64 (x5 + 1)))) else (none)) else (if x5 < (x0.length : Int) then (if ((rd_T43 x1 x5).f0) = ((rd_T47 x0 x5).f1) then (haspref06_Fit.l0 k x0 x1 (wrap64 (x5 + 1))) else (some 30)) else (none))) else (some t153))) else (none)) else (some 0)
def haspref06_Fit.f (k : Nat) (l0 : List (S47)) (l1 : List (S43)) : Option (Int) := if (l0.length : Int) = (l1.length : Int) then (haspref06_Fit.l0 k l0 l1 0) else (some 61)
end Go.Proofs.Ytnjobnkkpfaigaa.V
