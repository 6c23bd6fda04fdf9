import Derived.Test.YtbdengnadgofmaaZdVx0
import Derived.Test.YtbdengnadgofmaaZdVx4
import Derived.Test.YtbdengnadgofmaaZdVx5
import Derived.Test.YtbdengnadgofmaaZdVx6
import Derived.Test.YtbdengnadgofmaaZdVx7
import Derived.Test.YtbdengnadgofmaaZdVx8
namespace Go.Proofs.Ytbdengnadgofmaa.V
open Go.RowKit Go.Proofs.YtbdengnadgofmaaW.PrintWords Go.Proofs.YtbdengnadgofmaaW.PrintLast Go.Proofs.YtbdengnadgofmaaW.PrintMore
attribute [local go_sem] max2_int min2_int max_two min_two max_three min_three max_four min_four   -- for this text's walks alone
set_option linter.unusedVariables false
set_option linter.unusedSimpArgs false
/-! ### hasplaw03_ArithSound: function 6 -/
def hasplaw03_ArithSound.l0 : Nat → Int → List (S25) → List Int → List (S25) → Int → Int → Option (Bool)
  | 0, _, _, _, _, _, _ => none
  | k + 1, x0, x1, x5, x15, x16, x17 => if x17 < x16 then (if 0 ≤ x17 then (if x17 < (x15.length : Int) then ((haspref02_Check.f k ((rd_T25 x15 x17).f0) ((rd_T25 x15 x17).f1) ((rd_T25 x15 x17).f2)).bind fun t203 => (if t203 = 0 then (if x5.length < 17592186044416 then (hasplaw03_ArithSound.l0 k x0 x1 (x5 ++ [(rd_T25 x15 x17).f0]) x15 x16 (wrap64 (x17 + 1))) else (none)) else (some true))) else (none)) else (none)) else ((arith_Type.f k x0 x5).bind fun bt207 => ((haspref02_CopyRow.f k x1).bind fun t209 => ((arith_Do.f k x0 t209).bind fun bt212 => (if bt207.2 = true then (if bt212.2.2.2 = 30 then (some false) else (if bt212.2.2.2 = 0 then (if bt212.1 = 0 then (some true) else (some (bt212.1 == bt207.1))) else (some true))) else (some true)))))
def hasplaw03_ArithSound.f (k : Nat) (a0 : Int) (l1 : List (S25)) : Option (Bool) := (hasplaw03_speaks.f).bind fun t197 => (if t197 = true then (hasplaw03_ArithSound.l0 k a0 l1 (([] : List Int)) l1 (l1.length : Int) 0) else (some false))
end Go.Proofs.Ytbdengnadgofmaa.V
