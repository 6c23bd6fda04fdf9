import Derived.Test.YtbdengnadgofmaaZwVx0
import Derived.Test.YtbdengnadgofmaaZwVx5
import Derived.Test.YtbdengnadgofmaaZwVx6
import Derived.Test.YtbdengnadgofmaaZwVx8
namespace Go.Proofs.Ytbdengnadgofmaa.V
open Go.RowKit Go.Proofs.YtbdengnadgofmaaW.PrintWords Go.Proofs.YtbdengnadgofmaaW.PrintLast Go.Proofs.YtbdengnadgofmaaW.PrintMore
attribute [local go_sem] max2_int min2_int max_two min_two max_three min_three max_four min_four   -- for this text's walks alone
set_option linter.unusedVariables false
set_option linter.unusedSimpArgs false
/-! ### haspref03_Type: function 16 -/
mutual
def haspref03_Type.j0 : Nat → Int → List Int → Bool → Option (Int × Bool)
  | 0, _, _, _ => none
  | k + 1, x0, x1, x18 => if x18 = true then (some (0, false)) else (if 0 < (x1.length : Int) then (if 0 ≤ (wrap64 ((x1.length : Int) - 1)) then (if (wrap64 ((x1.length : Int) - 1)) < (x1.length : Int) then (if (rd x1 0) = 0 then (haspref03_Type.j1 k x0 (rd x1 (wrap64 ((x1.length : Int) - 1))) (rd x1 (wrap64 ((x1.length : Int) - 1)))) else (haspref03_Type.j1 k x0 (rd x1 0) (rd x1 (wrap64 ((x1.length : Int) - 1))))) else (none)) else (none)) else (none))
def haspref03_Type.j1 : Nat → Int → Int → Int → Option (Int × Bool)
  | 0, _, _, _ => none
  | k + 1, x0, x6, x7 => if x7 = 0 then (haspref03_Type.j2 k x0 x6 x6) else (haspref03_Type.j2 k x0 x6 x7)
def haspref03_Type.j2 : Nat → Int → Int → Int → Option (Int × Bool)
  | 0, _, _, _ => none
  | k + 1, x0, x6, x7 => if x6 = x7 then (if x6 = 0 then (if x0 = 12 then (some (4, (4 != 0))) else (if x0 = 11 then (haspref03_Type.j3 k x0 0 true) else (haspref03_Type.j3 k x0 0 (x0 == 14)))) else ((haspref03_One.f k x0 x6).bind fun t185 => (some (t185, (t185 != 0))))) else (some (0, false))
def haspref03_Type.j3 : Nat → Int → Int → Bool → Option (Int × Bool)
  | 0, _, _, _ => none
  | k + 1, x0, x8, x49 => if x49 = true then (some (2, (2 != 0))) else (if x0 = 15 then (some (3, (3 != 0))) else (some (x8, (x8 != 0))))
end
def haspref03_Type.f (k : Nat) (a0 : Int) (l1 : List Int) : Option (Int × Bool) := (haspref03_Count.f k a0).bind fun t181 => (if t181 = 0 then (haspref03_Type.j0 k a0 l1 true) else ((haspref03_Count.f k a0).bind fun t182 => (haspref03_Type.j0 k a0 l1 (t182 != (l1.length : Int)))))
/-! ### hasplaw03_ArithTypes: function 5 -/
def hasplaw03_ArithTypes.f (k : Nat) (a0 : Int) (l1 : List Int) : Option (Bool) := (hasplaw03_speaks.f).bind fun t186 => (if t186 = true then ((some (([] : List Int) : List Int)).bind fun y187 => (if y187.length + l1.length < 17592186044416 then ((arith_Type.f k a0 (y187 ++ l1)).bind fun bt193 => ((haspref03_Type.f k a0 l1).bind fun bt195 => (if bt193.1 = bt195.1 then (some (bt193.2 == bt195.2)) else (some false)))) else (none))) else (some false))
end Go.Proofs.Ytbdengnadgofmaa.V
