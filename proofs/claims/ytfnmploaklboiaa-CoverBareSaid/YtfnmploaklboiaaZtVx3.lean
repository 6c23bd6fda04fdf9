import Derived.Test.YtfnmploaklboiaaZtVx0
namespace Go.Proofs.Ytfnmploaklboiaa.V
open Go.RowKit Go.Proofs.YtfnmploaklboiaaW.PrintWords Go.Proofs.YtfnmploaklboiaaW.PrintLast Go.Proofs.YtfnmploaklboiaaW.PrintMore Go.Proofs.Ytfnmploaklboiaa.A
attribute [local go_sem] max2_int min2_int max_two min_two max_three min_three max_four min_four   -- for this text's walks alone
set_option linter.unusedVariables false
set_option linter.unusedSimpArgs false
/-! ### haspref22_Opened: function 29 -/
def haspref22_Opened.l0 : Nat → Int → Int → ByteArray → List (S33) → Option (Int)
  | 0, _, _, _, _ => none
  | k + 1, x1, x5, x123000, x123001 => if x5 < (x123001.length : Int) then (if 0 ≤ x5 then (if ((rd_T33 x123001 x5).f0) = 2 then (if ((rd_T33 x123001 x5).f1) = x1 then (some x5) else (haspref22_Opened.l0 k x1 (wrap64 (x5 + 1)) x123000 x123001)) else (haspref22_Opened.l0 k x1 (wrap64 (x5 + 1)) x123000 x123001)) else (none)) else (some (-1))
def haspref22_Opened.f (k : Nat) (a0_0 : ByteArray) (l0_1 : List (S33)) (a1 : Int) : Option (Int) := haspref22_Opened.l0 k a1 0 a0_0 l0_1
/-! ### haspref22_Mode: function 30 -/
def haspref22_Mode.l0 : Nat → ByteArray → Int → Int → ByteArray → List (S33) → Option (Int)
  | 0, _, _, _, _, _ => none
  | k + 1, x1, x5, x6, x126000, x126001 => if x6 < (x126001.length : Int) then (if 0 ≤ x6 then (if ((rd_T33 x126001 x6).f0) = 1 then (if ((rd_T33 x126001 x6).f5).toList = x1.toList then ((haspref09_Join.f x5 ((rd_T33 x126001 x6).f3)).bind fun t129 => (haspref22_Mode.l0 k x1 t129 (wrap64 (x6 + 1)) x126000 x126001)) else (haspref22_Mode.l0 k x1 x5 (wrap64 (x6 + 1)) x126000 x126001)) else (haspref22_Mode.l0 k x1 x5 (wrap64 (x6 + 1)) x126000 x126001)) else (none)) else (some x5)
def haspref22_Mode.f (k : Nat) (a0_0 : ByteArray) (l0_1 : List (S33)) (a1 : ByteArray) : Option (Int) := haspref22_Mode.l0 k a1 0 0 a0_0 l0_1
/-! ### haspref09_Covers: function 31 -/
def haspref09_Covers.f (a0 : Int) (a1 : Int) : Option (Bool) := if a0 < 0 then (some false) else (if a0 > 6 then (some false) else (if a1 < 0 then (some false) else (if a1 > 6 then (some false) else ((haspref09_Join.f a0 a1).bind fun t130 => (some (t130 == a0))))))
end Go.Proofs.Ytfnmploaklboiaa.V
