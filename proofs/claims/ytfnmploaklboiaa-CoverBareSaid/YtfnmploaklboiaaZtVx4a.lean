import Derived.Test.YtfnmploaklboiaaZtVx0
import Derived.Test.YtfnmploaklboiaaZtVx3
namespace Go.Proofs.Ytfnmploaklboiaa.V
open Go.RowKit Go.Proofs.YtfnmploaklboiaaW.PrintWords Go.Proofs.YtfnmploaklboiaaW.PrintLast Go.Proofs.YtfnmploaklboiaaW.PrintMore Go.Proofs.Ytfnmploaklboiaa.A
attribute [local go_sem] max2_int min2_int max_two min_two max_three min_three max_four min_four   -- for this text's walks alone
set_option linter.unusedVariables false
set_option linter.unusedSimpArgs false
/-! ### haspref22_read: function 16 -/
def haspref22_read.j0 : Nat → Int → Bool → Int → Int → Int → Int → Int → ByteArray → Int → List (S81) → List (S81) → Bool → Bool → List (S81) → Int → List Bool → Option (Bool)
  | 0, _, _, _, _, _, _, _, _, _, _, _, _, _, _, _, _ => none
  | k + 1, x6, x34, x133000, x133001, x133002, x133003, x133004, x133005, x133006, x133007, x133008, x133009, x133010, x133011, x133012, x133013 => if x34 = true then (some false) else ((haspref09_Covers.f x6 3).bind fun t137 => (if t137 = true then (some true) else (if x133006 ≥ 0 then ((haspref09_Covers.f x6 1).bind fun t138 => (some t138)) else (some false))))
def haspref22_read.f (k : Nat) (a0_0 : ByteArray) (l0_1 : List (S33)) (a1_0 : Int) (a1_1 : Int) (a1_2 : Int) (a1_3 : Int) (a1_4 : Int) (a1_5 : ByteArray) (a1_6 : Int) (l1_7 : List (S81)) (l1_8 : List (S81)) (a1_9 : Bool) (a1_10 : Bool) (l1_11 : List (S81)) (a1_12 : Int) (l1_13 : List Bool) : Option (Bool) := if a1_0 = 2 then ((haspref22_Opened.f k a0_0 l0_1 a1_1).bind fun t133 => (if 0 ≤ t133 then (if t133 < (l0_1.length : Int) then ((haspref22_Mode.f k a0_0 l0_1 a1_5).bind fun t136 => (if ((rd_T33 l0_1 t133).f5).toList = a1_5.toList then (haspref22_read.j0 k t136 (((rd_T33 l0_1 t133).f6) != a1_6) a1_0 a1_1 a1_2 a1_3 a1_4 a1_5 a1_6 l1_7 l1_8 a1_9 a1_10 l1_11 a1_12 l1_13) else (haspref22_read.j0 k t136 true a1_0 a1_1 a1_2 a1_3 a1_4 a1_5 a1_6 l1_7 l1_8 a1_9 a1_10 l1_11 a1_12 l1_13))) else (none)) else (none))) else (if a1_0 = 3 then ((haspref22_Opened.f k a0_0 l0_1 a1_1).bind fun t139 => (if t139 < 0 then (some false) else (if 0 ≤ t139 then (if t139 < (l0_1.length : Int) then (if ((rd_T33 l0_1 t139).f6) < 0 then (some true) else ((haspref09_Covers.f a1_3 3).bind fun t141 => (if t141 = true then ((haspref09_Covers.f a1_4 3).bind fun t142 => (some t142)) else (some false)))) else (none)) else (none)))) else (some true))
end Go.Proofs.Ytfnmploaklboiaa.V
