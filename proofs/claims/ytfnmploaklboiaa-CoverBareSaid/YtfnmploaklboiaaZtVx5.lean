import Derived.Test.YtfnmploaklboiaaZtVx0
import Derived.Test.YtfnmploaklboiaaZtVx3
namespace Go.Proofs.Ytfnmploaklboiaa.V
open Go.RowKit Go.Proofs.YtfnmploaklboiaaW.PrintWords Go.Proofs.YtfnmploaklboiaaW.PrintLast Go.Proofs.YtfnmploaklboiaaW.PrintMore Go.Proofs.Ytfnmploaklboiaa.A
attribute [local go_sem] max2_int min2_int max_two min_two max_three min_three max_four min_four   -- for this text's walks alone
set_option linter.unusedVariables false
set_option linter.unusedSimpArgs false
/-! ### haspref22_changes: function 17 -/
mutual
def haspref22_changes.l0 : Nat → Int → Int → Int → Int → Int → ByteArray → List (S33) → Option (Bool)
  | 0, _, _, _, _, _, _, _ => none
  | k + 1, x3, x4, x5, x6, x7, x144000, x144001 => if x7 < (x144001.length : Int) then (if 0 ≤ x7 then (if x144000.toList = ([] : List UInt8) then (if ((rd_T33 x144001 x7).f0) = 6 then (haspref22_changes.j1 k x3 x4 x5 x6 x7 ((rd_T33 x144001 x7).f0) true x144000 x144001) else (if ((rd_T33 x144001 x7).f0) = 7 then (haspref22_changes.j1 k x3 x4 x5 x6 x7 ((rd_T33 x144001 x7).f0) true x144000 x144001) else (if ((rd_T33 x144001 x7).f0) = 9 then (haspref22_changes.j1 k x3 x4 x5 x6 x7 ((rd_T33 x144001 x7).f0) true x144000 x144001) else (haspref22_changes.j1 k x3 x4 x5 x6 x7 ((rd_T33 x144001 x7).f0) (((rd_T33 x144001 x7).f0) == 10) x144000 x144001)))) else (haspref22_changes.j1 k x3 x4 x5 x6 x7 ((rd_T33 x144001 x7).f0) false x144000 x144001)) else (none)) else (if x144000.toList = ([] : List UInt8) then (some true) else (if x3 = 1 then (if x4 = 1 then ((haspref22_Mode.f k x144000 x144001 x144000).bind fun t145 => ((haspref09_Covers.f t145 2).bind fun t146 => (haspref22_changes.j4 k x6 (!t146) x144000 x144001))) else (haspref22_changes.j4 k x6 true x144000 x144001)) else (haspref22_changes.j4 k x6 true x144000 x144001)))
def haspref22_changes.j1 : Nat → Int → Int → Int → Int → Int → Int → Bool → ByteArray → List (S33) → Option (Bool)
  | 0, _, _, _, _, _, _, _, _, _ => none
  | k + 1, x3, x4, x5, x6, x7, x8, x42, x144000, x144001 => if x42 = true then (some false) else (if x8 = 9 then (haspref22_changes.j2 k (wrap64 (x3 + 1)) x4 x7 x6 x7 x8 x144000 x144001) else (haspref22_changes.j2 k x3 x4 x5 x6 x7 x8 x144000 x144001))
def haspref22_changes.j2 : Nat → Int → Int → Int → Int → Int → Int → ByteArray → List (S33) → Option (Bool)
  | 0, _, _, _, _, _, _, _, _ => none
  | k + 1, x3, x4, x5, x6, x7, x8, x144000, x144001 => if x8 = 10 then (if x5 < 0 then (some false) else (if x5 = (wrap64 (x7 - 1)) then (haspref22_changes.j3 k x3 (wrap64 (x4 + 1)) x5 x6 x7 x8 x144000 x144001) else (some false))) else (haspref22_changes.j3 k x3 x4 x5 x6 x7 x8 x144000 x144001)
def haspref22_changes.j3 : Nat → Int → Int → Int → Int → Int → Int → ByteArray → List (S33) → Option (Bool)
  | 0, _, _, _, _, _, _, _, _ => none
  | k + 1, x3, x4, x5, x6, x7, x8, x144000, x144001 => if x8 = 6 then (if x3 > 0 then (some false) else (haspref22_changes.l0 k x3 x4 x5 (wrap64 (x6 + 1)) (wrap64 (x7 + 1)) x144000 x144001)) else (if x8 = 7 then (if x3 > 0 then (some false) else (haspref22_changes.l0 k x3 x4 x5 x6 (wrap64 (x7 + 1)) x144000 x144001)) else (haspref22_changes.l0 k x3 x4 x5 x6 (wrap64 (x7 + 1)) x144000 x144001))
def haspref22_changes.j4 : Nat → Int → Bool → ByteArray → List (S33) → Option (Bool)
  | 0, _, _, _, _ => none
  | k + 1, x6, x90, x144000, x144001 => if x90 = true then (some false) else (if x6 = 0 then (some true) else ((haspref22_Opened.f k x144000 x144001 0).bind fun t147 => (if t147 < 0 then (some false) else (haspref22_changes.l1 k t147 0 x144000 x144001))))
def haspref22_changes.l1 : Nat → Int → Int → ByteArray → List (S33) → Option (Bool)
  | 0, _, _, _, _ => none
  | k + 1, x9, x10, x144000, x144001 => if x10 < (x144001.length : Int) then (if 0 ≤ x10 then (if ((rd_T33 x144001 x10).f0) = 3 then (if ((rd_T33 x144001 x10).f1) = 0 then ((haspref09_Covers.f ((rd_T33 x144001 x10).f4) 5).bind fun t151 => (if t151 = true then (haspref22_changes.l1 k x9 (wrap64 (x10 + 1)) x144000 x144001) else (some false))) else (haspref22_changes.l1 k x9 (wrap64 (x10 + 1)) x144000 x144001)) else (haspref22_changes.l1 k x9 (wrap64 (x10 + 1)) x144000 x144001)) else (none)) else (if 0 ≤ x9 then (if x9 < (x144001.length : Int) then (some (((rd_T33 x144001 x9).f5).toList == x144000.toList)) else (none)) else (none))
end
def haspref22_changes.f (k : Nat) (a0_0 : ByteArray) (l0_1 : List (S33)) : Option (Bool) := haspref22_changes.l0 k 0 0 (-1) 0 0 a0_0 l0_1
end Go.Proofs.Ytfnmploaklboiaa.V
