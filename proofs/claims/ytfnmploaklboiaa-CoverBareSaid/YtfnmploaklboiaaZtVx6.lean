import Derived.Test.YtfnmploaklboiaaZtVx0
import Derived.Test.YtfnmploaklboiaaZtVx2
import Derived.Test.YtfnmploaklboiaaZtVx4
import Derived.Test.YtfnmploaklboiaaZtVx5
namespace Go.Proofs.Ytfnmploaklboiaa.V
open Go.RowKit Go.Proofs.YtfnmploaklboiaaW.PrintWords Go.Proofs.YtfnmploaklboiaaW.PrintLast Go.Proofs.YtfnmploaklboiaaW.PrintMore Go.Proofs.Ytfnmploaklboiaa.A
attribute [local go_sem] max2_int min2_int max_two min_two max_three min_three max_four min_four   -- for this text's walks alone
set_option linter.unusedVariables false
set_option linter.unusedSimpArgs false
/-! ### haspref22_Check: function 9 -/
mutual
def haspref22_Check.j0 : Nat → Int → Bool → ByteArray → List (S33) → Option (Int)
  | 0, _, _, _, _ => none
  | k + 1, x3, x14, x154000, x154001 => if x14 = true then (some 240) else (if 0 ≤ (wrap64 (x3 - 1)) then (if (wrap64 (x3 - 1)) < (x154001.length : Int) then (if ((rd_T33 x154001 (wrap64 (x3 - 1))).f0) = 12 then (haspref22_Check.l0 k x3 0 x154000 x154001) else (some 240)) else (none)) else (none))
def haspref22_Check.l0 : Nat → Int → Int → ByteArray → List (S33) → Option (Int)
  | 0, _, _, _, _ => none
  | k + 1, x3, x4, x154000, x154001 => if x4 < x3 then (if 0 ≤ x4 then (if x4 < (x154001.length : Int) then ((haspref22_right.f k ((rd_T33 x154001 x4).f0) ((rd_T33 x154001 x4).f1) ((rd_T33 x154001 x4).f2) ((rd_T33 x154001 x4).f3) ((rd_T33 x154001 x4).f4) ((rd_T33 x154001 x4).f5) ((rd_T33 x154001 x4).f6) ((rd_T33 x154001 x4).f7) ((rd_T33 x154001 x4).f8) ((rd_T33 x154001 x4).f9) ((rd_T33 x154001 x4).f10) ((rd_T33 x154001 x4).f11) ((rd_T33 x154001 x4).f12) ((rd_T33 x154001 x4).f13) x3).bind fun t158 => (if t158 = true then (if ((rd_T33 x154001 x4).f0) = 1 then (haspref22_Check.j2 k x3 x4 (decide (x4 > 0)) x154000 x154001 ((rd_T33 x154001 x4).f0) ((rd_T33 x154001 x4).f1) ((rd_T33 x154001 x4).f2) ((rd_T33 x154001 x4).f3) ((rd_T33 x154001 x4).f4) ((rd_T33 x154001 x4).f5) ((rd_T33 x154001 x4).f6) ((rd_T33 x154001 x4).f7) ((rd_T33 x154001 x4).f8) ((rd_T33 x154001 x4).f9) ((rd_T33 x154001 x4).f10) ((rd_T33 x154001 x4).f11) ((rd_T33 x154001 x4).f12) ((rd_T33 x154001 x4).f13)) else (haspref22_Check.j2 k x3 x4 false x154000 x154001 ((rd_T33 x154001 x4).f0) ((rd_T33 x154001 x4).f1) ((rd_T33 x154001 x4).f2) ((rd_T33 x154001 x4).f3) ((rd_T33 x154001 x4).f4) ((rd_T33 x154001 x4).f5) ((rd_T33 x154001 x4).f6) ((rd_T33 x154001 x4).f7) ((rd_T33 x154001 x4).f8) ((rd_T33 x154001 x4).f9) ((rd_T33 x154001 x4).f10) ((rd_T33 x154001 x4).f11) ((rd_T33 x154001 x4).f12) ((rd_T33 x154001 x4).f13))) else (some 240))) else (none)) else (none)) else ((haspref22_changes.f k x154000 x154001).bind fun t155 => (if t155 = true then (some 0) else (some 240)))
def haspref22_Check.j2 : Nat → Int → Int → Bool → ByteArray → List (S33) → Int → Int → Int → Int → Int → ByteArray → Int → List (S81) → List (S81) → Bool → Bool → List (S81) → Int → List Bool → Option (Int)
  | 0, _, _, _, _, _, _, _, _, _, _, _, _, _, _, _, _, _, _, _ => none
  | k + 1, x3, x4, x43, x154000, x154001, x158000, x158001, x158002, x158003, x158004, x158005, x158006, x158007, x158008, x158009, x158010, x158011, x158012, x158013 => if x43 = true then (if 0 ≤ (wrap64 (x4 - 1)) then (if (wrap64 (x4 - 1)) < (x154001.length : Int) then (if ((rd_T33 x154001 (wrap64 (x4 - 1))).f0) = 1 then ((haspref22_read.f k x154000 x154001 x158000 x158001 x158002 x158003 x158004 x158005 x158006 x158007 x158008 x158009 x158010 x158011 x158012 x158013).bind fun t160 => (if t160 = true then (haspref22_Check.l0 k x3 (wrap64 (x4 + 1)) x154000 x154001) else (some 240))) else (some 240)) else (none)) else (none)) else ((haspref22_read.f k x154000 x154001 x158000 x158001 x158002 x158003 x158004 x158005 x158006 x158007 x158008 x158009 x158010 x158011 x158012 x158013).bind fun t161 => (if t161 = true then (haspref22_Check.l0 k x3 (wrap64 (x4 + 1)) x154000 x154001) else (some 240)))
end
def haspref22_Check.f (k : Nat) (a0_0 : ByteArray) (l0_1 : List (S33)) : Option (Int) := if (l0_1.length : Int) < 1 then (haspref22_Check.j0 k (l0_1.length : Int) true a0_0 l0_1) else (haspref22_Check.j0 k (l0_1.length : Int) (decide ((l0_1.length : Int) > 4096)) a0_0 l0_1)
end Go.Proofs.Ytfnmploaklboiaa.V
