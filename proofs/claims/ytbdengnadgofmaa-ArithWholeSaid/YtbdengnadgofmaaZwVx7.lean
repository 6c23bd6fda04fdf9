import Derived.Test.YtbdengnadgofmaaZwVx0
namespace Go.Proofs.Ytbdengnadgofmaa.V
open Go.RowKit Go.Proofs.YtbdengnadgofmaaW.PrintWords Go.Proofs.YtbdengnadgofmaaW.PrintLast Go.Proofs.YtbdengnadgofmaaW.PrintMore
attribute [local go_sem] max2_int min2_int max_two min_two max_three min_three max_four min_four   -- for this text's walks alone
set_option linter.unusedVariables false
set_option linter.unusedSimpArgs false
/-! ### haspref02_Check: function 10 -/
mutual
def haspref02_Check.j0 : Nat → Bool → Int → Int → ByteArray → Option (Int)
  | 0, _, _, _, _ => none
  | k + 1, x10, x132000, x132001, x132002 => if x10 = true then (some 50) else (if x132000 = 0 then (haspref02_Check.j1 k (x132001 != 0) x132000 x132001 x132002) else (if x132000 = 4 then (haspref02_Check.j1 k (x132001 != 0) x132000 x132001 x132002) else (haspref02_Check.j1 k false x132000 x132001 x132002)))
def haspref02_Check.j1 : Nat → Bool → Int → Int → ByteArray → Option (Int)
  | 0, _, _, _, _ => none
  | k + 1, x23, x132000, x132001, x132002 => if x23 = true then (some 2) else (if x132000 = 1 then (if x132001 < 0 then (haspref02_Check.j2 k true x132000 x132001 x132002) else (haspref02_Check.j2 k (decide (x132001 > 1)) x132000 x132001 x132002)) else (haspref02_Check.j2 k false x132000 x132001 x132002))
def haspref02_Check.j2 : Nat → Bool → Int → Int → ByteArray → Option (Int)
  | 0, _, _, _, _ => none
  | k + 1, x36, x132000, x132001, x132002 => if x36 = true then (some 2) else (if x132000 = 3 then ((haspref01_IsNaN.f x132001).bind fun t132 => (if t132 = true then (haspref02_Check.j3 k (x132001 != 9221120237041090560) x132000 x132001 x132002) else (haspref02_Check.j3 k false x132000 x132001 x132002))) else (haspref02_Check.j3 k false x132000 x132001 x132002))
def haspref02_Check.j3 : Nat → Bool → Int → Int → ByteArray → Option (Int)
  | 0, _, _, _, _ => none
  | k + 1, x49, x132000, x132001, x132002 => if x49 = true then (some 2) else (if x132000 < 4 then (haspref02_Check.j4 k (decide ((x132002.size : Int) > 0)) x132000 x132001 x132002) else (haspref02_Check.j4 k false x132000 x132001 x132002))
def haspref02_Check.j4 : Nat → Bool → Int → Int → ByteArray → Option (Int)
  | 0, _, _, _, _ => none
  | k + 1, x58, x132000, x132001, x132002 => if x58 = true then (some 2) else (if (x132002.size : Int) > 200 then (some 1) else (some 0))
end
def haspref02_Check.f (k : Nat) (a0_0 : Int) (a0_1 : Int) (a0_2 : ByteArray) : Option (Int) := if a0_0 < 0 then (haspref02_Check.j0 k true a0_0 a0_1 a0_2) else (haspref02_Check.j0 k (decide (a0_0 > 4)) a0_0 a0_1 a0_2)
end Go.Proofs.Ytbdengnadgofmaa.V
