import Derived.Test.YtnjobnkkpfaigaaZeVx0
import Derived.Test.YtnjobnkkpfaigaaZeVx6
namespace Go.Proofs.Ytnjobnkkpfaigaa.V
open Go.RowKit Go.Proofs.YtnjobnkkpfaigaaW.PrintWords Go.Proofs.YtnjobnkkpfaigaaW.PrintLast Go.Proofs.YtnjobnkkpfaigaaW.PrintMore Go.Proofs.Ytnjobnkkpfaigaa.A
attribute [local go_sem] max2_int min2_int max_two min_two max_three min_three max_four min_four   -- for this text's walks alone
set_option linter.unusedVariables false
set_option linter.unusedSimpArgs false
/-! ### haspref02_Check: function 21 -/
mutual
def haspref02_Check.j0 : Nat → Bool → Int → Int → ByteArray → Option (Int)
  | 0, _, _, _, _ => none
  | k + 1, x10, x151000, x151001, x151002 => if x10 = true then (some 50) else (if x151000 = 0 then (haspref02_Check.j1 k (x151001 != 0) x151000 x151001 x151002) else (if x151000 = 4 then (haspref02_Check.j1 k (x151001 != 0) x151000 x151001 x151002) else (haspref02_Check.j1 k false x151000 x151001 x151002)))
def haspref02_Check.j1 : Nat → Bool → Int → Int → ByteArray → Option (Int)
  | 0, _, _, _, _ => none
  | k + 1, x23, x151000, x151001, x151002 => if x23 = true then (some 2) else (if x151000 = 1 then (if x151001 < 0 then (haspref02_Check.j2 k true x151000 x151001 x151002) else (haspref02_Check.j2 k (decide (x151001 > 1)) x151000 x151001 x151002)) else (haspref02_Check.j2 k false x151000 x151001 x151002))
def haspref02_Check.j2 : Nat → Bool → Int → Int → ByteArray → Option (Int)
  | 0, _, _, _, _ => none
  | k + 1, x36, x151000, x151001, x151002 => if x36 = true then (some 2) else (if x151000 = 3 then ((haspref01_IsNaN.f x151001).bind fun t151 => (if t151 = true then (haspref02_Check.j3 k (x151001 != 9221120237041090560) x151000 x151001 x151002) else (haspref02_Check.j3 k false x151000 x151001 x151002))) else (haspref02_Check.j3 k false x151000 x151001 x151002))
def haspref02_Check.j3 : Nat → Bool → Int → Int → ByteArray → Option (Int)
  | 0, _, _, _, _ => none
  | k + 1, x49, x151000, x151001, x151002 => if x49 = true then (some 2) else (if x151000 < 4 then (haspref02_Check.j4 k (decide ((x151002.size : Int) > 0)) x151000 x151001 x151002) else (haspref02_Check.j4 k false x151000 x151001 x151002))
def haspref02_Check.j4 : Nat → Bool → Int → Int → ByteArray → Option (Int)
  | 0, _, _, _, _ => none
  | k + 1, x58, x151000, x151001, x151002 => if x58 = true then (some 2) else (if (x151002.size : Int) > 200 then (some 1) else (some 0))
end
def haspref02_Check.f (k : Nat) (a0_0 : Int) (a0_1 : Int) (a0_2 : ByteArray) : Option (Int) := if a0_0 < 0 then (haspref02_Check.j0 k true a0_0 a0_1 a0_2) else (haspref02_Check.j0 k (decide (a0_0 > 4)) a0_0 a0_1 a0_2)
end Go.Proofs.Ytnjobnkkpfaigaa.V
