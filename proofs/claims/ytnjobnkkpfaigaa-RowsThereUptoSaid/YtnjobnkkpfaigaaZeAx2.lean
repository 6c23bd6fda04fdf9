import Derived.Test.YtnjobnkkpfaigaaZeAx0
import Derived.Test.YtnjobnkkpfaigaaZeAx1
namespace Go.Proofs.Ytnjobnkkpfaigaa.A
open Go.RowKit Go.Proofs.YtnjobnkkpfaigaaW.PrintWords Go.Proofs.YtnjobnkkpfaigaaW.PrintLast Go.Proofs.YtnjobnkkpfaigaaW.PrintMore
attribute [local go_sem] max2_int min2_int max_two min_two max_three min_three max_four min_four   -- for this text's walks alone
set_option linter.unusedVariables false
set_option linter.unusedSimpArgs false
/-! ### haspref06_one: function 26 -/
mutual
def haspref06_one.j0 : Nat → Int → List Int → Int → Bool → Int → Int → ByteArray → Option (Int × Int × ByteArray × Int × Int)
  | 0, _, _, _, _, _, _, _ => none
  | k + 1, x0, x1, x2, x19, x108000, x108001, x108002 => if x19 = true then (some (x108000, x108001, x108002, x2, 30)) else (if x0 = 2 then (haspref06_one.j1 k x0 x1 x2 1 true x108000 x108001 x108002) else (haspref06_one.j1 k x0 x1 x2 1 (x0 == 3) x108000 x108001 x108002))
def haspref06_one.j1 : Nat → Int → List Int → Int → Int → Bool → Int → Int → ByteArray → Option (Int × Int × ByteArray × Int × Int)
  | 0, _, _, _, _, _, _, _, _ => none
  | k + 1, x0, x1, x2, x10, x27, x108000, x108001, x108002 => if x27 = true then (haspref06_one.j2 k x0 x1 x2 8 x108000 x108001 x108002) else (haspref06_one.j2 k x0 x1 x2 x10 x108000 x108001 x108002)
def haspref06_one.j2 : Nat → Int → List Int → Int → Int → Int → Int → ByteArray → Option (Int × Int × ByteArray × Int × Int)
  | 0, _, _, _, _, _, _, _ => none
  | k + 1, x0, x1, x2, x10, x108000, x108001, x108002 => if (wrap64 ((x1.length : Int) - x2)) < x10 then (some (x108000, x108001, x108002, x2, 3)) else (haspref06_one.l0 k x0 x1 x2 x10 0 (wrap64 (x10 - 1)) x108000 x108001 x108002)
def haspref06_one.l0 : Nat → Int → List Int → Int → Int → Int → Int → Int → Int → ByteArray → Option (Int × Int × ByteArray × Int × Int)
  | 0, _, _, _, _, _, _, _, _, _ => none
  | k + 1, x0, x1, x2, x10, x11, x12, x108000, x108001, x108002 => if x12 ≥ 0 then (if 0 ≤ (wrap64 (x2 + x12)) then (if (wrap64 (x2 + x12)) < (x1.length : Int) then (haspref06_one.l0 k x0 x1 x2 x10 (IntKind.u64.wrap ((IntKind.u64.wrap (x11 * 256)) + (IntKind.u64.wrap (rd x1 (wrap64 (x2 + x12)))))) (wrap64 (x12 - 1)) x108000 x108001 x108002) else (none)) else (none)) else (if x0 = 1 then (haspref06_one.j4 k x0 x1 (wrap64 (x2 + x10)) x11 (decide (x11 > 1)) x108000 x108001 x108002) else (haspref06_one.j4 k x0 x1 (wrap64 (x2 + x10)) x11 false x108000 x108001 x108002))
def haspref06_one.j4 : Nat → Int → List Int → Int → Int → Bool → Int → Int → ByteArray → Option (Int × Int × ByteArray × Int × Int)
  | 0, _, _, _, _, _, _, _, _ => none
  | k + 1, x0, x1, x2, x11, x60, x108000, x108001, x108002 => if x60 = true then (some (x108000, x108001, x108002, x2, 2)) else (if x0 = 3 then ((haspref01_Canon.f (wrap64 (x11))).bind fun t109 => (haspref06_one.j5 k x0 x1 x2 x11 (t109 != (wrap64 (x11))) x108000 x108001 x108002)) else (haspref06_one.j5 k x0 x1 x2 x11 false x108000 x108001 x108002))
def haspref06_one.j5 : Nat → Int → List Int → Int → Int → Bool → Int → Int → ByteArray → Option (Int × Int × ByteArray × Int × Int)
  | 0, _, _, _, _, _, _, _, _ => none
  | k + 1, x0, x1, x2, x11, x72, x108000, x108001, x108002 => if x72 = true then (some (x108000, x108001, x108002, x2, 2)) else (if x0 < 4 then (some (x0, wrap64 (x11), (⟨#[]⟩ : ByteArray), x2, 0)) else (if x11 > 200 then (some (x108000, x108001, x108002, x2, 1)) else (if (wrap64 ((x1.length : Int) - x2)) < (wrap64 (x11)) then (some (x108000, x108001, x108002, x2, 3)) else (if 0 ≤ x2 then (if x2 ≤ (wrap64 (x2 + (wrap64 (x11)))) then (if (wrap64 (x2 + (wrap64 (x11)))) ≤ (x1.length : Int) then (some (4, 0, strOfNums ((x1.take ((wrap64 (x2 + (wrap64 (x11)))) : Int).toNat).drop (x2 : Int).toNat), wrap64 (x2 + (wrap64 (x11))), 0)) else (none)) else (none)) else (none)))))
end
def haspref06_one.f (k : Nat) (a0 : Int) (l1 : List Int) (a2 : Int) : Option (Int × Int × ByteArray × Int × Int) := if a0 < 1 then (haspref06_one.j0 k a0 l1 a2 true 0 0 (⟨#[]⟩ : ByteArray)) else (haspref06_one.j0 k a0 l1 a2 (decide (a0 > 4)) 0 0 (⟨#[]⟩ : ByteArray))
end Go.Proofs.Ytnjobnkkpfaigaa.A
