import Derived.Test.YtnjobnkkpfaigaaZeAx0
namespace Go.Proofs.Ytnjobnkkpfaigaa.A
open Go.RowKit Go.Proofs.YtnjobnkkpfaigaaW.PrintWords Go.Proofs.YtnjobnkkpfaigaaW.PrintLast Go.Proofs.YtnjobnkkpfaigaaW.PrintMore
attribute [local go_sem] max2_int min2_int max_two min_two max_three min_three max_four min_four   -- for this text's walks alone
set_option linter.unusedVariables false
set_option linter.unusedSimpArgs false
/-! ### haspref06_bit: function 25 -/
def haspref06_bit.f (l0 : List Int) (a1 : Int) : Option (Bool) := if 0 ≤ (wrap64 (Int.tdiv a1 8)) then (if (wrap64 (Int.tdiv a1 8)) < (l0.length : Int) then (if 0 ≤ (IntKind.u64.wrap (Int.tmod a1 8)) then (some ((Int.tmod (shr .i64 (wrap64 (rd l0 (wrap64 (Int.tdiv a1 8)))) (IntKind.u64.wrap (Int.tmod a1 8))) 2) == 1)) else (none)) else (none)) else (none)
/-! ### haspref01_Parts: function 33 -/
def haspref01_Parts.f (a0 : Int) : Option (Int × Int × Int) := some (wrap64 ((IntKind.u64.wrap (a0)) / 9223372036854775808), wrap64 (Go.bits .and .u64 ((IntKind.u64.wrap (a0)) / 4503599627370496) 2047), wrap64 (Go.bits .and .u64 (IntKind.u64.wrap (a0)) 4503599627370495))
/-! ### haspref01_IsNaN: function 28 -/
def haspref01_IsNaN.f (a0 : Int) : Option (Bool) := (haspref01_Parts.f a0).bind fun bt102 => (if bt102.2.1 = 2047 then (some (bt102.2.2 != 0)) else (some false))
/-! ### haspref01_Canon: function 30 -/
def haspref01_Canon.f (a0 : Int) : Option (Int) := (haspref01_IsNaN.f a0).bind fun t105 => (if t105 = true then (some 9221120237041090560) else (some a0))
end Go.Proofs.Ytnjobnkkpfaigaa.A
