import Derived.Test.YtbdengnadgofmaaZwRx0
namespace Go.Proofs.Ytbdengnadgofmaa.R
open Go.RowKit Go.Proofs.YtbdengnadgofmaaW.PrintWords Go.Proofs.YtbdengnadgofmaaW.PrintLast Go.Proofs.YtbdengnadgofmaaW.PrintMore
attribute [local go_sem] max2_int min2_int max_two min_two max_three min_three max_four min_four   -- for this text's walks alone
set_option linter.unusedVariables false
set_option linter.unusedSimpArgs false
/-! ### haspref01_Parts: function 31 -/
def haspref01_Parts.f (a0 : Int) : Option (Int × Int × Int) := some (wrap64 ((IntKind.u64.wrap (a0)) / 9223372036854775808), wrap64 (Go.bits .and .u64 ((IntKind.u64.wrap (a0)) / 4503599627370496) 2047), wrap64 (Go.bits .and .u64 (IntKind.u64.wrap (a0)) 4503599627370495))
/-! ### haspref01_ToInt: function 26 -/
def haspref01_ToInt.j0 : Nat → Int → Int → Int → Bool → Option (Int × Int)
  | 0, _, _, _, _ => none
  | k + 1, x4, x5, x6, x32 => if x32 = true then (some (0, 10)) else (if x5 < 1023 then (some (0, 0)) else (if x5 ≤ 1075 then (if 0 ≤ (IntKind.u64.wrap (wrap64 (1075 - x5))) then (if x4 = 1 then (some (wrap64 (IntKind.u64.wrap (-(shr .u64 (IntKind.u64.wrap ((IntKind.u64.wrap (x6)) + 4503599627370496)) (IntKind.u64.wrap (wrap64 (1075 - x5)))))), 0)) else (some (wrap64 (shr .u64 (IntKind.u64.wrap ((IntKind.u64.wrap (x6)) + 4503599627370496)) (IntKind.u64.wrap (wrap64 (1075 - x5)))), 0))) else (none)) else (if 0 ≤ (IntKind.u64.wrap (wrap64 (x5 - 1075))) then (if x4 = 1 then (some (wrap64 (IntKind.u64.wrap (-(shl .u64 (IntKind.u64.wrap ((IntKind.u64.wrap (x6)) + 4503599627370496)) (IntKind.u64.wrap (wrap64 (x5 - 1075)))))), 0)) else (some (wrap64 (shl .u64 (IntKind.u64.wrap ((IntKind.u64.wrap (x6)) + 4503599627370496)) (IntKind.u64.wrap (wrap64 (x5 - 1075)))), 0))) else (none))))
def haspref01_ToInt.f (k : Nat) (a0 : Int) : Option (Int × Int) := (haspref01_Parts.f a0).bind fun bt101 => (if bt101.2.1 = 2047 then (haspref01_ToInt.j0 k bt101.1 bt101.2.1 bt101.2.2 true) else (if bt101.2.1 > 1086 then (haspref01_ToInt.j0 k bt101.1 bt101.2.1 bt101.2.2 true) else (if bt101.2.1 = 1086 then (if bt101.1 = 1 then (haspref01_ToInt.j0 k bt101.1 bt101.2.1 bt101.2.2 (!(bt101.2.2 == 0))) else (haspref01_ToInt.j0 k bt101.1 bt101.2.1 bt101.2.2 (!false))) else (haspref01_ToInt.j0 k bt101.1 bt101.2.1 bt101.2.2 false))))
/-! ### haspref01_OfInt: function 27 -/
mutual
def haspref01_OfInt.j0 : Nat → Int → Int → Option (Int)
  | 0, _, _ => none
  | k + 1, x3, x4 => haspref01_OfInt.l0 k x3 x4 63
def haspref01_OfInt.l0 : Nat → Int → Int → Int → Option (Int)
  | 0, _, _, _ => none
  | k + 1, x3, x4, x5 => if 0 ≤ (IntKind.u64.wrap (x5)) then (if (shr .u64 x3 (IntKind.u64.wrap (x5))) = 0 then (haspref01_OfInt.l0 k x3 x4 (wrap64 (x5 - 1))) else (if x5 > 52 then (if 0 ≤ (IntKind.u64.wrap (wrap64 (x5 - 52))) then (if 0 ≤ (IntKind.u64.wrap ((IntKind.u64.wrap (wrap64 (x5 - 52))) - 1)) then (if (IntKind.u64.wrap (x3 - (shl .u64 (shr .u64 x3 (IntKind.u64.wrap (wrap64 (x5 - 52)))) (IntKind.u64.wrap (wrap64 (x5 - 52)))))) > (shl .u64 1 (IntKind.u64.wrap ((IntKind.u64.wrap (wrap64 (x5 - 52))) - 1))) then (some (wrap64 (IntKind.u64.wrap ((IntKind.u64.wrap (x4 + (IntKind.u64.wrap ((IntKind.u64.wrap (wrap64 (x5 + 1022))) * 4503599627370496)))) + (IntKind.u64.wrap ((shr .u64 x3 (IntKind.u64.wrap (wrap64 (x5 - 52)))) + 1)))))) else (if (IntKind.u64.wrap (x3 - (shl .u64 (shr .u64 x3 (IntKind.u64.wrap (wrap64 (x5 - 52)))) (IntKind.u64.wrap (wrap64 (x5 - 52)))))) = (shl .u64 1 (IntKind.u64.wrap ((IntKind.u64.wrap (wrap64 (x5 - 52))) - 1))) then (if (Go.bits .and .u64 (shr .u64 x3 (IntKind.u64.wrap (wrap64 (x5 - 52)))) 1) = 1 then (some (wrap64 (IntKind.u64.wrap ((IntKind.u64.wrap (x4 + (IntKind.u64.wrap ((IntKind.u64.wrap (wrap64 (x5 + 1022))) * 4503599627370496)))) + (IntKind.u64.wrap ((shr .u64 x3 (IntKind.u64.wrap (wrap64 (x5 - 52)))) + 1)))))) else (some (wrap64 (IntKind.u64.wrap ((IntKind.u64.wrap (x4 + (IntKind.u64.wrap ((IntKind.u64.wrap (wrap64 (x5 + 1022))) * 4503599627370496)))) + (shr .u64 x3 (IntKind.u64.wrap (wrap64 (x5 - 52))))))))) else (some (wrap64 (IntKind.u64.wrap ((IntKind.u64.wrap (x4 + (IntKind.u64.wrap ((IntKind.u64.wrap (wrap64 (x5 + 1022))) * 4503599627370496)))) + (shr .u64 x3 (IntKind.u64.wrap (wrap64 (x5 - 52)))))))))) else (none)) else (none)) else (if 0 ≤ (IntKind.u64.wrap (wrap64 (52 - x5))) then (some (wrap64 (IntKind.u64.wrap ((IntKind.u64.wrap (x4 + (IntKind.u64.wrap ((IntKind.u64.wrap (wrap64 (x5 + 1022))) * 4503599627370496)))) + (shl .u64 x3 (IntKind.u64.wrap (wrap64 (52 - x5)))))))) else (none)))) else (none)
end
def haspref01_OfInt.f (k : Nat) (a0 : Int) : Option (Int) := if a0 = 0 then (some 0) else (if a0 < 0 then (haspref01_OfInt.j0 k (IntKind.u64.wrap (-(IntKind.u64.wrap (a0)))) 9223372036854775808) else (haspref01_OfInt.j0 k (IntKind.u64.wrap (a0)) 0))
/-! ### haspref01_IsNaN: function 18 -/
def haspref01_IsNaN.f (a0 : Int) : Option (Bool) := (haspref01_Parts.f a0).bind fun bt104 => (if bt104.2.1 = 2047 then (some (bt104.2.2 != 0)) else (some false))
/-! ### haspref01_Neg: function 45 -/
def haspref01_Neg.f (a0 : Int) : Option (Int) := (haspref01_IsNaN.f a0).bind fun t107 => (if t107 = true then (some 9221120237041090560) else (some (Go.bits .xor .i64 a0 (-9223372036854775808))))
/-! ### haspref01_Canon: function 56 -/
def haspref01_Canon.f (a0 : Int) : Option (Int) := (haspref01_IsNaN.f a0).bind fun t108 => (if t108 = true then (some 9221120237041090560) else (some a0))
end Go.Proofs.Ytbdengnadgofmaa.R
