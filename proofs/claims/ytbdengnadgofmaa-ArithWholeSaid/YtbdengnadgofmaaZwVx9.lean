import Derived.Test.YtbdengnadgofmaaZwVx0
namespace Go.Proofs.Ytbdengnadgofmaa.V
open Go.RowKit Go.Proofs.YtbdengnadgofmaaW.PrintWords Go.Proofs.YtbdengnadgofmaaW.PrintLast Go.Proofs.YtbdengnadgofmaaW.PrintMore
attribute [local go_sem] max2_int min2_int max_two min_two max_three min_three max_four min_four   -- for this text's walks alone
set_option linter.unusedVariables false
set_option linter.unusedSimpArgs false
/-! ### haspref03_mul: function 40 -/
def haspref03_mul.mid (x y : Int) : Int := IntKind.u64.wrap ((IntKind.u64.wrap ((x / 4294967296) * (Go.bits .and .u64 y 4294967295))) + (IntKind.u64.wrap ((Go.bits .and .u64 x 4294967295) * (y / 4294967296))))
def haspref03_mul.low (x y : Int) : Int := IntKind.u64.wrap ((Go.bits .and .u64 x 4294967295) * (Go.bits .and .u64 y 4294967295))
def haspref03_mul.n (x y : Int) : Int := IntKind.u64.wrap ((IntKind.u64.wrap (haspref03_mul.mid x y * 4294967296)) + haspref03_mul.low x y)
def haspref03_mul.g (below : Bool) (x y : Int) : Int × Bool :=
  if 0 < x / 4294967296 ∧ 0 < y / 4294967296 then (0, false)
  else if 0 < haspref03_mul.mid x y / 4294967296 then (0, false)
  else if haspref03_mul.n x y < haspref03_mul.low x y then (0, false)
  else if below then (wrap64 (IntKind.u64.wrap (-(haspref03_mul.n x y))), decide (haspref03_mul.n x y ≤ 9223372036854775808))
  else (wrap64 (haspref03_mul.n x y), decide (haspref03_mul.n x y < 9223372036854775808))
def haspref03_mul.ab (a : Int) : Int := if a < 0 then IntKind.u64.wrap (-(IntKind.u64.wrap a)) else IntKind.u64.wrap a
def haspref03_mul.f (a0 a1 : Int) : Option (Int × Bool) := some (haspref03_mul.g (decide (a0 < 0) != decide (a1 < 0)) (haspref03_mul.ab a0) (haspref03_mul.ab a1))
/-! ### haspref03_Whole: function 28 -/
def haspref03_Whole.neg (a : Int) : Int × Int := if a = 0 then (0, 0) else if wrap64 (-a) = a then (0, 31) else (wrap64 (-a), 0)
def haspref03_Whole.add (a b n : Int) : Int × Int := if (0 ≤ a ∧ 0 ≤ b ∧ n < 0) ∨ (a < 0 ∧ b < 0 ∧ 0 ≤ n) then (0, 31) else (n, 0)
def haspref03_Whole.sub (a b n : Int) : Int × Int := if (0 ≤ a ∧ b < 0 ∧ n < 0) ∨ (a < 0 ∧ 0 ≤ b ∧ 0 ≤ n) then (0, 31) else (n, 0)
def haspref03_Whole.g (a0 a1 a2 : Int) : Int × Int :=
  if a0 = 7 then haspref03_Whole.add a1 a2 (wrap64 (a1 + a2))
  else if a0 = 8 then haspref03_Whole.sub a1 a2 (wrap64 (a1 - a2))
  else if a0 = 9 then (if ((haspref03_mul.f a1 a2).getD (0, false)).2 = true then (((haspref03_mul.f a1 a2).getD (0, false)).1, 0) else (0, 31))
  else if a0 = 13 then haspref03_Whole.neg a1
  else if a0 = 10 then (if a2 = 0 then (0, 32) else if a2 = -1 then haspref03_Whole.neg a1 else (wrap64 (Int.tdiv a1 a2), 0))
  else if a0 = 11 then (if a2 = 0 then (0, 32) else if a2 = -1 then (0, 0) else (wrap64 (a1 - wrap64 (wrap64 (Int.tdiv a1 a2) * a2)), 0))
  else (0, 0)
def haspref03_Whole.f (a0 a1 a2 : Int) : Option (Int × Int) := some (haspref03_Whole.g a0 a1 a2)
end Go.Proofs.Ytbdengnadgofmaa.V
