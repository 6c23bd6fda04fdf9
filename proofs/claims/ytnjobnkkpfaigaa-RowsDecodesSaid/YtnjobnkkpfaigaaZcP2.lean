import Derived.Test.YtnjobnkkpfaigaaZcP0
import Derived.Test.YtnjobnkkpfaigaaZcVx9
import Derived.Laws.BitsLemmas
import Derived.Laws.Bits64
/- Layer 6: checks, and rows met again. -/
namespace Go.Proofs.Ytnjobnkkpfaigaa
open Go.RowKit Go.Proofs.YtnjobnkkpfaigaaW.PrintWords Fl V A
set_option linter.unusedSimpArgs false
set_option linter.unusedVariables false
theorem u64w (n : Int) : IntKind.u64.wrap n = n % 18446744073709551616 := by simp [IntKind.wrap, IntKind.bits, IntKind.signed]
theorem wraps_u64 (n : Int) (h₀ : 0 ≤ n) (h₁ : n < 2 ^ 64) : IntKind.u64.wrap n = n := by rw [u64w]; omega
theorem ub_cast (a : Int) : ((ub a : Nat) : Int) = IntKind.u64.wrap a := by unfold ub; rw [u64w]; omega
theorem ub_lt (a : Int) : ub a < 18446744073709551616 := by have := ub_cast a; rw [u64w] at this; omega
theorem mask11 (x : Int) (h0 : 0 ≤ x) (h1 : x < 18446744073709551616) : Go.bits .and .u64 x 2047 = x % 2048 := bits_mask .u64 64 (by decide) wraps_u64 11 (by decide) x h0 h1
theorem mask52 (x : Int) (h0 : 0 ≤ x) (h1 : x < 18446744073709551616) : Go.bits .and .u64 x 4503599627370495 = x % 4503599627370496 := bits_mask .u64 64 (by decide) wraps_u64 52 (by decide) x h0 h1
theorem parts_eq (a : Int) : A.haspref01_Parts.f a = some (((ub a / 9223372036854775808 : Nat) : Int), ((ub a / 4503599627370496 % 2048 : Nat) : Int), ((ub a % 4503599627370496 : Nat) : Int)) := by
  have h := ub_lt a
  unfold A.haspref01_Parts.f
  rw [← ub_cast]
  rw [mask11 _ (by omega) (by omega), mask52 _ (by omega) (by omega)]
  congr 1
  refine Prod.ext ?_ (Prod.ext ?_ ?_) <;> (simp only [wrap64]; omega)
theorem isnanA_eq (a : Int) : A.haspref01_IsNaN.f a = some (nanB (ub a)) := by
  have h := ub_lt a
  unfold A.haspref01_IsNaN.f
  rw [parts_eq]
  simp only [Option.bind_some]
  have hb : nanB (ub a) = (decide (ub a / 4503599627370496 % 2048 = 2047) && decide (ub a % 4503599627370496 ≠ 0)) := by
    unfold nanB
    have e1 : Ir = 9218868437227405312 := rfl
    have e2 : Sw = 9223372036854775808 := rfl
    rw [e1, e2, Bool.eq_iff_iff]
    simp only [decide_eq_true_eq, Bool.and_eq_true]
    omega
  rw [hb]
  by_cases c : ((ub a / 4503599627370496 % 2048 : Nat) : Int) = 2047
  · rw [if_pos c]
    have c' : ub a / 4503599627370496 % 2048 = 2047 := by omega
    rw [decide_eq_true c', Bool.true_and]
    congr 1
    rw [Bool.eq_iff_iff, bne_iff_ne, decide_eq_true_eq]; omega
  · rw [if_neg c]
    have c' : ¬ ub a / 4503599627370496 % 2048 = 2047 := by intro h; exact c (by omega)
    rw [decide_eq_false c', Bool.false_and]
end Go.Proofs.Ytnjobnkkpfaigaa
