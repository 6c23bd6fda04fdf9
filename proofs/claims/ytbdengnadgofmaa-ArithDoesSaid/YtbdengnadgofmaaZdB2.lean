import Derived.Test.YtbdengnadgofmaaZdRx1
import Derived.Test.YtbdengnadgofmaaZdFl
import Derived.Laws.BitsLemmas
import Derived.Laws.Bits64
/- What the references answer, in the words of Fl. -/
namespace Go.Proofs.Ytbdengnadgofmaa
open Go.RowKit Go.Proofs.YtbdengnadgofmaaW.PrintWords Fl R
theorem u64w (n : Int) : IntKind.u64.wrap n = n % 18446744073709551616 := by simp [IntKind.wrap, IntKind.bits, IntKind.signed]
theorem wraps_u64 (n : Int) (h₀ : 0 ≤ n) (h₁ : n < 2 ^ 64) : IntKind.u64.wrap n = n := by rw [u64w]; omega
theorem ub_cast (a : Int) : ((ub a : Nat) : Int) = IntKind.u64.wrap a := by unfold ub; rw [u64w]; omega
theorem ub_lt (a : Int) : ub a < 18446744073709551616 := by have := ub_cast a; rw [u64w] at this; omega
theorem mask11 (x : Int) (h0 : 0 ≤ x) (h1 : x < 18446744073709551616) : Go.bits .and .u64 x 2047 = x % 2048 := bits_mask .u64 64 (by decide) wraps_u64 11 (by decide) x h0 h1
theorem mask52 (x : Int) (h0 : 0 ≤ x) (h1 : x < 18446744073709551616) : Go.bits .and .u64 x 4503599627370495 = x % 4503599627370496 := bits_mask .u64 64 (by decide) wraps_u64 52 (by decide) x h0 h1
theorem parts_eq (a : Int) : haspref01_Parts.f a = some (((ub a / 9223372036854775808 : Nat) : Int), ((ub a / 4503599627370496 % 2048 : Nat) : Int), ((ub a % 4503599627370496 : Nat) : Int)) := by
  have h := ub_lt a
  unfold haspref01_Parts.f
  rw [← ub_cast]
  rw [mask11 _ (by omega) (by omega), mask52 _ (by omega) (by omega)]
  congr 1
  refine Prod.ext ?_ (Prod.ext ?_ ?_) <;> (simp only [wrap64]; omega)
theorem isnan_eq (a : Int) : haspref01_IsNaN.f a = some (nanB (ub a)) := by
  have h := ub_lt a
  unfold haspref01_IsNaN.f
  rw [parts_eq]
  simp only [Option.bind_some]
  have hb : nanB (ub a) = (decide (ub a / 4503599627370496 % 2048 = 2047) && decide (ub a % 4503599627370496 ≠ 0)) := by
    unfold nanB
    have e1 : Ir = 9218868437227405312 := rfl
    have e2 : Sw = 9223372036854775808 := rfl
    rw [e1, e2, Bool.eq_iff_iff]
    simp only [decide_eq_true_eq, Bool.and_eq_true]
    omega
  rw [hb]
  by_cases c : ((ub a / 4503599627370496 % 2048 : Nat) : Int) = 2047
  · rw [if_pos c]
    have c' : ub a / 4503599627370496 % 2048 = 2047 := by omega
    rw [decide_eq_true c', Bool.true_and]
    congr 1
    rw [Bool.eq_iff_iff, bne_iff_ne, decide_eq_true_eq]; omega
  · rw [if_neg c]
    have c' : ¬ ub a / 4503599627370496 % 2048 = 2047 := by intro h; exact c (by omega)
    rw [decide_eq_false c', Bool.false_and]
theorem rcanon_eq (a : Int) : haspref01_Canon.f a = some (canonI a) := by
  unfold haspref01_Canon.f canonI theNaN
  rw [isnan_eq]
  simp only [Option.bind_some]
  split <;> rfl
def rnegI (a : Int) : Int := if nanB (ub a) then theNaN else Go.bits .xor .i64 a (-9223372036854775808)
theorem rneg_eq (a : Int) : haspref01_Neg.f a = some (rnegI a) := by
  unfold haspref01_Neg.f rnegI theNaN
  rw [isnan_eq]
  simp only [Option.bind_some]
  split <;> rfl
theorem rcanon_calls (a : Int) (w : World) : Calls Try.prog 56 #[.int .i64 a] w fun e w' => e = .returned (.int .i64 (canonI a)) ∧ Drawn0 w w' := haspref01_Canon.calls a _ w (rcanon_eq a)
theorem rneg_calls (a : Int) (w : World) : Calls Try.prog 45 #[.int .i64 a] w fun e w' => e = .returned (.int .i64 (rnegI a)) ∧ Drawn0 w w' := haspref01_Neg.calls a _ w (rneg_eq a)
end Go.Proofs.Ytbdengnadgofmaa
