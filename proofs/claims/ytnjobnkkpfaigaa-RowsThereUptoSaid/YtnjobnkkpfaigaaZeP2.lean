import Derived.Test.YtnjobnkkpfaigaaZeP0
import Derived.Test.YtnjobnkkpfaigaaZeVx9
import Derived.Laws.BitsLemmas
import Derived.Laws.Bits64
/- Layer 6: checks, and rows met again. -/
namespace Go.Proofs.Ytnjobnkkpfaigaa
open Go.RowKit Go.Proofs.YtnjobnkkpfaigaaW.PrintWords Fl V A
set_option linter.unusedSimpArgs false
set_option linter.unusedVariables false
theorem u64w (n : Int) : IntKind.u64.wrap n = n % 18446744073709551616 := by simp [IntKind.wrap, IntKind.bits, IntKind.signed]
theorem wraps_u64 (n : Int) (h₀ : 0 ≤ n) (h₁ : n < 2 ^ 64) : IntKind.u64.wrap n = n := by rw [u64w]; omega
theorem ub_cast (a : Int) : ((ub a : Nat) : Int) = IntKind.u64.wrap a := by unfold ub; rw [u64w]; omega
theorem ub_lt (a : Int) : ub a < 18446744073709551616 := by have := ub_cast a; rw [u64w] at this; omega
theorem mask11 (x : Int) (h0 : 0 ≤ x) (h1 : x < 18446744073709551616) : Go.bits .and .u64 x 2047 = x % 2048 := bits_mask .u64 64 (by decide) wraps_u64 11 (by decide) x h0 h1
theorem mask52 (x : Int) (h0 : 0 ≤ x) (h1 : x < 18446744073709551616) : Go.bits .and .u64 x 4503599627370495 = x % 4503599627370496 := bits_mask .u64 64 (by decide) wraps_u64 52 (by decide) x h0 h1
theorem parts_eq (a : Int) : A.haspref01_Parts.f a = some (((ub a / 9223372036854775808 : Nat) : Int), ((ub a / 4503599627370496 % 2048 : Nat) : Int), ((ub a % 4503599627370496 : Nat) : Int)) := by
  have h := ub_lt a
  unfold A.haspref01_Parts.f
  rw [← ub_cast]
  rw [mask11 _ (by omega) (by omega), mask52 _ (by omega) (by omega)]
  congr 1
  refine Prod.ext ?_ (Prod.ext ?_ ?_) <;> (simp only [wrap64]; omega)
theorem isnan_eq (a : Int) : V.haspref01_IsNaN.f a = some (nanB (ub a)) := by
  have h := ub_lt a
  unfold V.haspref01_IsNaN.f
  rw [parts_eq]
  simp only [Option.bind_some]
  have hb : nanB (ub a) = (decide (ub a / 4503599627370496 % 2048 = 2047) && decide (ub a % 4503599627370496 ≠ 0)) := by
    unfold nanB
    have e1 : Ir = 9218868437227405312 := rfl
    have e2 : Sw = 9223372036854775808 := rfl
    rw [e1, e2, Bool.eq_iff_iff]
    simp only [decide_eq_true_eq, Bool.and_eq_true]
    omega
  rw [hb]
  by_cases c : ((ub a / 4503599627370496 % 2048 : Nat) : Int) = 2047
  · rw [if_pos c]
    have c' : ub a / 4503599627370496 % 2048 = 2047 := by omega
    rw [decide_eq_true c', Bool.true_and]
    congr 1
    rw [Bool.eq_iff_iff, bne_iff_ne, decide_eq_true_eq]; omega
  · rw [if_neg c]
    have c' : ¬ ub a / 4503599627370496 % 2048 = 2047 := by intro h; exact c (by omega)
    rw [decide_eq_false c', Bool.false_and]
theorem tl_len (t : ByteArray) : t.toList.length = t.size := by rw [ByteArray.toList_eq, Array.length_toList]; rfl
theorem size0 (t : ByteArray) : (t.toList != ([] : List UInt8)) = decide ((t.size : Int) > 0) := by
  rw [← tl_len]
  cases t.toList <;> simp
theorem canonb (b : Int) : (b == canonI b) = !(nanB (ub b) && (b != 9221120237041090560)) := by
  unfold canonI theNaN
  cases nanB (ub b)
  · simp
  · simp [bne]
theorem check_10 (a b : Int) (c : ByteArray) : ∃ v, value_Check.f 10 a b c = some v ∧ haspref02_Check.f 10 a b c = some v := by
  unfold value_Check.f haspref02_Check.f
  simp only [value_Check.j0, value_Check.j1, value_Check.j2, haspref02_Check.j0, haspref02_Check.j1, haspref02_Check.j2, haspref02_Check.j3, haspref02_Check.j4, isnan_eq, real_Canon.f, Option.bind_some, size0, canonb]
  have hk : a < 0 ∨ a = 0 ∨ a = 1 ∨ a = 2 ∨ a = 3 ∨ a = 4 ∨ 4 < a := by omega
  rcases hk with h | rfl | rfl | rfl | rfl | rfl | h
  · rw [if_neg (by omega), if_pos h]
    have e : (a == 4) = false := by simp; omega
    simp only [e, Bool.false_eq_true, if_false, if_true]
    rw [if_neg (by omega), if_neg (by omega), if_neg (by omega)]
    exact ⟨_, rfl, rfl⟩
  · by_cases hb : b = 0
    · subst hb
      by_cases hs : 0 < c.size
      · refine ⟨2, ?_, ?_⟩ <;> simp [hs]
      · refine ⟨0, ?_, ?_⟩ <;> simp [hs] <;> omega
    · simp [hb]
  · by_cases hb : b = 0
    · subst hb
      by_cases hs : 0 < c.size
      · refine ⟨2, ?_, ?_⟩ <;> simp [hs]
      · refine ⟨0, ?_, ?_⟩ <;> simp [hs] <;> omega
    · by_cases hb1 : b = 1
      · subst hb1
        by_cases hs : 0 < c.size
        · refine ⟨2, ?_, ?_⟩ <;> simp [hs]
        · refine ⟨0, ?_, ?_⟩ <;> simp [hs] <;> omega
      · by_cases hlt : b < 0
        · simp [hb, hb1, hlt]
        · have h1 : 1 < b := by omega
          simp [hb, hb1, hlt, h1]
  · by_cases hs : 0 < c.size
    · refine ⟨2, ?_, ?_⟩ <;> simp [hs]
    · refine ⟨0, ?_, ?_⟩ <;> simp [hs] <;> omega
  · cases hn : nanB (ub b)
    · by_cases hs : 0 < c.size
      · refine ⟨2, ?_, ?_⟩ <;> simp [hs]
      · refine ⟨0, ?_, ?_⟩ <;> simp [hs] <;> omega
    · by_cases hb : b = 9221120237041090560
      · by_cases hs : 0 < c.size
        · refine ⟨2, ?_, ?_⟩ <;> simp [hs, hb]
        · refine ⟨0, ?_, ?_⟩ <;> simp [hs, hb] <;> omega
      · simp [hb]
  · by_cases hb : b = 0
    · subst hb
      by_cases hs : (c.size : Int) > 200
      · refine ⟨1, ?_, ?_⟩ <;> simp [hs]
      · refine ⟨0, ?_, ?_⟩ <;> simp [hs] <;> omega
    · simp [hb]
  · have e : (a == 4) = false := by simp; omega
    have e2 : decide (a > 4) = true := by simp; omega
    have n0 : ¬ a = 0 := by omega
    have n1 : ¬ a = 1 := by omega
    have n2 : ¬ a = 2 := by omega
    have n3 : ¬ a = 3 := by omega
    have n4 : ¬ a < 0 := by omega
    refine ⟨50, ?_, ?_⟩
    · simp only [n0, n1, n2, n3, e, if_false, Bool.false_eq_true]
    · simp only [n4, e2, if_false, if_true]
end Go.Proofs.Ytnjobnkkpfaigaa
