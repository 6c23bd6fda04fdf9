/- Layer 5: KeysEncodes, the plain law: numbers in a key. -/
import Derived.Test.YthoemenchimggaaDoorP0
import Derived.Test.YthoemenchimggaaDoorVx5
import Derived.Laws.BitsAllLaws
namespace Go.Proofs.YthoemenchimggaaDoor
open Go.RowKit Go.Proofs.YthoemenchimggaaDoorW.PrintWords Fl V A
set_option linter.unusedSimpArgs false
set_option linter.unusedVariables false
theorem same_at : ∀ (m : Nat) (l : List S35) (i g : Nat), l.length - i ≤ m → i ≤ l.length → l.length ≤ 4398046511104 → haspref02_SameRow.l0 (m + g + 1) l l i = some true := by
  intro m
  induction m with
  | zero =>
    intro l i g hm hi hl
    rw [haspref02_SameRow.l0, if_neg (by omega)]
  | succ m ih =>
    intro l i g hm hi hl
    rw [show m + 1 + g + 1 = (m + g + 1) + 1 by omega, haspref02_SameRow.l0]
    by_cases h : i < l.length
    · rw [if_pos (by omega), if_pos (by omega), if_pos (by omega), w64n i (by omega)]
      simp only [beq_self_eq_true, Bool.not_true, Bool.or_self, Bool.false_eq_true, if_false]
      exact ih l (i + 1) g (by omega) (by omega) hl
    · rw [if_neg (by omega)]
theorem same_eq (l : List S35) (k : Nat) (hk : l.length + 1 ≤ k) (hl : l.length ≤ 4398046511104) : haspref02_SameRow.f k l l = some true := by
  have h := same_at l.length l 0 (k - l.length - 1) (by omega) (by omega) hl
  rw [show l.length + (k - l.length - 1) + 1 = k by omega] at h
  unfold haspref02_SameRow.f
  rw [if_pos rfl]
  exact h
theorem refeight_eq (u : Int) (k : Nat) : haspref05_eight.f (k + 9) u = some (eightB u) := by
  have e : eightB u = [at8u u 0, at8u u 1, at8u u 2, at8u u 3, at8u u 4, at8u u 5, at8u u 6, at8u u 7] := rfl
  rw [e]
  unfold haspref05_eight.f
  simp only [haspref05_eight.l0, at8u]
  simp [wrap64, IntKind.wrap, IntKind.bits, IntKind.signed, shr]
theorem xor63 (m : Nat) (h : m < 2 ^ 63) : m ^^^ 2 ^ 63 = 2 ^ 63 + m := by
  apply Nat.eq_of_testBit_eq
  intro i
  rw [Nat.testBit_xor, Nat.testBit_two_pow]
  rcases Nat.lt_trichotomy i 63 with hi | hi | hi
  · rw [Nat.testBit_two_pow_add_gt hi, decide_eq_false (by omega), Bool.xor_false]
  · subst hi
    rw [Nat.testBit_two_pow_add_eq, Nat.testBit_lt_two_pow h]; rfl
  · rw [decide_eq_false (by omega), Bool.xor_false, Nat.testBit_lt_two_pow (Nat.lt_of_lt_of_le h (Nat.pow_le_pow_right (by decide) (by omega))),
      Nat.testBit_lt_two_pow (Nat.lt_of_lt_of_le (by omega : 2 ^ 63 + m < 2 ^ 64) (Nat.pow_le_pow_right (by decide) (by omega)))]
theorem xor63' (m : Nat) (h : m < 2 ^ 63) : (2 ^ 63 + m) ^^^ 2 ^ 63 = m := by
  rw [← xor63 m h, Nat.xor_assoc, Nat.xor_self, Nat.xor_zero]
theorem or63 (m : Nat) (h : m < 2 ^ 63) : m ||| 2 ^ 63 = 2 ^ 63 + m := by
  have := Nat.two_pow_add_eq_or_of_lt h 1
  rw [Nat.mul_one] at this
  rw [this, Nat.or_comm]
theorem and63 (m : Nat) (h : m < 2 ^ 63) : m &&& 2 ^ 63 = 0 := by
  apply Nat.eq_of_testBit_eq
  intro i
  rw [Nat.testBit_and, Nat.testBit_two_pow, Nat.zero_testBit]
  by_cases hi : 63 = i
  · subst hi; rw [Nat.testBit_lt_two_pow h]; rfl
  · rw [decide_eq_false hi, Bool.and_false]
theorem and63' (m : Nat) (h : m < 2 ^ 63) : (2 ^ 63 + m) &&& 2 ^ 63 = 2 ^ 63 := by
  apply Nat.eq_of_testBit_eq
  intro i
  rw [Nat.testBit_and, Nat.testBit_two_pow]
  by_cases hi : 63 = i
  · subst hi; rw [Nat.testBit_two_pow_add_eq, Nat.testBit_lt_two_pow h]; rfl
  · rw [decide_eq_false hi, Bool.and_false]
theorem not64 (m : Nat) (h : m < 2 ^ 64) : (2 ^ 64 - 1) ^^^ m = 2 ^ 64 - (m + 1) := by
  apply Nat.eq_of_testBit_eq
  intro i
  rw [Nat.testBit_xor, Nat.testBit_two_pow_sub_one, Nat.testBit_two_pow_sub_succ h]
  by_cases hi : i < 64
  · rw [decide_eq_true hi]; simp
  · rw [decide_eq_false hi, Nat.testBit_lt_two_pow (Nat.lt_of_lt_of_le h (Nat.pow_le_pow_right (by decide) (by omega)))]; rfl
theorem intU_eq (n : Int) (h1 : -9223372036854775808 ≤ n) (h2 : n < 9223372036854775808) : intU n = n + 9223372036854775808 := by
  unfold intU
  by_cases h : 0 ≤ n
  · obtain ⟨m, rfl⟩ : ∃ m : Nat, n = (m : Int) := ⟨n.toNat, by omega⟩
    have hw : IntKind.u64.wrap (m : Int) = (m : Int) := by simp [IntKind.wrap, IntKind.bits, IntKind.signed]; omega
    rw [hw, u64_xor _ _ (by omega) (by omega) (by omega) (by omega), Int.toNat_natCast]
    have := xor63 m (by omega)
    show ((m ^^^ 2 ^ 63 : Nat) : Int) = _
    rw [this]; omega
  · obtain ⟨m, hm⟩ : ∃ m : Nat, n + 9223372036854775808 = (m : Int) := ⟨(n + 9223372036854775808).toNat, by omega⟩
    have hw : IntKind.u64.wrap n = ((2 ^ 63 + m : Nat) : Int) := by simp [IntKind.wrap, IntKind.bits, IntKind.signed]; omega
    rw [hw, u64_xor _ _ (by omega) (by omega) (by omega) (by omega), Int.toNat_natCast]
    have := xor63' m (by omega)
    show (((2 ^ 63 + m) ^^^ 2 ^ 63 : Nat) : Int) = _
    rw [this]; omega
theorem ordB_lo (m : Nat) (h : m < 2 ^ 63) : ordB (m : Int) = (m : Int) + 9223372036854775808 := by
  unfold ordB
  have ha : bits .and .u64 (m : Int) 9223372036854775808 = 0 := by
    rw [u64_and _ _ (by omega) (by omega) (by omega) (by omega), Int.toNat_natCast]
    have := and63 m h
    show ((m &&& 2 ^ 63 : Nat) : Int) = _
    rw [this]; rfl
  rw [ha, if_neg (by decide), u64_or _ _ (by omega) (by omega) (by omega) (by omega), Int.toNat_natCast]
  have := or63 m h
  show ((m ||| 2 ^ 63 : Nat) : Int) = _
  rw [this]; omega
theorem ordB_hi (m : Nat) (h : m < 2 ^ 63) : ordB ((2 ^ 63 + m : Nat) : Int) = 9223372036854775807 - (m : Int) := by
  unfold ordB
  have ha : bits .and .u64 ((2 ^ 63 + m : Nat) : Int) 9223372036854775808 = 9223372036854775808 := by
    rw [u64_and _ _ (by omega) (by omega) (by omega) (by omega), Int.toNat_natCast]
    have := and63' m h
    show (((2 ^ 63 + m) &&& 2 ^ 63 : Nat) : Int) = _
    rw [this]; rfl
  rw [ha, if_pos (by decide), u64_xor _ _ (by omega) (by omega) (by omega) (by omega), Int.toNat_natCast]
  have := not64 (2 ^ 63 + m) (by omega)
  show (((2 ^ 64 - 1) ^^^ (2 ^ 63 + m) : Nat) : Int) = _
  rw [this]; omega
/-- The document's number of a real in the order. -/
def rise (n : Int) : Int := if n = -9223372036854775808 then 9223372036854775808 else if n < 0 then -1 - n else n + 9223372036854775808
theorem ordU_eq (n : Int) (h1 : -9223372036854775808 ≤ n) (h2 : n < 9223372036854775808) : ordU n = rise n := by
  unfold ordU rise
  by_cases h : 0 ≤ n
  · obtain ⟨m, rfl⟩ : ∃ m : Nat, n = (m : Int) := ⟨n.toNat, by omega⟩
    have hw : IntKind.u64.wrap (m : Int) = (m : Int) := by simp [IntKind.wrap, IntKind.bits, IntKind.signed]; omega
    rw [hw, if_neg (by simp; omega), if_neg (by omega), if_neg (by omega), ordB_lo m (by omega)]
  · obtain ⟨m, hm⟩ : ∃ m : Nat, n + 9223372036854775808 = (m : Int) := ⟨(n + 9223372036854775808).toNat, by omega⟩
    have hw : IntKind.u64.wrap n = ((2 ^ 63 + m : Nat) : Int) := by simp [IntKind.wrap, IntKind.bits, IntKind.signed]; omega
    rw [hw]
    by_cases h0 : m = 0
    · subst h0
      rw [if_pos (by decide), if_pos (by omega)]
      exact ordB_lo 0 (by decide)
    · rw [if_neg (by simp; omega), if_neg (by omega), if_pos (by omega), ordB_hi m (by omega)]
      omega
theorem rising_eq (n : Int) (h1 : -9223372036854775808 ≤ n) (h2 : n < 9223372036854775808) : haspref05_rising.f n = some (rise n) := by
  unfold haspref05_rising.f rise
  by_cases h : n = -9223372036854775808
  · rw [if_pos h, if_pos h, if_neg (by decide)]; rfl
  · rw [if_neg h, if_neg h]
    by_cases h0 : n < 0
    · rw [if_pos h0, if_pos h0]
      congr 1
      simp [wrap64, IntKind.wrap, IntKind.bits, IntKind.signed]
      omega
    · rw [if_neg h0, if_neg h0]
      congr 1
      simp [wrap64, IntKind.wrap, IntKind.bits, IntKind.signed]
      omega
end Go.Proofs.YthoemenchimggaaDoor
