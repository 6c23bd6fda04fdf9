/- Layer 5: numbers and texts in a key. -/
import Derived.Test.YthoemenchimggaaDoorP0
import Derived.Laws.BitsAllLaws
import Derived.Laws.BitsLemmas
import Derived.Laws.Bits64
namespace Go.Proofs.YthoemenchimggaaDoor
open Go.RowKit Go.Proofs.YthoemenchimggaaDoorW.PrintWords Fl V A
set_option linter.unusedSimpArgs false
set_option linter.unusedVariables false
theorem xor63 (m : Nat) (h : m < 2 ^ 63) : m ^^^ 2 ^ 63 = 2 ^ 63 + m := by
  apply Nat.eq_of_testBit_eq
  intro i
  rw [Nat.testBit_xor, Nat.testBit_two_pow]
  rcases Nat.lt_trichotomy i 63 with hi | hi | hi
  · rw [Nat.testBit_two_pow_add_gt hi, decide_eq_false (by omega), Bool.xor_false]
  · subst hi
    rw [Nat.testBit_two_pow_add_eq, Nat.testBit_lt_two_pow h]; rfl
  · rw [decide_eq_false (by omega), Bool.xor_false, Nat.testBit_lt_two_pow (Nat.lt_of_lt_of_le h (Nat.pow_le_pow_right (by decide) (by omega))),
      Nat.testBit_lt_two_pow (Nat.lt_of_lt_of_le (by omega : 2 ^ 63 + m < 2 ^ 64) (Nat.pow_le_pow_right (by decide) (by omega)))]
theorem xor63' (m : Nat) (h : m < 2 ^ 63) : (2 ^ 63 + m) ^^^ 2 ^ 63 = m := by
  rw [← xor63 m h, Nat.xor_assoc, Nat.xor_self, Nat.xor_zero]
theorem or63 (m : Nat) (h : m < 2 ^ 63) : m ||| 2 ^ 63 = 2 ^ 63 + m := by
  have := Nat.two_pow_add_eq_or_of_lt h 1
  rw [Nat.mul_one] at this
  rw [this, Nat.or_comm]
theorem and63 (m : Nat) (h : m < 2 ^ 63) : m &&& 2 ^ 63 = 0 := by
  apply Nat.eq_of_testBit_eq
  intro i
  rw [Nat.testBit_and, Nat.testBit_two_pow, Nat.zero_testBit]
  by_cases hi : 63 = i
  · subst hi; rw [Nat.testBit_lt_two_pow h]; rfl
  · rw [decide_eq_false hi, Bool.and_false]
theorem and63' (m : Nat) (h : m < 2 ^ 63) : (2 ^ 63 + m) &&& 2 ^ 63 = 2 ^ 63 := by
  apply Nat.eq_of_testBit_eq
  intro i
  rw [Nat.testBit_and, Nat.testBit_two_pow]
  by_cases hi : 63 = i
  · subst hi; rw [Nat.testBit_two_pow_add_eq, Nat.testBit_lt_two_pow h]; rfl
  · rw [decide_eq_false hi, Bool.and_false]
theorem not64 (m : Nat) (h : m < 2 ^ 64) : (2 ^ 64 - 1) ^^^ m = 2 ^ 64 - (m + 1) := by
  apply Nat.eq_of_testBit_eq
  intro i
  rw [Nat.testBit_xor, Nat.testBit_two_pow_sub_one, Nat.testBit_two_pow_sub_succ h]
  by_cases hi : i < 64
  · rw [decide_eq_true hi]; simp
  · rw [decide_eq_false hi, Nat.testBit_lt_two_pow (Nat.lt_of_lt_of_le h (Nat.pow_le_pow_right (by decide) (by omega)))]; rfl
theorem intU_eq (n : Int) (h1 : -9223372036854775808 ≤ n) (h2 : n < 9223372036854775808) : intU n = n + 9223372036854775808 := by
  unfold intU
  by_cases h : 0 ≤ n
  · obtain ⟨m, rfl⟩ : ∃ m : Nat, n = (m : Int) := ⟨n.toNat, by omega⟩
    have hw : IntKind.u64.wrap (m : Int) = (m : Int) := by simp [IntKind.wrap, IntKind.bits, IntKind.signed]; omega
    rw [hw, u64_xor _ _ (by omega) (by omega) (by omega) (by omega), Int.toNat_natCast]
    have := xor63 m (by omega)
    show ((m ^^^ 2 ^ 63 : Nat) : Int) = _
    rw [this]; omega
  · obtain ⟨m, hm⟩ : ∃ m : Nat, n + 9223372036854775808 = (m : Int) := ⟨(n + 9223372036854775808).toNat, by omega⟩
    have hw : IntKind.u64.wrap n = ((2 ^ 63 + m : Nat) : Int) := by simp [IntKind.wrap, IntKind.bits, IntKind.signed]; omega
    rw [hw, u64_xor _ _ (by omega) (by omega) (by omega) (by omega), Int.toNat_natCast]
    have := xor63' m (by omega)
    show (((2 ^ 63 + m) ^^^ 2 ^ 63 : Nat) : Int) = _
    rw [this]; omega
theorem ordB_lo (m : Nat) (h : m < 2 ^ 63) : ordB (m : Int) = (m : Int) + 9223372036854775808 := by
  unfold ordB
  have ha : bits .and .u64 (m : Int) 9223372036854775808 = 0 := by
    rw [u64_and _ _ (by omega) (by omega) (by omega) (by omega), Int.toNat_natCast]
    have := and63 m h
    show ((m &&& 2 ^ 63 : Nat) : Int) = _
    rw [this]; rfl
  rw [ha, if_neg (by decide), u64_or _ _ (by omega) (by omega) (by omega) (by omega), Int.toNat_natCast]
  have := or63 m h
  show ((m ||| 2 ^ 63 : Nat) : Int) = _
  rw [this]; omega
theorem ordB_hi (m : Nat) (h : m < 2 ^ 63) : ordB ((2 ^ 63 + m : Nat) : Int) = 9223372036854775807 - (m : Int) := by
  unfold ordB
  have ha : bits .and .u64 ((2 ^ 63 + m : Nat) : Int) 9223372036854775808 = 9223372036854775808 := by
    rw [u64_and _ _ (by omega) (by omega) (by omega) (by omega), Int.toNat_natCast]
    have := and63' m h
    show (((2 ^ 63 + m) &&& 2 ^ 63 : Nat) : Int) = _
    rw [this]; rfl
  rw [ha, if_pos (by decide), u64_xor _ _ (by omega) (by omega) (by omega) (by omega), Int.toNat_natCast]
  have := not64 (2 ^ 63 + m) (by omega)
  show (((2 ^ 64 - 1) ^^^ (2 ^ 63 + m) : Nat) : Int) = _
  rw [this]; omega
/-- The document's number of a real in the order. -/
def rise (n : Int) : Int := if n = -9223372036854775808 then 9223372036854775808 else if n < 0 then -1 - n else n + 9223372036854775808
theorem ordU_eq (n : Int) (h1 : -9223372036854775808 ≤ n) (h2 : n < 9223372036854775808) : ordU n = rise n := by
  unfold ordU rise
  by_cases h : 0 ≤ n
  · obtain ⟨m, rfl⟩ : ∃ m : Nat, n = (m : Int) := ⟨n.toNat, by omega⟩
    have hw : IntKind.u64.wrap (m : Int) = (m : Int) := by simp [IntKind.wrap, IntKind.bits, IntKind.signed]; omega
    rw [hw, if_neg (by simp; omega), if_neg (by omega), if_neg (by omega), ordB_lo m (by omega)]
  · obtain ⟨m, hm⟩ : ∃ m : Nat, n + 9223372036854775808 = (m : Int) := ⟨(n + 9223372036854775808).toNat, by omega⟩
    have hw : IntKind.u64.wrap n = ((2 ^ 63 + m : Nat) : Int) := by simp [IntKind.wrap, IntKind.bits, IntKind.signed]; omega
    rw [hw]
    by_cases h0 : m = 0
    · subst h0
      rw [if_pos (by decide), if_pos (by omega)]
      exact ordB_lo 0 (by decide)
    · rw [if_neg (by simp; omega), if_neg (by omega), if_pos (by omega), ordB_hi m (by omega)]
      omega
/-- A text's bytes, each 0 followed by 255. -/
def escI : List Int → List Int
  | [] => []
  | x :: l => if x = 0 then 0 :: 255 :: escI l else x :: escI l
theorem escI_len : ∀ l : List Int, (escI l).length ≤ 2 * l.length
  | [] => by simp [escI]
  | x :: l => by
    have := escI_len l
    unfold escI
    split <;> simp only [List.length_cons] <;> omega
theorem escI_eq : ∀ (l : List Int), (∀ x ∈ l, 0 ≤ x ∧ x < 256) → numsB (escB (Lib.bytesOf l)) = escI l
  | [], _ => rfl
  | x :: l, h => by
    have ih := escI_eq l (fun y hy => h y (List.mem_cons_of_mem _ hy))
    have hx := h x (List.mem_cons_self ..)
    have e : Lib.bytesOf (x :: l) = UInt8.ofNat x.toNat :: Lib.bytesOf l := rfl
    rw [e, escB, escI]
    by_cases h0 : x = 0
    · subst h0
      rw [if_pos (by decide), if_pos rfl, ← ih]
      rfl
    · have hn : ¬ UInt8.ofNat x.toNat = 0 := by
        intro hq
        have := congrArg UInt8.toNat hq
        rw [UInt8.toNat_ofNat'] at this
        have h00 : (0 : UInt8).toNat = 0 := rfl
        rw [h00] at this
        omega
      rw [if_neg hn, if_neg h0, ← ih]
      unfold numsB
      rw [List.map_cons, UInt8.toNat_ofNat', Nat.mod_eq_of_lt (by omega)]
      congr 1
      omega
/-- A number's bytes, that of the greatest weight first. -/
def be : Nat → Int → List Int
  | 0, _ => []
  | n + 1, u => be n (u / 256) ++ [u % 256]
theorem eightB_be (u : Int) : eightB u = be 8 u := by
  have e : eightB u = [u / 72057594037927936 % 256, u / 281474976710656 % 256, u / 1099511627776 % 256, u / 4294967296 % 256, u / 16777216 % 256, u / 65536 % 256, u / 256 % 256, u / 1 % 256] := rfl
  rw [e]
  simp only [be, List.nil_append, List.cons_append]
  have h1 : u / 1 = u := Int.ediv_one u
  have h2 : u / 256 / 256 = u / 65536 := by omega
  have h3 : u / 65536 / 256 = u / 16777216 := by omega
  have h4 : u / 16777216 / 256 = u / 4294967296 := by omega
  have h5 : u / 4294967296 / 256 = u / 1099511627776 := by omega
  have h6 : u / 1099511627776 / 256 = u / 281474976710656 := by omega
  have h7 : u / 281474976710656 / 256 = u / 72057594037927936 := by omega
  rw [h1, h2, h3, h4, h5, h6, h7]
theorem u64w' (n : Int) : IntKind.u64.wrap n = n % 18446744073709551616 := by simp [IntKind.wrap, IntKind.bits, IntKind.signed]
theorem wraps_u64' (n : Int) (h₀ : 0 ≤ n) (h₁ : n < 2 ^ 64) : IntKind.u64.wrap n = n := by rw [u64w']; omega
theorem mask11' (x : Int) (h0 : 0 ≤ x) (h1 : x < 18446744073709551616) : Go.bits .and .u64 x 2047 = x % 2048 := bits_mask .u64 64 (by decide) wraps_u64' 11 (by decide) x h0 h1
theorem mask52' (x : Int) (h0 : 0 ≤ x) (h1 : x < 18446744073709551616) : Go.bits .and .u64 x 4503599627370495 = x % 4503599627370496 := bits_mask .u64 64 (by decide) wraps_u64' 52 (by decide) x h0 h1
theorem nan_eq (b : Int) : nanB b = (decide (b % 18446744073709551616 / 4503599627370496 % 2048 = 2047) && (b % 18446744073709551616 % 4503599627370496 != 0)) := by
  unfold nanB
  rw [u64w', mask11' _ (by omega) (by omega), mask52' _ (by omega) (by omega)]
  have e1 : wrap64 (b % 18446744073709551616 / 4503599627370496 % 2048) = b % 18446744073709551616 / 4503599627370496 % 2048 := by simp only [wrap64]; omega
  have e2 : wrap64 (b % 18446744073709551616 % 4503599627370496) = b % 18446744073709551616 % 4503599627370496 := by simp only [wrap64]; omega
  rw [e1, e2]
  by_cases h : b % 18446744073709551616 / 4503599627370496 % 2048 = 2047
  · rw [if_pos h, decide_eq_true h, Bool.true_and]
  · rw [if_neg h, decide_eq_false h, Bool.false_and]
def keyV (x : S35) : List Int := kindB x.f0 :: tailV x
theorem kindB_small (n : Int) (h : 0 ≤ n) (h2 : n ≤ 4) : kindB n = n + 1 := by unfold kindB; simp only [wrap64]; omega
def Rg (x : S35) : Prop := -9223372036854775808 ≤ x.f1 ∧ x.f1 < 9223372036854775808
theorem good_kind {x : S35} (h : Good x) : 0 ≤ x.f0 ∧ x.f0 ≤ 4 := by rcases h with h | h | h | h | h <;> omega
theorem keyL_cons (x : S35) (l : List S35) : keyL (x :: l) = keyV x ++ keyL l := by simp [keyL, keyV]
end Go.Proofs.YthoemenchimggaaDoor
