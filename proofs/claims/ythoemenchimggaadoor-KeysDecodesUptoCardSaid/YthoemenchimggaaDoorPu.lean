/- Layer 5: KeysDecodes, the plain law: numbers and texts in a key, what it is read as, the document's Decode. -/
import Derived.Test.YthoemenchimggaaDoorP0
import Derived.Test.YthoemenchimggaaDoorVx8
import Derived.Laws.BitsAllLaws
import Derived.Laws.BitsLemmas
import Derived.Laws.Bits64
namespace Go.Proofs.YthoemenchimggaaDoor
open Go.RowKit Go.Proofs.YthoemenchimggaaDoorW.PrintWords Fl V A
set_option linter.unusedSimpArgs false
set_option linter.unusedVariables false
theorem xor63 (m : Nat) (h : m < 2 ^ 63) : m ^^^ 2 ^ 63 = 2 ^ 63 + m := by
  apply Nat.eq_of_testBit_eq
  intro i
  rw [Nat.testBit_xor, Nat.testBit_two_pow]
  rcases Nat.lt_trichotomy i 63 with hi | hi | hi
  · rw [Nat.testBit_two_pow_add_gt hi, decide_eq_false (by omega), Bool.xor_false]
  · subst hi
    rw [Nat.testBit_two_pow_add_eq, Nat.testBit_lt_two_pow h]; rfl
  · rw [decide_eq_false (by omega), Bool.xor_false, Nat.testBit_lt_two_pow (Nat.lt_of_lt_of_le h (Nat.pow_le_pow_right (by decide) (by omega))),
      Nat.testBit_lt_two_pow (Nat.lt_of_lt_of_le (by omega : 2 ^ 63 + m < 2 ^ 64) (Nat.pow_le_pow_right (by decide) (by omega)))]
theorem xor63' (m : Nat) (h : m < 2 ^ 63) : (2 ^ 63 + m) ^^^ 2 ^ 63 = m := by
  rw [← xor63 m h, Nat.xor_assoc, Nat.xor_self, Nat.xor_zero]
theorem or63 (m : Nat) (h : m < 2 ^ 63) : m ||| 2 ^ 63 = 2 ^ 63 + m := by
  have := Nat.two_pow_add_eq_or_of_lt h 1
  rw [Nat.mul_one] at this
  rw [this, Nat.or_comm]
theorem and63 (m : Nat) (h : m < 2 ^ 63) : m &&& 2 ^ 63 = 0 := by
  apply Nat.eq_of_testBit_eq
  intro i
  rw [Nat.testBit_and, Nat.testBit_two_pow, Nat.zero_testBit]
  by_cases hi : 63 = i
  · subst hi; rw [Nat.testBit_lt_two_pow h]; rfl
  · rw [decide_eq_false hi, Bool.and_false]
theorem and63' (m : Nat) (h : m < 2 ^ 63) : (2 ^ 63 + m) &&& 2 ^ 63 = 2 ^ 63 := by
  apply Nat.eq_of_testBit_eq
  intro i
  rw [Nat.testBit_and, Nat.testBit_two_pow]
  by_cases hi : 63 = i
  · subst hi; rw [Nat.testBit_two_pow_add_eq, Nat.testBit_lt_two_pow h]; rfl
  · rw [decide_eq_false hi, Bool.and_false]
theorem not64 (m : Nat) (h : m < 2 ^ 64) : (2 ^ 64 - 1) ^^^ m = 2 ^ 64 - (m + 1) := by
  apply Nat.eq_of_testBit_eq
  intro i
  rw [Nat.testBit_xor, Nat.testBit_two_pow_sub_one, Nat.testBit_two_pow_sub_succ h]
  by_cases hi : i < 64
  · rw [decide_eq_true hi]; simp
  · rw [decide_eq_false hi, Nat.testBit_lt_two_pow (Nat.lt_of_lt_of_le h (Nat.pow_le_pow_right (by decide) (by omega)))]; rfl
theorem intU_eq (n : Int) (h1 : -9223372036854775808 ≤ n) (h2 : n < 9223372036854775808) : intU n = n + 9223372036854775808 := by
  unfold intU
  by_cases h : 0 ≤ n
  · obtain ⟨m, rfl⟩ : ∃ m : Nat, n = (m : Int) := ⟨n.toNat, by omega⟩
    have hw : IntKind.u64.wrap (m : Int) = (m : Int) := by simp [IntKind.wrap, IntKind.bits, IntKind.signed]; omega
    rw [hw, u64_xor _ _ (by omega) (by omega) (by omega) (by omega), Int.toNat_natCast]
    have := xor63 m (by omega)
    show ((m ^^^ 2 ^ 63 : Nat) : Int) = _
    rw [this]; omega
  · obtain ⟨m, hm⟩ : ∃ m : Nat, n + 9223372036854775808 = (m : Int) := ⟨(n + 9223372036854775808).toNat, by omega⟩
    have hw : IntKind.u64.wrap n = ((2 ^ 63 + m : Nat) : Int) := by simp [IntKind.wrap, IntKind.bits, IntKind.signed]; omega
    rw [hw, u64_xor _ _ (by omega) (by omega) (by omega) (by omega), Int.toNat_natCast]
    have := xor63' m (by omega)
    show (((2 ^ 63 + m) ^^^ 2 ^ 63 : Nat) : Int) = _
    rw [this]; omega
theorem ordB_lo (m : Nat) (h : m < 2 ^ 63) : ordB (m : Int) = (m : Int) + 9223372036854775808 := by
  unfold ordB
  have ha : bits .and .u64 (m : Int) 9223372036854775808 = 0 := by
    rw [u64_and _ _ (by omega) (by omega) (by omega) (by omega), Int.toNat_natCast]
    have := and63 m h
    show ((m &&& 2 ^ 63 : Nat) : Int) = _
    rw [this]; rfl
  rw [ha, if_neg (by decide), u64_or _ _ (by omega) (by omega) (by omega) (by omega), Int.toNat_natCast]
  have := or63 m h
  show ((m ||| 2 ^ 63 : Nat) : Int) = _
  rw [this]; omega
theorem ordB_hi (m : Nat) (h : m < 2 ^ 63) : ordB ((2 ^ 63 + m : Nat) : Int) = 9223372036854775807 - (m : Int) := by
  unfold ordB
  have ha : bits .and .u64 ((2 ^ 63 + m : Nat) : Int) 9223372036854775808 = 9223372036854775808 := by
    rw [u64_and _ _ (by omega) (by omega) (by omega) (by omega), Int.toNat_natCast]
    have := and63' m h
    show (((2 ^ 63 + m) &&& 2 ^ 63 : Nat) : Int) = _
    rw [this]; rfl
  rw [ha, if_pos (by decide), u64_xor _ _ (by omega) (by omega) (by omega) (by omega), Int.toNat_natCast]
  have := not64 (2 ^ 63 + m) (by omega)
  show (((2 ^ 64 - 1) ^^^ (2 ^ 63 + m) : Nat) : Int) = _
  rw [this]; omega
/-- The document's number of a real in the order. -/
def rise (n : Int) : Int := if n = -9223372036854775808 then 9223372036854775808 else if n < 0 then -1 - n else n + 9223372036854775808
theorem ordU_eq (n : Int) (h1 : -9223372036854775808 ≤ n) (h2 : n < 9223372036854775808) : ordU n = rise n := by
  unfold ordU rise
  by_cases h : 0 ≤ n
  · obtain ⟨m, rfl⟩ : ∃ m : Nat, n = (m : Int) := ⟨n.toNat, by omega⟩
    have hw : IntKind.u64.wrap (m : Int) = (m : Int) := by simp [IntKind.wrap, IntKind.bits, IntKind.signed]; omega
    rw [hw, if_neg (by simp; omega), if_neg (by omega), if_neg (by omega), ordB_lo m (by omega)]
  · obtain ⟨m, hm⟩ : ∃ m : Nat, n + 9223372036854775808 = (m : Int) := ⟨(n + 9223372036854775808).toNat, by omega⟩
    have hw : IntKind.u64.wrap n = ((2 ^ 63 + m : Nat) : Int) := by simp [IntKind.wrap, IntKind.bits, IntKind.signed]; omega
    rw [hw]
    by_cases h0 : m = 0
    · subst h0
      rw [if_pos (by decide), if_pos (by omega)]
      exact ordB_lo 0 (by decide)
    · rw [if_neg (by simp; omega), if_neg (by omega), if_pos (by omega), ordB_hi m (by omega)]
      omega
/-- A text's bytes, each 0 followed by 255. -/
def escI : List Int → List Int
  | [] => []
  | x :: l => if x = 0 then 0 :: 255 :: escI l else x :: escI l
theorem escI_len : ∀ l : List Int, (escI l).length ≤ 2 * l.length
  | [] => by simp [escI]
  | x :: l => by
    have := escI_len l
    unfold escI
    split <;> simp only [List.length_cons] <;> omega
theorem escI_eq : ∀ (l : List Int), (∀ x ∈ l, 0 ≤ x ∧ x < 256) → numsB (escB (Lib.bytesOf l)) = escI l
  | [], _ => rfl
  | x :: l, h => by
    have ih := escI_eq l (fun y hy => h y (List.mem_cons_of_mem _ hy))
    have hx := h x (List.mem_cons_self ..)
    have e : Lib.bytesOf (x :: l) = UInt8.ofNat x.toNat :: Lib.bytesOf l := rfl
    rw [e, escB, escI]
    by_cases h0 : x = 0
    · subst h0
      rw [if_pos (by decide), if_pos rfl, ← ih]
      rfl
    · have hn : ¬ UInt8.ofNat x.toNat = 0 := by
        intro hq
        have := congrArg UInt8.toNat hq
        rw [UInt8.toNat_ofNat'] at this
        have h00 : (0 : UInt8).toNat = 0 := rfl
        rw [h00] at this
        omega
      rw [if_neg hn, if_neg h0, ← ih]
      unfold numsB
      rw [List.map_cons, UInt8.toNat_ofNat', Nat.mod_eq_of_lt (by omega)]
      congr 1
      omega
/-- A number's bytes, that of the greatest weight first. -/
def be : Nat → Int → List Int
  | 0, _ => []
  | n + 1, u => be n (u / 256) ++ [u % 256]
theorem eightB_be (u : Int) : eightB u = be 8 u := by
  have e : eightB u = [u / 72057594037927936 % 256, u / 281474976710656 % 256, u / 1099511627776 % 256, u / 4294967296 % 256, u / 16777216 % 256, u / 65536 % 256, u / 256 % 256, u / 1 % 256] := rfl
  rw [e]
  simp only [be, List.nil_append, List.cons_append]
  have h1 : u / 1 = u := Int.ediv_one u
  have h2 : u / 256 / 256 = u / 65536 := by omega
  have h3 : u / 65536 / 256 = u / 16777216 := by omega
  have h4 : u / 16777216 / 256 = u / 4294967296 := by omega
  have h5 : u / 4294967296 / 256 = u / 1099511627776 := by omega
  have h6 : u / 1099511627776 / 256 = u / 281474976710656 := by omega
  have h7 : u / 281474976710656 / 256 = u / 72057594037927936 := by omega
  rw [h1, h2, h3, h4, h5, h6, h7]
theorem u64w' (n : Int) : IntKind.u64.wrap n = n % 18446744073709551616 := by simp [IntKind.wrap, IntKind.bits, IntKind.signed]
theorem wraps_u64' (n : Int) (h₀ : 0 ≤ n) (h₁ : n < 2 ^ 64) : IntKind.u64.wrap n = n := by rw [u64w']; omega
theorem mask11' (x : Int) (h0 : 0 ≤ x) (h1 : x < 18446744073709551616) : Go.bits .and .u64 x 2047 = x % 2048 := bits_mask .u64 64 (by decide) wraps_u64' 11 (by decide) x h0 h1
theorem mask52' (x : Int) (h0 : 0 ≤ x) (h1 : x < 18446744073709551616) : Go.bits .and .u64 x 4503599627370495 = x % 4503599627370496 := bits_mask .u64 64 (by decide) wraps_u64' 52 (by decide) x h0 h1
theorem nan_eq (b : Int) : nanB b = (decide (b % 18446744073709551616 / 4503599627370496 % 2048 = 2047) && (b % 18446744073709551616 % 4503599627370496 != 0)) := by
  unfold nanB
  rw [u64w', mask11' _ (by omega) (by omega), mask52' _ (by omega) (by omega)]
  have e1 : wrap64 (b % 18446744073709551616 / 4503599627370496 % 2048) = b % 18446744073709551616 / 4503599627370496 % 2048 := by simp only [wrap64]; omega
  have e2 : wrap64 (b % 18446744073709551616 % 4503599627370496) = b % 18446744073709551616 % 4503599627370496 := by simp only [wrap64]; omega
  rw [e1, e2]
  by_cases h : b % 18446744073709551616 / 4503599627370496 % 2048 = 2047
  · rw [if_pos h, decide_eq_true h, Bool.true_and]
  · rw [if_neg h, decide_eq_false h, Bool.false_and]
def keyV (x : S35) : List Int := kindB x.f0 :: tailV x
theorem kindB_small (n : Int) (h : 0 ≤ n) (h2 : n ≤ 4) : kindB n = n + 1 := by unfold kindB; simp only [wrap64]; omega
def Rg (x : S35) : Prop := -9223372036854775808 ≤ x.f1 ∧ x.f1 < 9223372036854775808
theorem good_kind {x : S35} (h : Good x) : 0 ≤ x.f0 ∧ x.f0 ≤ 4 := by rcases h with h | h | h | h | h <;> omega
theorem keyL_cons (x : S35) (l : List S35) : keyL (x :: l) = keyV x ++ keyL l := by simp [keyL, keyV]
/-- Bytes. -/
def Bys (l : List Int) : Prop := ∀ x ∈ l, 0 ≤ x ∧ x < 256
theorem stepN_eq (u c : Int) (hu : 0 ≤ u) (hc : 0 ≤ c) (hc2 : c < 256) (h : u * 256 + c < 18446744073709551616) : stepN u c = u * 256 + c := by
  unfold stepN
  rw [u64w', u64w', show u * 256 % 18446744073709551616 = u * 256 by omega, show c % 18446744073709551616 = c by omega,
    u64_or _ _ (by omega) (by omega) (by omega) (by omega)]
  have e : (u * 256).toNat = 2 ^ 8 * u.toNat := by omega
  rw [e, ← Nat.two_pow_add_eq_or_of_lt (show c.toNat < 2 ^ 8 by omega) u.toNat]
  omega
theorem p256 (n : Nat) (h : n ≤ 8) : 256 ^ n ≤ 18446744073709551616 := Nat.le_trans (Nat.pow_le_pow_right (by decide) h) (by decide)
theorem be_num : ∀ (n : Nat) (zs : List Int), zs.length = n → n ≤ 8 → Bys zs → 0 ≤ numU zs ∧ numU zs < ((256 ^ n : Nat) : Int) ∧ be n (numU zs) = zs
  | 0, zs, hl, _, _ => by
    have : zs = [] := List.length_eq_zero_iff.1 hl
    subst this
    exact ⟨by decide, by decide, rfl⟩
  | n + 1, zs, hl, hn, hb => by
    have hne : zs ≠ [] := fun h => by rw [h] at hl; simp at hl
    obtain ⟨ys, c, rfl⟩ : ∃ ys c, zs = ys ++ [c] := ⟨_, _, (List.dropLast_concat_getLast hne).symm⟩
    rw [List.length_append, List.length_singleton] at hl
    obtain ⟨h0, h1, h2⟩ := be_num n ys (by omega) (by omega) (fun x hx => hb x (List.mem_append_left _ hx))
    have hc := hb c (by simp)
    have hp := p256 (n + 1) hn
    rw [Nat.pow_succ] at hp
    generalize hm : 256 ^ n = m at h1 hp
    have hs : stepN (numU ys) c = numU ys * 256 + c := stepN_eq _ _ h0 hc.1 hc.2 (by omega)
    rw [numU_snoc, hs, be, Nat.pow_succ, hm]
    refine ⟨by omega, by omega, ?_⟩
    rw [show (numU ys * 256 + c) / 256 = numU ys by omega, show (numU ys * 256 + c) % 256 = c by omega, h2]
theorem num_be : ∀ (n : Nat) (u : Int), n ≤ 8 → 0 ≤ u → u < ((256 ^ n : Nat) : Int) → numU (be n u) = u
  | 0, u, _, h0, h1 => by
    have : u = 0 := by have e : ((256 ^ 0 : Nat) : Int) = 1 := rfl
                       rw [e] at h1; omega
    subst this; rfl
  | n + 1, u, hn, h0, h1 => by
    have hp := p256 (n + 1) hn
    rw [Nat.pow_succ] at hp h1
    have ih := num_be n (u / 256) (by omega) (by omega)
    generalize 256 ^ n = m at h1 hp ih
    rw [be, numU_snoc, ih (by omega), stepN_eq _ _ (by omega) (by omega) (by omega) (by omega)]
    omega
theorem eight_num (u : Int) (h0 : 0 ≤ u) (h1 : u < 18446744073709551616) : numU (eightB u) = u := by
  rw [eightB_be]
  exact num_be 8 u (by decide) h0 h1
theorem num_eight (zs : List Int) (hl : zs.length = 8) (hb : Bys zs) : eightB (numU zs) = zs ∧ 0 ≤ numU zs ∧ numU zs < 18446744073709551616 := by
  obtain ⟨h0, h1, h2⟩ := be_num 8 zs hl (by decide) hb
  exact ⟨by rw [eightB_be]; exact h2, h0, h1⟩
theorem xorU (u : Int) (h0 : 0 ≤ u) (h1 : u < 18446744073709551616) : wrap64 (bits .xor .u64 u 9223372036854775808) = u - 9223372036854775808 := by
  rw [u64_xor _ _ (by omega) (by omega) (by omega) (by omega)]
  by_cases h : u < 9223372036854775808
  · have := xor63 u.toNat (by omega)
    have e : (u.toNat ^^^ (9223372036854775808 : Int).toNat : Nat) = 2 ^ 63 + u.toNat := this
    rw [e]; simp only [wrap64]; omega
  · have := xor63' (u - 9223372036854775808).toNat (by omega)
    have e0 : u.toNat = 2 ^ 63 + (u - 9223372036854775808).toNat := by omega
    have e : (u.toNat ^^^ (9223372036854775808 : Int).toNat : Nat) = (u - 9223372036854775808).toNat := by rw [e0]; exact this
    rw [e]; simp only [wrap64]; omega
theorem disU_lo (u : Int) (h0 : 0 ≤ u) (h1 : u < 9223372036854775808) : disU u = -1 - u := by
  unfold disU
  have ha : bits .and .u64 u 9223372036854775808 = 0 := by
    rw [u64_and _ _ (by omega) (by omega) (by omega) (by omega)]
    have := and63 u.toNat (by omega)
    show ((u.toNat &&& 2 ^ 63 : Nat) : Int) = _
    rw [this]; rfl
  rw [ha, if_neg (by decide), u64_xor _ _ (by omega) (by omega) (by omega) (by omega)]
  have := not64 u.toNat (by omega)
  have e : ((18446744073709551615 : Int).toNat ^^^ u.toNat : Nat) = 2 ^ 64 - (u.toNat + 1) := this
  rw [e]; simp only [wrap64]; omega
theorem disU_hi (u : Int) (h0 : 9223372036854775808 ≤ u) (h1 : u < 18446744073709551616) : disU u = u - 9223372036854775808 := by
  unfold disU
  have ha : bits .and .u64 u 9223372036854775808 = 9223372036854775808 := by
    rw [u64_and _ _ (by omega) (by omega) (by omega) (by omega)]
    have := and63' (u - 9223372036854775808).toNat (by omega)
    have e0 : u.toNat = 2 ^ 63 + (u - 9223372036854775808).toNat := by omega
    show ((u.toNat &&& 2 ^ 63 : Nat) : Int) = _
    rw [e0, this]; rfl
  rw [ha, if_pos (by decide), u64_andNot _ _ (by omega) (by omega) (by omega) (by omega)]
  have := Nat.and_two_pow_sub_one_eq_mod u.toNat 63
  have e : (u.toNat &&& (18446744073709551615 - (9223372036854775808 : Int).toNat) : Nat) = u.toNat % 2 ^ 63 := this
  rw [e]; simp only [wrap64]; omega
/-- Texts. -/
theorem textP_esc : ∀ (l out rest : List Int), out.length + l.length ≤ 200 → textP (escI l ++ 0 :: 1 :: rest) out = .ok (out ++ l) rest
  | [], out, rest, _ => by simp [escI, textP]
  | x :: l, out, rest, h => by
    rw [List.length_cons] at h
    have ih := textP_esc l (out ++ [x]) rest (by rw [List.length_append, List.length_singleton]; omega)
    rw [escI]
    by_cases h0 : x = 0
    · subst h0
      rw [if_pos rfl, List.cons_append, List.cons_append, textP, if_pos rfl, if_neg (by decide), if_pos rfl, if_neg (by omega), ih, List.append_assoc]
      rfl
    · rw [if_neg h0, List.cons_append, textP_one _ _ _ h0, if_neg (by omega), ih, List.append_assoc]
      rfl
theorem textP_back : ∀ (xs out o rest : List Int), textP xs out = .ok o rest → ∃ l, o = out ++ l ∧ xs = escI l ++ 0 :: 1 :: rest
  | [], out, o, rest, h => by simp [textP] at h
  | [c], out, o, rest, h => by
    simp only [textP] at h
    split at h
    · simp at h
    · split at h <;> simp at h
  | c :: d :: xs, out, o, rest, h => by
    simp only [textP] at h
    split at h
    · rename_i hc
      split at h
      · rename_i hd
        injection h with h1 h2
        exact ⟨[], by rw [h1, List.append_nil], by rw [hc, hd, h2]; rfl⟩
      · split at h
        · rename_i hd
          split at h
          · simp at h
          · obtain ⟨l, h1, h2⟩ := textP_back xs _ o rest h
            exact ⟨0 :: l, by rw [h1, List.append_assoc]; rfl, by rw [hc, hd, h2]; rfl⟩
        · simp at h
    · rename_i hc
      split at h
      · simp at h
      · obtain ⟨l, h1, h2⟩ := textP_back (d :: xs) _ o rest h
        exact ⟨c :: l, by rw [h1, List.append_assoc]; rfl, by rw [h2, escI, if_neg hc]; rfl⟩
theorem textP_err : ∀ (xs out : List Int) (c : Int), textP xs out = .err c → c ≠ 0
  | [], out, c, h => by simp [textP] at h; omega
  | [x], out, c, h => by
    simp only [textP] at h
    repeat' split at h
    all_goals (injection h with h; omega)
  | x :: d :: xs, out, c, h => by
    simp only [textP] at h
    split at h
    · split at h
      · simp at h
      · split at h
        · split at h
          · injection h with h; omega
          · exact textP_err xs _ c h
        · injection h with h; omega
    · split at h
      · injection h with h; omega
      · exact textP_err (d :: xs) _ c h
theorem mem_escI : ∀ (l : List Int) (x : Int), x ∈ l → x ∈ escI l
  | y :: l, x, h => by
    rw [escI]
    rcases List.mem_cons.1 h with rfl | h
    · split
      · rename_i h0; rw [h0]; exact List.mem_cons_self ..
      · exact List.mem_cons_self ..
    · have := mem_escI l x h
      split
      · exact List.mem_cons_of_mem _ (List.mem_cons_of_mem _ this)
      · exact List.mem_cons_of_mem _ this
theorem ba_empty (s : ByteArray) (h : s.size = 0) : s = ⟨#[]⟩ := by
  apply ByteArray.ext
  exact Array.eq_empty_of_size_eq_zero h
theorem strOf_bytes (s : ByteArray) : strOfNums (bytesOf s) = s := by
  apply ByteArray.ext
  apply Array.toList_inj.1
  rw [strOfNums_data]
  unfold bytesOf
  rw [List.map_map]
  conv => rhs; rw [← List.map_id s.data.toList]
  apply List.map_congr_left
  intro b _
  simp
theorem bytes_strOf (l : List Int) (h : Bys l) : bytesOf (strOfNums l) = l := by
  unfold bytesOf
  rw [strOfNums_data, List.map_map]
  conv => rhs; rw [← List.map_id l]
  apply List.map_congr_left
  intro x hx
  have := h x hx
  simp only [Function.comp, id, UInt8.toNat_ofNat']
  omega
theorem textB_esc (s : ByteArray) : textB s = escI (bytesOf s) ++ [0, 1] := by unfold textB; rw [escI_eq _ (bytes_range s)]
theorem canonI_eq (n : Int) : canonI n = if nanB n = true then 9221120237041090560 else n := by
  have e : Fl.nanB (ub n) = nanB n := by
    rw [nan_eq, Bool.eq_iff_iff]
    unfold Fl.nanB ub Ir Sw
    rw [u64w']
    simp only [decide_eq_true_eq, Bool.and_eq_true, bne_iff_ne]
    omega
  unfold canonI
  rw [e]
  rfl
/-- What a value is read as from its key: 0 for a Real -0. -/
def norm (x : S35) : S35 := if x.f0 = 3 ∧ x.f1 = -9223372036854775808 then ⟨x.f0, 0, x.f2⟩ else x
theorem nan0 : nanB 0 = false := by decide +kernel
theorem valP_key (x : S35) (g : Good x) (r : Rg x) (rest : List Int) : valP (keyV x ++ rest) = .ok (norm x) rest := by
  have hk := good_kind g
  have e1 : kindB x.f0 - 1 = x.f0 := by rw [kindB_small _ hk.1 hk.2]; omega
  have e2 : valP (keyV x ++ rest) = valB x.f0 (tailV x ++ rest) := by
    show valB (kindB x.f0 - 1) (tailV x ++ rest) = _
    rw [e1]
  rw [e2]
  obtain ⟨a, b, c⟩ := x
  unfold Good at g
  unfold Rg at r
  dsimp only at g r hk ⊢
  rcases g with ⟨rfl, rfl, h3⟩ | ⟨rfl, h2, h3⟩ | ⟨rfl, h3⟩ | ⟨rfl, h2, h3⟩ | ⟨rfl, rfl, h3⟩
  · rw [ba_empty c h3]; simp [valB, tailV, norm]
  · rw [ba_empty c h3]
    rcases h2 with rfl | rfl
    · simp [valB, tailV, norm]
    · simp [valB, tailV, norm]
  · rw [ba_empty c h3, tailV_2 rfl]
    have hu := intU_eq b r.1 r.2
    have hn : (norm ⟨2, b, ⟨#[]⟩⟩ : S35) = ⟨2, b, ⟨#[]⟩⟩ := by unfold norm; rw [if_neg (fun h => absurd (show (2 : Int) = 3 from h.1) (by decide))]
    rw [hn]
    unfold valB
    dsimp only
    rw [if_neg (by decide), if_neg (by decide), if_pos rfl, if_neg (by rw [List.length_append, eightB_len]; omega), List.take_left' (eightB_len _), List.drop_left' (eightB_len _), hu, eight_num _ (by omega) (by omega), xorU _ (by omega) (by omega)]
    rw [show b + 9223372036854775808 - 9223372036854775808 = b by omega]
  · rw [ba_empty c h3, tailV_3 rfl]
    have hu := ordU_eq b r.1 r.2
    obtain ⟨d, hd⟩ : ∃ d, d = if b = -9223372036854775808 then 0 else b := ⟨_, rfl⟩
    have hn : (norm ⟨3, b, ⟨#[]⟩⟩ : S35) = ⟨3, d, ⟨#[]⟩⟩ := by
      unfold norm
      by_cases h : b = -9223372036854775808
      · rw [if_pos ⟨rfl, h⟩, hd, if_pos h]
      · rw [if_neg (fun q => h q.2), hd, if_neg h]
    have hr : 0 ≤ rise b ∧ rise b < 18446744073709551616 := by unfold rise; repeat' split
                                                               all_goals omega
    have hdis : disU (rise b) = d := by
      rw [hd]
      unfold rise
      by_cases h : b = -9223372036854775808
      · rw [if_pos h, if_pos h, disU_hi _ (by omega) (by omega)]; rfl
      · rw [if_neg h, if_neg h]
        by_cases h0 : b < 0
        · rw [if_pos h0, disU_lo _ (by omega) (by omega)]; omega
        · rw [if_neg h0, disU_hi _ (by omega) (by omega)]; omega
    have hd1 : -9223372036854775808 ≤ d ∧ d < 9223372036854775808 := by rw [hd]; split <;> omega
    have hord : ordU d = rise b := by
      rw [ordU_eq d hd1.1 hd1.2, hd]
      unfold rise
      by_cases h : b = -9223372036854775808
      · rw [if_pos h, if_pos h]; decide
      · rw [if_neg h]
    have hcan : canonI d = d := by
      rw [canonI_eq, hd]
      by_cases h : b = -9223372036854775808
      · rw [if_pos h, nan0, if_neg (by decide)]
      · rw [if_neg h]
        cases hnn : nanB b
        · rw [if_neg (by decide)]
        · rw [if_pos rfl, h2 hnn]
    rw [hn]
    unfold valB
    dsimp only
    rw [if_neg (by decide), if_neg (by decide), if_neg (by decide), if_pos rfl, if_neg (by rw [List.length_append, eightB_len]; omega), List.take_left' (eightB_len _), List.drop_left' (eightB_len _), hu, eight_num _ hr.1 hr.2, hdis, hord, hcan,
      bne_self_eq_false, if_neg (by decide), bne_self_eq_false, if_neg (by decide)]
  · rw [tailV_4 rfl, textB_esc]
    have hn : (norm ⟨4, 0, c⟩ : S35) = ⟨4, 0, c⟩ := by unfold norm; rw [if_neg (fun h => absurd (show (4 : Int) = 3 from h.1) (by decide))]
    rw [hn]
    have ht := textP_esc (bytesOf c) [] rest (by rw [bytesOf_length, List.length_nil]; omega)
    unfold valB
    dsimp only
    rw [if_neg (by decide), if_neg (by decide), if_neg (by decide), if_neg (by decide), if_pos rfl, List.append_assoc]
    rw [show [(0 : Int), 1] ++ rest = 0 :: 1 :: rest from rfl, ht]
    dsimp only
    rw [List.nil_append, strOf_bytes]
theorem keyV_ne (x : S35) (t : List Int) : keyV x ++ t ≠ [] := by unfold keyV; simp
theorem decP_key : ∀ (l : List S35) (k : Nat) (acc : List S35), (∀ x ∈ l, Good x ∧ Rg x) → l.length ≤ k → decP k (keyL l) acc = (acc ++ l.map norm, 0)
  | [], k, acc, _, _ => by rw [keyL, decP_nil]; simp
  | x :: l, k, acc, h, hk => by
    rw [List.length_cons] at hk
    obtain ⟨j, rfl⟩ : ∃ j, k = j + 1 := ⟨k - 1, by omega⟩
    have hx := h x (List.mem_cons_self ..)
    rw [keyL_cons, decP, if_neg (keyV_ne _ _), valP_key x hx.1 hx.2]
    dsimp only
    rw [decP_key l j _ (fun y hy => h y (List.mem_cons_of_mem _ hy)) (by omega)]
    simp
theorem keyL_len (l : List S35) : l.length ≤ (keyL l).length := by
  induction l with
  | nil => simp [keyL]
  | cons x l ih => rw [keyL, List.length_cons, List.length_cons, List.length_append]; omega
theorem decK_key (l : List S35) (h : ∀ x ∈ l, Good x ∧ Rg x) : decK (keyL l) = (l.map norm, 0) := by
  unfold decK
  rw [decP_key l _ [] h (keyL_len l), List.nil_append]
theorem eightB_bytes (u : Int) : Bys (eightB u) := by
  intro x hx
  unfold eightB at8u at hx
  obtain ⟨j, _, rfl⟩ := List.mem_map.1 hx
  exact ⟨by omega, by omega⟩
theorem escI_bytes : ∀ l : List Int, Bys l → Bys (escI l)
  | [], _ => fun x hx => by cases hx
  | y :: l, h => by
    have ih := escI_bytes l (fun z hz => h z (List.mem_cons_of_mem _ hz))
    have hy := h y (List.mem_cons_self ..)
    rw [escI]
    intro x hx
    split at hx
    · rcases List.mem_cons.1 hx with rfl | hx
      · decide
      · rcases List.mem_cons.1 hx with rfl | hx
        · decide
        · exact ih x hx
    · rcases List.mem_cons.1 hx with rfl | hx
      · exact hy
      · exact ih x hx
theorem tailV_bytes (x : S35) : Bys (tailV x) := by
  unfold tailV
  repeat' split
  · intro y hy
    rw [List.mem_singleton] at hy
    subst hy
    exact ⟨by omega, by omega⟩
  · exact eightB_bytes _
  · exact eightB_bytes _
  · rw [textB_esc]
    intro y hy
    rcases List.mem_append.1 hy with hy | hy
    · exact escI_bytes _ (bytes_range _) y hy
    · simp only [List.mem_cons, List.not_mem_nil, or_false] at hy
      omega
  · intro y hy; cases hy
theorem keyL_bytes : ∀ l : List S35, Bys (keyL l)
  | [] => fun x hx => by cases hx
  | v :: l => by
    have ih := keyL_bytes l
    intro x hx
    rw [keyL] at hx
    rcases List.mem_cons.1 hx with rfl | hx
    · unfold kindB; exact ⟨by omega, by omega⟩
    · rcases List.mem_append.1 hx with hx | hx
      · exact tailV_bytes v x hx
      · exact ih x hx
theorem bytesB_of {l : List Int} (h : Bys l) : bytesB l = true := by
  unfold bytesB
  rw [List.all_eq_true]
  intro x hx
  have := h x hx
  simp [this.1, this.2]
theorem decode_eq (l : List Int) (h : Bys l) (hl : l.length ≤ 4398046511104) : keys_Decode.f l = some (decK l) := by
  unfold keys_Decode.f
  rw [bytesB_of h, decide_eq_true hl, if_pos (by decide)]
/-- What is read as values makes these bytes again. -/
theorem valP_err (xs : List Int) (c : Int) (h : valP xs = .err c) : c ≠ 0 := by
  cases xs with
  | nil => simp only [valP] at h; injection h with h; omega
  | cons y ys =>
    have h' : valB (y - 1) ys = .err c := h
    unfold valB at h'
    split at h'
    · simp at h'
    · split at h'
      · cases ys with
        | nil => dsimp only at h'; injection h' with h'; omega
        | cons z zs =>
          dsimp only at h'
          split at h'
          · injection h' with h'; omega
          · simp at h'
      · split at h'
        · split at h'
          · injection h' with h'; omega
          · simp at h'
        · split at h'
          · split at h'
            · injection h' with h'; omega
            · split at h'
              · injection h' with h'; omega
              · split at h'
                · injection h' with h'; omega
                · simp at h'
          · split at h'
            · cases ht : textP ys [] with
              | ok o r => rw [ht] at h'; simp at h'
              | err e =>
                rw [ht] at h'
                dsimp only at h'
                injection h' with h'
                have := textP_err ys [] e ht
                omega
            · injection h' with h'; omega
theorem valP_back (xs rest : List Int) (v : S35) (hb : Bys xs) (h : valP xs = .ok v rest) : xs = keyV v ++ rest := by
  cases xs with
  | nil => simp [valP] at h
  | cons y ys =>
    have h' : valB (y - 1) ys = .ok v rest := h
    have hy := hb y (List.mem_cons_self ..)
    have hys : Bys ys := fun x hx => hb x (List.mem_cons_of_mem _ hx)
    have hkind : ∀ k : Int, 0 ≤ k → k ≤ 4 → y - 1 = k → kindB k = y := fun k h0 h1 e => by rw [kindB_small k h0 h1]; omega
    unfold valB at h'
    split at h'
    · rename_i hk
      injection h' with h1 h2
      subst h1 h2
      unfold keyV
      dsimp only
      rw [hkind 0 (by decide) (by decide) hk, tailV_0 (by decide) (by decide) (by decide) (by decide)]
      rfl
    · split at h'
      · rename_i hk
        cases ys with
        | nil => simp at h'
        | cons z zs =>
          dsimp only at h'
          split at h'
          · simp at h'
          · injection h' with h1 h2
            subst h1 h2
            have hz := hys z (List.mem_cons_self ..)
            unfold keyV
            dsimp only
            rw [hkind 1 (by decide) (by decide) hk, tailV_1 rfl]
            dsimp only
            rw [show z % 256 = z by omega]
            rfl
      · split at h'
        · rename_i hk
          split at h'
          · simp at h'
          · rename_i hl
            injection h' with h1 h2
            subst h1 h2
            obtain ⟨n1, n2, n3⟩ := num_eight (ys.take 8) (by rw [List.length_take]; omega) (fun x hx => hys x (List.mem_of_mem_take hx))
            unfold keyV
            dsimp only
            rw [hkind 2 (by decide) (by decide) hk, tailV_2 rfl]
            dsimp only
            rw [xorU _ n2 n3, intU_eq _ (by omega) (by omega), show numU (ys.take 8) - 9223372036854775808 + 9223372036854775808 = numU (ys.take 8) by omega, n1, List.cons_append, List.take_append_drop]
        · split at h'
          · rename_i hk
            split at h'
            · simp at h'
            · rename_i hl
              split at h'
              · simp at h'
              · rename_i ho
                split at h'
                · simp at h'
                · injection h' with h1 h2
                  subst h1 h2
                  obtain ⟨n1, n2, n3⟩ := num_eight (ys.take 8) (by rw [List.length_take]; omega) (fun x hx => hys x (List.mem_of_mem_take hx))
                  have ho' : ordU (disU (numU (ys.take 8))) = numU (ys.take 8) := by simpa using ho
                  unfold keyV
                  dsimp only
                  rw [hkind 3 (by decide) (by decide) hk, tailV_3 rfl]
                  dsimp only
                  rw [ho', n1, List.cons_append, List.take_append_drop]
          · split at h'
            · rename_i hk
              cases ht : textP ys [] with
              | err e => rw [ht] at h'; simp at h'
              | ok o r =>
                rw [ht] at h'
                dsimp only at h'
                injection h' with h1 h2
                subst h1 h2
                obtain ⟨l, e1, e2⟩ := textP_back ys [] o r ht
                rw [List.nil_append] at e1
                subst e1
                have hl : Bys o := fun x hx => hys x (by rw [e2]; exact List.mem_append_left _ (mem_escI o x hx))
                unfold keyV
                dsimp only
                rw [hkind 4 (by decide) (by decide) hk, tailV_4 rfl, textB_esc]
                dsimp only
                rw [bytes_strOf o hl, e2, List.cons_append, List.append_assoc]
                rfl
            · simp at h'
theorem decP_back : ∀ (k : Nat) (xs : List Int) (acc l : List S35), xs.length ≤ k → Bys xs → decP k xs acc = (l, 0) → ∃ m, l = acc ++ m ∧ keyL m = xs
  | 0, xs, acc, l, hk, _, h => by
    have : xs = [] := List.length_eq_zero_iff.1 (by omega)
    subst this
    rw [decP] at h
    injection h with h _
    exact ⟨[], by rw [h, List.append_nil], rfl⟩
  | k + 1, xs, acc, l, hk, hb, h => by
    rw [decP] at h
    split at h
    · rename_i hx
      injection h with h _
      exact ⟨[], by rw [h, List.append_nil], hx.symm⟩
    · cases hv : valP xs with
      | err c =>
        rw [hv] at h
        dsimp only at h
        injection h with _ h
        exact absurd h (valP_err xs c hv)
      | ok v rest =>
        rw [hv] at h
        dsimp only at h
        have hx := valP_back xs rest v hb hv
        have hlen : rest.length + 1 ≤ xs.length := by
          rw [hx]; unfold keyV; rw [List.length_append, List.length_cons]; omega
        obtain ⟨m, h1, h2⟩ := decP_back k rest _ l (by omega) (fun x hx' => hb x (by rw [hx]; exact List.mem_append_right _ hx')) h
        exact ⟨v :: m, by rw [h1, List.append_assoc]; rfl, by rw [keyL_cons, h2, ← hx]⟩
theorem decK_back (b : List Int) (hb : Bys b) (l : List S35) (h : decK b = (l, 0)) : keyL l = b := by
  obtain ⟨m, h1, h2⟩ := decP_back b.length b [] l (Nat.le_refl _) hb h
  rw [List.nil_append] at h1
  rw [h1, h2]
theorem same_at : ∀ (m : Nat) (l : List S35) (i g : Nat), l.length - i ≤ m → i ≤ l.length → l.length ≤ 4398046511104 → haspref02_SameRow.l0 (m + g + 1) l l i = some true := by
  intro m
  induction m with
  | zero =>
    intro l i g hm hi hl
    rw [haspref02_SameRow.l0, if_neg (by omega)]
  | succ m ih =>
    intro l i g hm hi hl
    rw [show m + 1 + g + 1 = (m + g + 1) + 1 by omega, haspref02_SameRow.l0]
    by_cases h : i < l.length
    · rw [if_pos (by omega), if_pos (by omega), if_pos (by omega), w64n i (by omega)]
      simp only [beq_self_eq_true, Bool.not_true, Bool.or_self, Bool.false_eq_true, if_false]
      exact ih l (i + 1) g (by omega) (by omega) hl
    · rw [if_neg (by omega)]
theorem same_eq (l : List S35) (k : Nat) (hk : l.length + 1 ≤ k) (hl : l.length ≤ 4398046511104) : haspref02_SameRow.f k l l = some true := by
  have h := same_at l.length l 0 (k - l.length - 1) (by omega) (by omega) hl
  rw [show l.length + (k - l.length - 1) + 1 = k by omega] at h
  unfold haspref02_SameRow.f
  rw [if_pos rfl]
  exact h
/-- More steps than bytes change nothing. -/
theorem decP_fuel : ∀ (k j : Nat) (xs : List Int) (acc : List S35), xs.length ≤ k → xs.length ≤ j → decP k xs acc = decP j xs acc
  | 0, j, xs, acc, h, _ => by
    have : xs = [] := List.length_eq_zero_iff.1 (by omega)
    subst this
    rw [decP_nil, decP_nil]
  | k + 1, 0, xs, acc, _, h => by
    have : xs = [] := List.length_eq_zero_iff.1 (by omega)
    subst this
    rw [decP_nil, decP_nil]
  | k + 1, j + 1, xs, acc, h1, h2 => by
    rw [decP, decP]
    split
    · rfl
    · cases hv : valP xs with
      | err c => rfl
      | ok v rest =>
        obtain ⟨n, n1, n2, n3⟩ := valP_drop xs rest v hv
        have hl : rest.length + n = xs.length := by rw [n3, List.length_drop]; omega
        exact decP_fuel k j rest _ (by omega) (by omega)
theorem rdi_at (l : List Int) (i : Nat) (h : i < l.length) : rd l (i : Int) = l[i] := by simp [rd, List.getD, h]
theorem w64d (a b : Nat) (h : a < 140737488355328) (hb : b < 140737488355328 := by omega) : wrap64 ((a : Int) - (b : Int)) = (a : Int) - (b : Int) := by simp only [wrap64]; omega
theorem w64a (i n : Nat) (h : i + n < 9223372036854775808) : wrap64 ((i : Int) + (n : Int)) = ((i + n : Nat) : Int) := by simp only [wrap64]; omega
/-- Texts: what the document's function answers. -/
def textA (n : Nat) : TextR → Option (ByteArray × Int × Int) → Prop
  | .ok o rest, r => ∃ j : Nat, j ≤ n ∧ n - j = rest.length ∧ r = some (strOfNums o, (j : Int), 0)
  | .err c, r => ∃ s j, r = some (s, j, c)
theorem text_at (x0 : List Int) (hl : x0.length ≤ 4398046511104) : ∀ (m i g : Nat) (out : List Int), x0.length - i ≤ m → i ≤ x0.length → out.length ≤ 200 →
    textA x0.length (textP (x0.drop i) out) (haspref05_text.l0 (m + g + 1) x0 i out) ∧ (∀ o rest, textP (x0.drop i) out = .ok o rest → ∃ j, j ≤ x0.length ∧ rest = x0.drop j ∧ haspref05_text.l0 (m + g + 1) x0 i out = some (strOfNums o, (j : Int), 0)) := by
  intro m
  induction m with
  | zero =>
    intro i g out hm hi ho
    have hd : x0.drop i = [] := List.drop_of_length_le (by omega)
    rw [hd, textP, haspref05_text.l0, if_pos (by omega)]
    exact ⟨⟨_, _, rfl⟩, fun o rest h => by cases h⟩
  | succ m ih =>
    intro i g out hm hi ho
    by_cases h : i < x0.length
    · rw [show m + 1 + g + 1 = (m + g + 1) + 1 by omega, haspref05_text.l0, if_neg (by omega), if_pos (by omega), if_pos (by omega), rdi_at x0 i h, w64n i (by omega)]
      by_cases h0 : x0[i] = 0
      · rw [if_pos h0]
        by_cases h1 : i + 1 < x0.length
        · have hd : x0.drop i = x0[i] :: x0[i + 1] :: x0.drop (i + 2) := by rw [List.drop_eq_getElem_cons h, List.drop_eq_getElem_cons h1]
          rw [if_neg (by omega), if_pos (by omega), if_pos (by omega), rdi_at x0 (i + 1) h1, w64n (i + 1) (by omega), hd, textP, if_pos h0]
          by_cases h2 : x0[i + 1] = 1
          · rw [if_pos h2, if_pos h2]
            refine ⟨⟨i + 1 + 1, by omega, by rw [List.length_drop], rfl⟩, fun o rest he => ?_⟩
            injection he with e1 e2
            subst e1 e2
            exact ⟨i + 2, by omega, rfl, rfl⟩
          · rw [if_neg h2, if_neg h2]
            by_cases h3 : x0[i + 1] = 255
            · rw [if_pos h3, if_pos h3]
              by_cases h4 : out.length = 200
              · rw [if_pos h4, if_pos (by omega)]
                exact ⟨⟨_, _, rfl⟩, fun o rest he => by cases he⟩
              · rw [if_neg h4, if_neg (by omega), if_pos (by omega), h0]
                have := ih (i + 2) g (out ++ [0]) (by omega) (by omega) (by rw [List.length_append, List.length_singleton]; omega)
                exact this
            · rw [if_neg h3, if_neg h3]
              exact ⟨⟨_, _, rfl⟩, fun o rest he => by cases he⟩
        · have hd : x0.drop i = [x0[i]] := by rw [List.drop_eq_getElem_cons h, List.drop_of_length_le (by omega)]
          rw [if_pos (by omega), hd, textP, if_pos h0]
          exact ⟨⟨_, _, rfl⟩, fun o rest he => by cases he⟩
      · rw [if_neg h0, List.drop_eq_getElem_cons h, textP_one _ _ _ h0]
        by_cases h4 : out.length = 200
        · rw [if_pos h4, if_pos (by omega)]
          exact ⟨⟨_, _, rfl⟩, fun o rest he => by cases he⟩
        · rw [if_neg h4, if_neg (by omega), if_pos (by omega)]
          exact ih (i + 1) g (out ++ [x0[i]]) (by omega) (by omega) (by rw [List.length_append, List.length_singleton]; omega)
    · have hd : x0.drop i = [] := List.drop_of_length_le (by omega)
      rw [hd, textP, show m + 1 + g + 1 = (m + 1 + g) + 1 by omega, haspref05_text.l0, if_pos (by omega)]
      exact ⟨⟨_, _, rfl⟩, fun o rest h => by cases h⟩
/-- Numbers. -/
theorem step8 (u c : Int) (hu : 0 ≤ u) (hc : 0 ≤ c ∧ c < 256) (h : u * 256 + c < 18446744073709551616) : IntKind.u64.wrap ((IntKind.u64.wrap (u * 256)) + (IntKind.u64.wrap c)) = u * 256 + c := by
  rw [u64w', u64w', u64w']; omega
/-- What the document's function answers of a number's bytes. -/
def numA (kind u : Int) : Int × Int :=
  if kind = 1 then (if u > 1 then (0, 2) else (u, 0)) else if kind = 2 then (u - 9223372036854775808, 0)
  else if u = 9223372036854775807 ∨ canonI (if u < 9223372036854775808 then -1 - u else u - 9223372036854775808) ≠ (if u < 9223372036854775808 then -1 - u else u - 9223372036854775808) then (0, 2)
  else (if u < 9223372036854775808 then -1 - u else u - 9223372036854775808, 0)
theorem canon_eq (n : Int) : haspref01_Canon.f n = some (canonI n) := by
  unfold haspref01_Canon.f
  rw [isnan_eq, Option.bind_some, canonI_eq]
  cases nanB n
  · rw [if_neg (by decide), if_neg (by decide)]
  · rw [if_pos rfl, if_pos rfl]
theorem number_end (kind u : Int) (h0 : 0 ≤ u) (h1 : u < 18446744073709551616) (x1 : List Int) (k : Nat) (x7 : Int) (h7 : ¬ x7 < (x1.length : Int)) : haspref05_number.l0 (k + 1) kind x1 u x7 = some (numA kind u) := by
  rw [haspref05_number.l0, if_neg h7]
  unfold numA
  by_cases k1 : kind = 1
  · rw [if_pos k1, if_pos k1]
    by_cases hu : u > 1
    · rw [if_pos hu, if_pos hu]
    · rw [if_neg hu, if_neg hu]; simp only [wrap64]; congr 2; omega
  · rw [if_neg k1, if_neg k1]
    by_cases k2 : kind = 2
    · rw [if_pos k2, if_pos k2, u64w']; simp only [wrap64]; congr 2; omega
    · rw [if_neg k2, if_neg k2]
      by_cases hu : u < 9223372036854775808
      · have e : wrap64 ((-1) - (wrap64 u)) = -1 - u := by simp only [wrap64]; omega
        rw [if_pos hu, if_pos hu, e]
        by_cases hm : -1 - u = -9223372036854775808
        · rw [if_pos hm, if_pos (Or.inl (by omega))]
        · rw [if_neg hm, canon_eq, Option.bind_some]
          by_cases hc : -1 - u = canonI (-1 - u)
          · rw [if_pos hc, if_neg (by rintro (h | h); · omega
                                      · exact h hc.symm)]
          · rw [if_neg hc, if_pos (Or.inr (fun h => hc h.symm))]
      · have e : wrap64 (IntKind.u64.wrap (u + 9223372036854775808)) = u - 9223372036854775808 := by rw [u64w']; simp only [wrap64]; omega
        rw [if_neg hu, if_neg hu, e]
        rw [if_neg (by omega), canon_eq, Option.bind_some]
        by_cases hc : u - 9223372036854775808 = canonI (u - 9223372036854775808)
        · rw [if_pos hc, if_neg (by rintro (h | h); · omega
                                    · exact h hc.symm)]
        · rw [if_neg hc, if_pos (Or.inr (fun h => hc h.symm))]
theorem number_at (kind : Int) (x1 : List Int) (hb : Bys x1) (hl : x1.length ≤ 8) : ∀ (m i g : Nat), x1.length - i = m → i ≤ x1.length →
    haspref05_number.l0 (m + g + 1) kind x1 (numU (x1.take i)) i = some (numA kind (numU x1)) := by
  intro m
  induction m with
  | zero =>
    intro i g hm hi
    have hn := be_num x1.length x1 rfl hl hb
    have hp := p256 x1.length hl
    generalize 256 ^ x1.length = q at hn hp
    rw [List.take_of_length_le (by omega), show 0 + g + 1 = g + 1 by omega]
    exact number_end kind _ hn.1 (by omega) x1 g _ (by omega)
  | succ m ih =>
    intro i g hm hi
    have h : i < x1.length := by omega
    have hn := be_num (i + 1) (x1.take (i + 1)) (by rw [List.length_take]; omega) (by omega) (fun x hx => hb x (List.mem_of_mem_take hx))
    have hn0 := be_num i (x1.take i) (by rw [List.length_take]; omega) (by omega) (fun x hx => hb x (List.mem_of_mem_take hx))
    have hp := p256 (i + 1) (by omega)
    have hc := hb x1[i] (List.getElem_mem h)
    have e : x1.take (i + 1) = x1.take i ++ [x1[i]] := List.take_succ_eq_append_getElem h
    have hp0 : 256 ^ i * 256 ≤ 18446744073709551616 := by rw [← Nat.pow_succ]; exact hp
    generalize 256 ^ i = q at hn0 hp0
    have hs : numU (x1.take i) * 256 + x1[i] < 18446744073709551616 := by omega
    have e2 : numU (x1.take (i + 1)) = numU (x1.take i) * 256 + x1[i] := by rw [e, numU_snoc, stepN_eq _ _ hn0.1 hc.1 hc.2 hs]
    rw [show m + 1 + g + 1 = (m + g + 1) + 1 by omega, haspref05_number.l0, if_pos (by omega), if_pos (by omega), rdi_at x1 i h, step8 _ _ hn0.1 hc hs, ← e2, w64n i (by omega)]
    exact ih (i + 1) g (by omega) (by omega)
theorem number_eq (kind : Int) (x1 : List Int) (hb : Bys x1) (hl : x1.length ≤ 8) (k : Nat) (hk : 9 ≤ k) : haspref05_number.f k kind x1 = some (numA kind (numU x1)) := by
  have h := number_at kind x1 hb hl x1.length 0 (k - x1.length - 1) (by omega) (by omega)
  rw [show x1.length + (k - x1.length - 1) + 1 = k by omega, List.take_zero] at h
  exact h
theorem num_one (z : Int) (h : 0 ≤ z ∧ z < 256) : numU [z] = z := by
  show stepN 0 z = z
  rw [stepN_eq _ _ (by decide) h.1 h.2 (by omega)]; omega
theorem j2dec_eq (x0 : List Int) (hb : Bys x0) (hl : x0.length ≤ 10000000) (acc : List S35) (j n : Nat) (hn : n ≤ 8) (hj : j ≤ x0.length) (K : Int) (k : Nat) (hk : 9 ≤ k) (R : Int × Int) (hR : R = numA K (numU ((x0.drop j).take n))) :
    haspref05_Decode.j2 (k + 1) x0 acc [] j n K 0 ⟨#[]⟩ = if x0.length - j < n then some ([], 3) else if R.2 = 0 then (if acc.length < 4398046511104 then haspref05_Decode.l0 k x0 (acc ++ [⟨K, R.1, ⟨#[]⟩⟩]) [] ((j + n : Nat) : Int) else none) else some ([], R.2) := by
  rw [haspref05_Decode.j2, w64d x0.length j (by omega)]
  by_cases h : x0.length - j < n
  · rw [if_pos (by omega), if_pos h]
  · have et : (x0.take (j + n)).drop j = (x0.drop j).take n := by rw [List.take_drop]
    have b8 : Bys ((x0.drop j).take n) := fun x hx => hb x (List.mem_of_mem_drop (List.mem_of_mem_take hx))
    rw [if_neg (by omega), if_neg h, w64a j n (by omega), if_pos (by omega), if_pos (by omega), if_pos (by omega), Int.toNat_natCast, Int.toNat_natCast, et, number_eq _ _ b8 (by rw [List.length_take]; omega) _ hk, Option.bind_some, ← hR]
theorem valB_two (D : List Int) (hb : Bys D) (hlen : ¬ D.length < 8) : valB 2 D = .ok ⟨2, numU (D.take 8) - 9223372036854775808, ⟨#[]⟩⟩ (D.drop 8) := by
  obtain ⟨n1, n2, n3⟩ := num_eight (D.take 8) (by rw [List.length_take]; omega) (fun x hx => hb x (List.mem_of_mem_take hx))
  unfold valB
  rw [if_neg (by decide), if_neg (by decide), if_pos rfl, if_neg hlen, xorU _ n2 n3]
theorem dis_eq (U : Int) (n2 : 0 ≤ U) (n3 : U < 18446744073709551616) : disU U = if U < 9223372036854775808 then -1 - U else U - 9223372036854775808 := by
  by_cases hu : U < 9223372036854775808
  · rw [if_pos hu, disU_lo _ n2 hu]
  · rw [if_neg hu, disU_hi _ (by omega) n3]
theorem ord_dis (U : Int) (n2 : 0 ≤ U) (n3 : U < 18446744073709551616) : (ordU (disU U) != U) = decide (U = 9223372036854775807) := by
  have hrg : -9223372036854775808 ≤ disU U ∧ disU U < 9223372036854775808 := by rw [dis_eq U n2 n3]; split <;> omega
  rw [ordU_eq _ hrg.1 hrg.2, dis_eq U n2 n3, Bool.eq_iff_iff, bne_iff_ne, decide_eq_true_eq]
  unfold rise
  repeat' split
  all_goals omega
theorem valB_three (D : List Int) (hb : Bys D) (hlen : ¬ D.length < 8) (R : Int × Int) (hR : R = numA 3 (numU (D.take 8))) : valB 3 D = if R.2 = 0 then .ok ⟨3, R.1, ⟨#[]⟩⟩ (D.drop 8) else .err R.2 := by
  obtain ⟨n1, n2, n3⟩ := num_eight (D.take 8) (by rw [List.length_take]; omega) (fun x hx => hb x (List.mem_of_mem_take hx))
  obtain ⟨U, hU⟩ : ∃ U, U = numU (D.take 8) := ⟨_, rfl⟩
  rw [← hU] at n2 n3 hR
  obtain ⟨M, hM⟩ : ∃ M, M = (9223372036854775807 : Int) := ⟨_, rfl⟩
  have h1 := ord_dis U n2 n3
  have h2 : numA 3 U = if U = 9223372036854775807 ∨ canonI (disU U) ≠ disU U then (0, 2) else (disU U, 0) := by
    unfold numA
    rw [if_neg (by decide), if_neg (by decide), ← dis_eq U n2 n3]
  rw [← hM] at h1 h2
  unfold valB
  rw [if_neg (by decide), if_neg (by decide), if_neg (by decide), if_pos rfl, if_neg hlen, ← hU, h1, hR, h2]
  by_cases hu : U = M
  · rw [if_pos (decide_eq_true hu), if_pos (Or.inl hu), if_neg (by decide)]
  · rw [if_neg (c := decide (U = M) = true) (fun h => hu (of_decide_eq_true h))]
    by_cases hc : canonI (disU U) = disU U
    · rw [if_neg (show ¬ (U = M ∨ canonI (disU U) ≠ disU U) from fun h => h.elim hu (fun h => h hc)), if_pos rfl, hc, bne_self_eq_false, if_neg (by decide)]
    · rw [if_pos (show U = M ∨ canonI (disU U) ≠ disU U from Or.inr hc), if_pos (bne_iff_ne.2 (fun h => hc h.symm)), if_neg (c := ((0, 2) : Int × Int).2 = 0) (by decide)]
theorem valB_one (z : Int) (zs : List Int) (hz : 0 ≤ z ∧ z < 256) (R : Int × Int) (hR : R = numA 1 (numU [z])) : valB 1 (z :: zs) = if R.2 = 0 then .ok ⟨1, R.1, ⟨#[]⟩⟩ zs else .err R.2 := by
  rw [num_one z hz] at hR
  unfold valB
  rw [if_neg (by decide), if_pos rfl, hR]
  unfold numA
  rw [if_pos rfl]
  dsimp only
  by_cases h : z > 1
  · rw [if_pos h, if_pos h, if_neg (by decide)]
  · rw [if_neg h, if_neg h, if_pos rfl]
theorem valB_num (K : Int) (hK : K = 1 ∨ K = 2 ∨ K = 3) (n : Nat) (hn : n = if K = 1 then 1 else 8) (D : List Int) (hb : Bys D) (R : Int × Int) (hR : R = numA K (numU (D.take n))) :
    valB K D = if D.length < n then .err 3 else if R.2 = 0 then .ok ⟨K, R.1, ⟨#[]⟩⟩ (D.drop n) else .err R.2 := by
  rcases hK with rfl | rfl | rfl
  · rw [if_pos rfl] at hn
    subst hn
    cases D with
    | nil => unfold valB; rw [if_neg (by decide), if_pos rfl]; rfl
    | cons z zs =>
      rw [if_neg (by simp)]
      exact valB_one z zs (hb z (List.mem_cons_self ..)) R hR
  · rw [if_neg (by decide)] at hn
    subst hn
    by_cases h : D.length < 8
    · rw [if_pos h]; unfold valB; rw [if_neg (by decide), if_neg (by decide), if_pos rfl, if_pos h]
    · have h2 : R = (numU (D.take 8) - 9223372036854775808, 0) := by rw [hR]; unfold numA; rw [if_neg (by decide), if_pos rfl]
      rw [if_neg h, valB_two D hb h, h2, if_pos rfl]
  · rw [if_neg (by decide)] at hn
    subst hn
    by_cases h : D.length < 8
    · rw [if_pos h]; unfold valB; rw [if_neg (by decide), if_neg (by decide), if_neg (by decide), if_pos rfl, if_pos h]
    · rw [if_neg h]
      exact valB_three D hb h R hR
set_option maxHeartbeats 1000000 in
/-- The document's Decode, from a place on. -/
theorem dec_at (x0 : List Int) (hb : Bys x0) (hl : x0.length ≤ 10000000) : ∀ (m i g : Nat) (acc : List S35), x0.length - i ≤ m → i ≤ x0.length → acc.length ≤ i →
    haspref05_Decode.l0 (4 * m + g + 20) x0 acc [] i = some (decP (x0.length - i) (x0.drop i) acc) := by
  intro m
  induction m with
  | zero =>
    intro i g acc hm hi ha
    rw [show 4 * 0 + g + 20 = (g + 19) + 1 by omega, haspref05_Decode.l0, if_neg (by omega), List.drop_of_length_le (by omega), decP_nil]
  | succ m ih =>
    intro i g acc hm hi ha
    rw [show 4 * (m + 1) + g + 20 = (4 * m + g + 20 + 3) + 1 by omega, haspref05_Decode.l0]
    by_cases h : i < x0.length
    · have hy := hb x0[i] (List.getElem_mem h)
      have hbd : Bys (x0.drop (i + 1)) := fun x hx => hb x (List.mem_of_mem_drop hx)
      have e1 : wrap64 ((wrap64 (rd x0 (i : Int))) - 1) = x0[i] - 1 := by rw [rdi_at x0 i h]; simp only [wrap64]; omega
      have e2 : x0.length - i = (x0.length - (i + 1)) + 1 := by omega
      rw [if_pos (by omega), if_pos (by omega), e1, w64n i (by omega), e2, List.drop_eq_getElem_cons h, decP, if_neg (show ¬ (x0[i] :: x0.drop (i + 1)) = [] from List.cons_ne_nil _ _)]
      have ev : valP (x0[i] :: x0.drop (i + 1)) = valB (x0[i] - 1) (x0.drop (i + 1)) := rfl
      rw [ev]
      obtain ⟨K, hK⟩ : ∃ K, K = x0[i] - 1 := ⟨_, rfl⟩
      rw [← hK]
      obtain ⟨D, hD⟩ : ∃ D, D = x0.drop (i + 1) := ⟨_, rfl⟩
      rw [← hD]
      have hvbad : (K < 0 ∨ K > 4) → valB K D = .err 50 := fun hk => by
        unfold valB
        rw [if_neg (by omega), if_neg (by omega), if_neg (by omega), if_neg (by omega), if_neg (by omega)]
      by_cases hneg : K < 0
      · rw [if_pos hneg, haspref05_Decode.j1, if_pos rfl, hvbad (Or.inl hneg)]
      · rw [if_neg hneg]
        by_cases hbig : K > 4
        · rw [haspref05_Decode.j1, if_pos (decide_eq_true hbig), hvbad (Or.inr hbig)]
        · rw [haspref05_Decode.j1, if_neg (by simpa using hbig)]
          by_cases k4 : K = 4
          · rw [if_pos k4]
            have ht := text_at x0 (by omega) (x0.length - (i + 1)) (i + 1) (4 * m + g + 20 + 2 - (x0.length - (i + 1)) - 1) [] (by omega) (by omega) (by decide)
            rw [show x0.length - (i + 1) + (4 * m + g + 20 + 2 - (x0.length - (i + 1)) - 1) + 1 = 4 * m + g + 20 + 2 by omega, ← hD] at ht
            have hf : haspref05_text.f (4 * m + g + 20 + 2) x0 ((i + 1 : Nat) : Int) = haspref05_text.l0 (4 * m + g + 20 + 2) x0 ((i + 1 : Nat) : Int) [] := rfl
            have hv : valB K D = (match textP D [] with
              | .ok out rest => .ok ⟨4, 0, strOfNums out⟩ rest
              | .err c => .err c) := by
              unfold valB
              rw [if_neg (by omega), if_neg (by omega), if_neg (by omega), if_neg (by omega), if_pos k4]
              cases textP D [] <;> rfl
            rw [hf, hv]
            cases hp : textP D [] with
            | err c =>
              rw [hp] at ht
              obtain ⟨s, j, hr⟩ := ht.1
              rw [hr, Option.bind_some, if_neg (textP_err _ _ c hp)]
            | ok o rest =>
              obtain ⟨j, hj, hrest, hr⟩ := ht.2 o rest hp
              obtain ⟨n, n1, n2, n3⟩ := textP_drop _ _ _ _ hp
              rw [hD, List.drop_drop] at n3
              rw [hD, List.length_drop] at n2
              have hjn : x0.drop j = x0.drop (i + 1 + n) := by rw [← hrest, n3]
              have hjl : x0.length - j = x0.length - (i + 1 + n) := by have := congrArg List.length hjn; rwa [List.length_drop, List.length_drop] at this
              have hjj : j = i + 1 + n := by omega
              rw [hr, Option.bind_some, if_pos rfl, if_pos (by omega)]
              dsimp only
              have := ih j (g + 2) (acc ++ [⟨K, 0, strOfNums o⟩]) (by omega) hj (by rw [List.length_append, List.length_singleton]; omega)
              rw [show 4 * m + (g + 2) + 20 = 4 * m + g + 20 + 2 by omega] at this
              rw [this, hrest, k4]
              exact congrArg some (decP_fuel _ _ _ _ (by rw [List.length_drop]; exact Nat.le_refl _) (by rw [List.length_drop]; omega))
          · rw [if_neg k4]
            by_cases k0 : K > 0
            · rw [if_pos k0]
              have hK3 : K = 1 ∨ K = 2 ∨ K = 3 := by omega
              obtain ⟨n, hn⟩ : ∃ n : Nat, n = if K = 1 then 1 else 8 := ⟨_, rfl⟩
              have hn8 : n ≤ 8 := by rw [hn]; split <;> decide
              have hn1 : 1 ≤ n := by rw [hn]; split <;> decide
              obtain ⟨R, hR⟩ : ∃ R, R = numA K (numU (D.take n)) := ⟨_, rfl⟩
              have hv := valB_num K hK3 n hn D (by rw [hD]; exact hbd) R hR
              have hj : (if K = 1 then haspref05_Decode.j2 (4 * m + g + 20 + 2) x0 acc [] ((i + 1 : Nat) : Int) 1 K 0 ⟨#[]⟩ else haspref05_Decode.j2 (4 * m + g + 20 + 2) x0 acc [] ((i + 1 : Nat) : Int) 8 K 0 ⟨#[]⟩) = haspref05_Decode.j2 (4 * m + g + 20 + 2) x0 acc [] ((i + 1 : Nat) : Int) (n : Int) K 0 ⟨#[]⟩ := by
                by_cases k1 : K = 1
                · rw [if_pos k1, hn, if_pos k1]; rfl
                · rw [if_neg k1, hn, if_neg k1]; rfl
              rw [hD] at hR
              have hj2 := j2dec_eq x0 hb hl acc (i + 1) n hn8 (by omega) K (4 * m + g + 20 + 1) (by omega) R hR
              have hDl : D.length = x0.length - (i + 1) := by rw [hD, List.length_drop]
              refine hj.trans (hj2.trans ?_)
              rw [hv, hDl]
              by_cases h1 : x0.length - (i + 1) < n
              · rw [if_pos h1, if_pos h1]
              · rw [if_neg h1, if_neg h1]
                by_cases h2 : R.2 = 0
                · rw [if_pos h2, if_pos h2, if_pos (by omega)]
                  have := ih (i + 1 + n) (g + 1) (acc ++ [⟨K, R.1, ⟨#[]⟩⟩]) (by omega) (by omega) (by rw [List.length_append, List.length_singleton]; omega)
                  rw [show 4 * m + (g + 1) + 20 = 4 * m + g + 20 + 1 by omega] at this
                  rw [this, hD, List.drop_drop]
                  exact congrArg some (decP_fuel _ _ _ _ (by rw [List.length_drop]; exact Nat.le_refl _) (by rw [List.length_drop]; omega))
                · rw [if_neg h2, if_neg h2]
            · have k00 : K = 0 := by omega
              have hv : valB K D = .ok ⟨0, 0, ⟨#[]⟩⟩ D := by unfold valB; rw [if_pos k00]
              rw [if_neg k0, if_pos rfl, if_pos (by omega), hv]
              dsimp only
              have := ih (i + 1) (g + 2) (acc ++ [⟨K, 0, ⟨#[]⟩⟩]) (by omega) (by omega) (by rw [List.length_append, List.length_singleton]; omega)
              rw [show 4 * m + (g + 2) + 20 = 4 * m + g + 20 + 2 by omega] at this
              rw [this, k00, hD]
    · rw [if_neg (by omega), List.drop_of_length_le (by omega), decP_nil]
theorem refdec_eq (b : List Int) (hb : Bys b) (hl : b.length ≤ 10000000) (k : Nat) (hk : 4 * b.length + 20 ≤ k) : haspref05_Decode.f k b = some (decK b) := by
  have h := dec_at b hb hl b.length 0 (k - 4 * b.length - 20) [] (by omega) (by omega) (by simp)
  rw [show 4 * b.length + (k - 4 * b.length - 20) + 20 = k by omega, List.drop_zero, Nat.sub_zero] at h
  exact h
theorem spoil_at (r6 r8 : List S35) (hr : ∀ k, r6.length + 1 ≤ k → haspref02_SameRow.f k r6 r8 = some true) : ∀ (m : Nat) (x4 : List S35) (i g : Nat), x4.length - i ≤ m → i ≤ x4.length → x4.length ≤ 4398046511104 →
    hasplaw05_KeysDecodes.l0 (m + g + r6.length + 2) x4 r6 r8 (x4.length : Int) i = some true := by
  intro m
  induction m with
  | zero =>
    intro x4 i g hm hi hl
    rw [show 0 + g + r6.length + 2 = (g + r6.length + 1) + 1 by omega, hasplaw05_KeysDecodes.l0, if_neg (by omega), hr _ (by omega), Option.bind_some]
  | succ m ih =>
    intro x4 i g hm hi hl
    rw [show m + 1 + g + r6.length + 2 = (m + g + r6.length + 2) + 1 by omega, hasplaw05_KeysDecodes.l0]
    by_cases h : i < x4.length
    · rw [if_pos (by omega), if_pos (by omega), if_pos (by omega), w64n i (by omega)]
      have := ih (x4.set (i : Int).toNat (⟨9, 0, (⟨#[]⟩ : ByteArray)⟩ : S35)) (i + 1) g (by rw [List.length_set]; omega) (by rw [List.length_set]; omega) (by rw [List.length_set]; omega)
      rw [List.length_set] at this
      exact this
    · rw [if_neg (by omega), hr _ (by omega), Option.bind_some]
theorem decP_length : ∀ (k : Nat) (xs : List Int) (acc : List S35), (decP k xs acc).1.length ≤ acc.length + k
  | 0, xs, acc => by rw [decP]; exact Nat.le_refl _
  | k + 1, xs, acc => by
    rw [decP]
    split
    · show acc.length ≤ _; omega
    · cases valP xs with
      | err c => show 0 ≤ _; omega
      | ok v rest =>
        have := decP_length k rest (acc ++ [v])
        rw [List.length_append, List.length_singleton] at this
        show (decP k rest (acc ++ [v])).1.length ≤ _
        omega
theorem DecodesPure (b : List Int) (hl : b.length ≤ 10000000) (hb : ∀ x ∈ b, 0 ≤ x ∧ x < 256) : ∃ k, hasplaw05_KeysDecodes.f k b = some true := by
  refine ⟨4 * b.length + 100, ?_⟩
  have hd : (decK b).1.length ≤ b.length := by
    have := decP_length b.length b []
    rw [List.length_nil, Nat.zero_add] at this
    exact this
  unfold hasplaw05_KeysDecodes.f
  rw [speaks_eq _ (by omega), Option.bind_some, if_pos rfl, Option.bind_some, if_pos (by rw [List.length_nil]; omega), List.nil_append, Option.bind_some, decode_eq b hb (by omega), Option.bind_some, Option.bind_some,
    refdec_eq b hb hl _ (by omega), Option.bind_some, if_pos rfl, same_eq _ _ (by omega) (by omega), Option.bind_some, if_pos rfl, bne_self_eq_false, hasplaw05_KeysDecodes.j0, if_neg (by decide)]
  have := spoil_at (decK b).1 (decK b).1 (fun k hk => same_eq _ k hk (by omega)) (decK b).1.length (decK b).1 0 (4 * b.length + 97 - 2 * (decK b).1.length) (by omega) (by omega) (by omega)
  rw [show (decK b).1.length + (4 * b.length + 97 - 2 * (decK b).1.length) + (decK b).1.length + 2 = 4 * b.length + 99 by omega] at this
  exact this
end Go.Proofs.YthoemenchimggaaDoor
