import Derived.Test.YtbdengnadgofmaaZdFl
/- Plain facts on IEEE doubles: rounding to the nearest word does not hang on how a number is written; a word is the nearest to what it stands for. -/
namespace Go.Proofs.Ytbdengnadgofmaa
namespace Fl
open Ieee
theorem log2_mul_pow (n k : Nat) (h : n ≠ 0) : (n * 2 ^ k).log2 = n.log2 + k := by
  have h1 := Nat.log2_self_le h
  have h2 := @Nat.lt_log2_self n
  have hp : 0 < 2 ^ k := Nat.two_pow_pos k
  have h0 : n * 2 ^ k ≠ 0 := Nat.mul_ne_zero h (by omega)
  rw [Nat.log2_eq_iff h0]
  rw [Nat.pow_add, show n.log2 + k + 1 = (n.log2 + 1) + k by omega, Nat.pow_add]
  exact ⟨Nat.mul_le_mul_right _ h1, Nat.mul_lt_mul_of_pos_right h2 hp⟩
theorem cut_zero (neg : Bool) (n : Nat) : Toward.even.cut neg n 0 = n := by
  simp [Toward.cut, Nat.mod_one]
theorem cut_def (neg : Bool) (n d : Nat) : Toward.even.cut neg n d =
    n / 2 ^ (min d (n.log2 + 2)) + (decide (2 ^ (min d (n.log2 + 2)) < 2 * (n % 2 ^ (min d (n.log2 + 2)))) || (2 ^ (min d (n.log2 + 2)) == 2 * (n % 2 ^ (min d (n.log2 + 2))) && n / 2 ^ (min d (n.log2 + 2)) % 2 == 1)).toNat := by
  simp [Toward.cut, Nat.shiftLeft_eq]
theorem cut_scale (neg : Bool) (n d k : Nat) (h : n ≠ 0) : Toward.even.cut neg (n * 2 ^ k) (d + k) = Toward.even.cut neg n d := by
  rw [cut_def, cut_def, log2_mul_pow n k h]
  have e : min (d + k) (n.log2 + k + 2) = min d (n.log2 + 2) + k := by omega
  rw [e]
  generalize min d (n.log2 + 2) = g
  have hp : 0 < 2 ^ k := Nat.two_pow_pos k
  rw [Nat.pow_add, Nat.mul_div_mul_right _ _ hp, Nat.mul_mod_mul_right]
  have c1 : decide (2 ^ g * 2 ^ k < 2 * (n % 2 ^ g * 2 ^ k)) = decide (2 ^ g < 2 * (n % 2 ^ g)) := by
    rw [← Nat.mul_assoc]
    exact decide_eq_decide.2 (Nat.mul_lt_mul_right hp)
  have c2 : (2 ^ g * 2 ^ k == 2 * (n % 2 ^ g * 2 ^ k)) = (2 ^ g == 2 * (n % 2 ^ g)) := by
    rw [← Nat.mul_assoc, Bool.eq_iff_iff, beq_iff_eq, beq_iff_eq]
    exact Nat.mul_right_cancel_iff hp ..
  rw [c1, c2]
/-- The place of the last digit that is kept. -/
def lastP (m : Nat) (p : Int) : Int := max (p + m.log2 - 52) (-1074)
theorem nearest_def (s : Bool) (m : Nat) (p : Int) (h : m ≠ 0) : Ieee.double.nearest s m p =
    Ieee.double.word s (min ((lastP m p + 1074).toNat * Bn + Toward.even.cut s (m * 2 ^ (p - lastP m p).toNat) (lastP m p - p).toNat) Ir) := by
  unfold Format.nearest
  rw [if_neg h]
  simp only [bn_eq, ir_eq, lp_eq, Nat.shiftLeft_eq]
  have : (lastP m p - -1074).toNat = (lastP m p + 1074).toNat := by omega
  rw [← this]
  rfl
theorem nearest_zero (s : Bool) (p : Int) : Ieee.double.nearest s 0 p = Ieee.double.word s 0 := by
  unfold Format.nearest; rw [if_pos rfl]
theorem nearest_scale (s : Bool) (m k : Nat) (p : Int) : Ieee.double.nearest s (m * 2 ^ k) (p - k) = Ieee.double.nearest s m p := by
  by_cases h : m = 0
  · subst h; rw [Nat.zero_mul, nearest_zero, nearest_zero]
  have hp : 0 < 2 ^ k := Nat.two_pow_pos k
  have h' : m * 2 ^ k ≠ 0 := Nat.mul_ne_zero h (by omega)
  rw [nearest_def s _ _ h', nearest_def s m p h]
  have el : lastP (m * 2 ^ k) (p - k) = lastP m p := by unfold lastP; rw [log2_mul_pow m k h]; omega
  rw [el]
  have ec : Toward.even.cut s (m * 2 ^ k * 2 ^ (p - k - lastP m p).toNat) (lastP m p - (p - k)).toNat = Toward.even.cut s (m * 2 ^ (p - lastP m p).toNat) (lastP m p - p).toNat := by
    generalize lastP m p = l
    by_cases c : l ≤ p
    · have e0 : (l - p).toNat = 0 := by omega
      rw [e0, cut_zero]
      by_cases c2 : l ≤ p - k
      · have e1 : (l - (p - k)).toNat = 0 := by omega
        rw [e1, cut_zero, Nat.mul_assoc, ← Nat.pow_add]
        congr 2; omega
      · have e1 : (p - k - l).toNat = 0 := by omega
        rw [e1, Nat.pow_zero, Nat.mul_one]
        have e2 : m * 2 ^ k = (m * 2 ^ (p - l).toNat) * 2 ^ (l - (p - k)).toNat := by
          rw [Nat.mul_assoc, ← Nat.pow_add]; congr 2; omega
        have e3 : (l - (p - k)).toNat = 0 + (l - (p - k)).toNat := by omega
        rw [e2]
        have h3 : m * 2 ^ (p - l).toNat ≠ 0 := Nat.mul_ne_zero h (by have := Nat.two_pow_pos (p - l).toNat; omega)
        have := cut_scale s (m * 2 ^ (p - l).toNat) 0 (l - (p - k)).toNat h3
        rw [Nat.zero_add, cut_zero] at this
        exact this
    · have e0 : (p - l).toNat = 0 := by omega
      have e1 : (p - k - l).toNat = 0 := by omega
      have e2 : (l - (p - k)).toNat = (l - p).toNat + k := by omega
      rw [e0, e1, e2, Nat.pow_zero, Nat.mul_one, Nat.mul_one]
      exact cut_scale s m _ k h
  rw [ec]
/-- Where no digit is lost. -/
theorem nearest_exact (s : Bool) (m : Nat) (p : Int) (h : m ≠ 0) (h52 : m.log2 ≤ 52) (hp : -1074 ≤ p) :
    Ieee.double.nearest s m p = Ieee.double.word s (min ((lastP m p + 1074).toNat * Bn + m * 2 ^ (p - lastP m p).toNat) Ir) := by
  rw [nearest_def s m p h]
  have : (lastP m p - p).toNat = 0 := by unfold lastP; omega
  rw [this, cut_zero]
theorem log2_lt {m k : Nat} (h : m ≠ 0) (hl : m < 2 ^ k) : m.log2 < k := (Nat.log2_lt h).2 hl
theorem log2_ge {m k : Nat} (h : m ≠ 0) (hl : 2 ^ k ≤ m) : k ≤ m.log2 := (Nat.le_log2 h).2 hl
/-- A WORD THAT IS READ AND WRITTEN IS ITSELF. -/
theorem write_read (x : Nat) (h : nanB x = false) : Ieee.double.write (Ieee.double.read x) = Ieee.double.word (negB x) (rung x) := by
  have hn : ¬ Ir < rung x := by simpa [nanB, rung] using h
  have eB : Bn = 4503599627370496 := rfl
  have eI : Ir = 9218868437227405312 := rfl
  rw [read_eq]
  by_cases h1 : rung x < Bn
  · rw [if_pos h1]
    show Ieee.double.nearest (negB x) (rung x) (-1074) = _
    by_cases h0 : rung x = 0
    · rw [h0, nearest_zero]
    · have hl : (rung x).log2 < 52 := log2_lt h0 (by rw [eB] at h1; exact h1)
      rw [nearest_exact _ _ _ h0 (by omega) (by omega)]
      have : lastP (rung x) (-1074) = -1074 := by unfold lastP; omega
      rw [this]
      congr 1
      rw [show ((-1074 : Int) + 1074).toNat = 0 from rfl, show ((-1074 : Int) - -1074).toNat = 0 from rfl]
      omega
  · rw [if_neg h1]
    by_cases h2 : rung x < Ir
    · rw [if_pos h2]
      show Ieee.double.nearest (negB x) (Bn + rung x % Bn) (-1074 + (rung x / Bn - 1 : Nat)) = _
      have hm : rung x % Bn < Bn := Nat.mod_lt _ (by decide)
      have h0 : Bn + rung x % Bn ≠ 0 := by omega
      have hl : (Bn + rung x % Bn).log2 = 52 := by
        have a := log2_lt (k := 53) h0 (by rw [eB] at *; omega)
        have b := log2_ge (k := 52) h0 (by rw [eB]; omega)
        omega
      rw [nearest_exact _ _ _ h0 (by omega) (by omega)]
      have : lastP (Bn + rung x % Bn) (-1074 + (rung x / Bn - 1 : Nat)) = -1074 + (rung x / Bn - 1 : Nat) := by unfold lastP; rw [hl]; omega
      rw [this, show ((-1074 + ((rung x / Bn - 1 : Nat) : Int)) - (-1074 + ((rung x / Bn - 1 : Nat) : Int))).toNat = 0 by omega, show ((-1074 + ((rung x / Bn - 1 : Nat) : Int)) + 1074).toNat = rung x / Bn - 1 by omega]
      congr 1
      have d := Nat.div_add_mod (rung x) Bn
      rw [eB, eI] at *
      omega
    · rw [if_neg h2]
      have h3 : rung x = Ir := by omega
      rw [if_pos h3, h3]
      show Ieee.double.word (negB x) Ieee.double.infRung = _
      rw [ir_eq]
theorem word_self (x : Nat) (h : x < 18446744073709551616) : Ieee.double.word (negB x) (rung x) = x := by
  unfold Format.word negB rung
  rw [sw_eq]
  have e : Sw = 9223372036854775808 := rfl
  rw [e]
  by_cases c : x / 9223372036854775808 = 1
  · rw [c]; simp; omega
  · have : x / 9223372036854775808 = 0 := by omega
    rw [this]; simp; omega
theorem neg_word (s : Bool) (r : Nat) (h : r < Sw) : negB (Ieee.double.word s r) = s ∧ rung (Ieee.double.word s r) = r ∧ Ieee.double.word s r < 18446744073709551616 := by
  unfold Format.word negB rung
  rw [sw_eq]
  have e : Sw = 9223372036854775808 := rfl
  rw [e] at h ⊢
  cases s
  · simp only [Bool.false_eq_true, if_false]
    rw [Nat.div_eq_of_lt h]
    exact ⟨rfl, Nat.mod_eq_of_lt h, by omega⟩
  · simp only [if_true]
    have : (9223372036854775808 + r) / 9223372036854775808 = 1 := by omega
    rw [this]
    exact ⟨rfl, by omega, by omega⟩
end Fl
end Go.Proofs.Ytbdengnadgofmaa
