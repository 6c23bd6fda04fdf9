import Derived.Test.YtbdengnadgofmaaZdFl2
/- Plain facts on IEEE doubles: whole parts, and whole numbers. -/
namespace Go.Proofs.Ytbdengnadgofmaa
namespace Fl
open Ieee
theorem zcut_def (neg : Bool) (n d : Nat) : Toward.zero.cut neg n d = n / 2 ^ (min d (n.log2 + 2)) := by
  simp [Toward.cut, Nat.shiftLeft_eq]
/-- Towards zero the digits behind the point fall away. -/
theorem zcut (neg : Bool) (n d : Nat) : Toward.zero.cut neg n d = n / 2 ^ d := by
  rw [zcut_def]
  by_cases c : d ≤ n.log2 + 2
  · rw [Nat.min_eq_left c]
  · rw [Nat.min_eq_right (by omega)]
    have h := @Nat.lt_log2_self n
    have h1 : n < 2 ^ (n.log2 + 2) := Nat.lt_of_lt_of_le h (Nat.pow_le_pow_right (by decide) (by omega))
    have h2 : n < 2 ^ d := Nat.lt_of_lt_of_le h1 (Nat.pow_le_pow_right (by decide) (by omega))
    rw [Nat.div_eq_of_lt h1, Nat.div_eq_of_lt h2]
/-- The whole part of a magnitude of a rung. -/
def flr (r : Nat) : Nat := if r / Bn < 1023 then 0 else if r / Bn ≤ 1075 then (Bn + r % Bn) / 2 ^ (1075 - r / Bn) else (Bn + r % Bn) * 2 ^ (r / Bn - 1075)
/-- The rung of the whole part. -/
def flrRung (r : Nat) : Nat := if r / Bn < 1023 then 0 else if r / Bn ≤ 1075 then r - r % 2 ^ (1075 - r / Bn) else r
theorem read_number (s : Bool) (r : Nat) (h1 : Bn ≤ r) (h2 : r < Ir) : Ieee.double.read (Ieee.double.word s r) = .number s (Bn + r % Bn) (((r / Bn : Nat) : Int) - 1075) := by
  have eI : Ir = 9218868437227405312 := rfl
  have eS : Sw = 9223372036854775808 := rfl
  have eB : Bn = 4503599627370496 := rfl
  have hw := neg_word s r (by rw [eS]; omega)
  rw [read_eq, hw.1, hw.2.1, if_neg (by omega), if_pos h2]
  congr 1
  have : 1 ≤ r / Bn := by rw [eB] at h1 ⊢; omega
  omega
theorem toInt_word (s : Bool) (r : Nat) (h2 : r < Ir) : (Ieee.double.read (Ieee.double.word s r)).toInt .zero = some (if s then -(flr r : Int) else flr r) := by
  have eI : Ir = 9218868437227405312 := rfl
  have eS : Sw = 9223372036854775808 := rfl
  have eB : Bn = 4503599627370496 := rfl
  by_cases h1 : r < Bn
  · have hw := neg_word s r (by rw [eS]; omega)
    rw [read_eq, hw.1, hw.2.1, if_pos h1]
    have hf : flr r = 0 := by unfold flr; rw [if_pos (by rw [eB] at *; omega)]
    simp only [Datum.toInt, Datum.integral, zcut, hf]
    have : r <<< Int.toNat (-1074) = r := by simp
    rw [this]
    have hz : r / 2 ^ Int.toNat (- -1074) = 0 := by
      apply Nat.div_eq_of_lt
      have : 2 ^ 53 ≤ 2 ^ Int.toNat (- -1074) := Nat.pow_le_pow_right (by decide) (by decide)
      rw [eB] at h1; omega
    rw [hz]; cases s <;> rfl
  · rw [read_number s r (by omega) h2]
    simp only [Datum.toInt, Datum.integral, zcut]
    congr 1
    rw [signed_eq, Nat.shiftLeft_eq, Nat.pow_zero, Nat.mul_one]
    have hE : 1 ≤ r / Bn := by rw [eB] at *; omega
    have key : (Bn + r % Bn) * 2 ^ Int.toNat (((r / Bn : Nat) : Int) - 1075) / 2 ^ Int.toNat (-(((r / Bn : Nat) : Int) - 1075)) = flr r := by
      unfold flr
      have hm : r % Bn < Bn := Nat.mod_lt _ (by decide)
      by_cases c1 : r / Bn < 1023
      · rw [if_pos c1, show Int.toNat (((r / Bn : Nat) : Int) - 1075) = 0 by omega, Nat.pow_zero, Nat.mul_one]
        apply Nat.div_eq_of_lt
        have : 2 ^ 53 ≤ 2 ^ Int.toNat (-(((r / Bn : Nat) : Int) - 1075)) := Nat.pow_le_pow_right (by decide) (by omega)
        rw [eB] at *; omega
      · rw [if_neg c1]
        by_cases c2 : r / Bn ≤ 1075
        · rw [if_pos c2, show Int.toNat (((r / Bn : Nat) : Int) - 1075) = 0 by omega, Nat.pow_zero, Nat.mul_one, show Int.toNat (-(((r / Bn : Nat) : Int) - 1075)) = 1075 - r / Bn by omega]
        · rw [if_neg c2, show Int.toNat (-(((r / Bn : Nat) : Int) - 1075)) = 0 by omega, Nat.pow_zero, Nat.div_one, show Int.toNat (((r / Bn : Nat) : Int) - 1075) = r / Bn - 1075 by omega]
    rw [key]
theorem pow_split (d : Nat) (h : d ≤ 52) : Bn = 2 ^ d * 2 ^ (52 - d) := by
  rw [← Nat.pow_add, show d + (52 - d) = 52 by omega]; decide
/-- THE WHOLE PART OF A WORD, as a word. -/
theorem trunc_word (s : Bool) (r : Nat) (h2 : r < Ir) : Ieee.double.write ((Ieee.double.read (Ieee.double.word s r)).integral .zero) = Ieee.double.word s (flrRung r) := by
  have eI : Ir = 9218868437227405312 := rfl
  have eS : Sw = 9223372036854775808 := rfl
  have eB : Bn = 4503599627370496 := rfl
  by_cases h1 : r < Bn
  · have hw := neg_word s r (by rw [eS]; omega)
    rw [read_eq, hw.1, hw.2.1, if_pos h1]
    have hf : flrRung r = 0 := by unfold flrRung; rw [if_pos (by rw [eB] at *; omega)]
    simp only [Datum.integral, zcut, hf]
    have : r <<< Int.toNat (-1074) = r := by simp
    rw [this]
    have hz : r / 2 ^ Int.toNat (- -1074) = 0 := by
      apply Nat.div_eq_of_lt
      have : 2 ^ 53 ≤ 2 ^ Int.toNat (- -1074) := Nat.pow_le_pow_right (by decide) (by decide)
      rw [eB] at h1; omega
    rw [hz]
    exact nearest_zero s 0
  · rw [read_number s r (by omega) h2]
    have hE : 1 ≤ r / Bn := by rw [eB] at *; omega
    have hm : r % Bn < Bn := Nat.mod_lt _ (by decide)
    have hdm := Nat.div_add_mod r Bn
    simp only [Datum.integral, zcut, Format.write, Nat.shiftLeft_eq]
    unfold flrRung
    by_cases c1 : r / Bn < 1023
    · rw [if_pos c1, show Int.toNat (((r / Bn : Nat) : Int) - 1075) = 0 by omega, Nat.pow_zero, Nat.mul_one]
      have hz : (Bn + r % Bn) / 2 ^ Int.toNat (-(((r / Bn : Nat) : Int) - 1075)) = 0 := by
        apply Nat.div_eq_of_lt
        have : 2 ^ 53 ≤ 2 ^ Int.toNat (-(((r / Bn : Nat) : Int) - 1075)) := Nat.pow_le_pow_right (by decide) (by omega)
        rw [eB] at *; omega
      rw [hz]
      exact nearest_zero s 0
    · rw [if_neg c1]
      have h0 : Bn + r % Bn ≠ 0 := by omega
      have hl : (Bn + r % Bn).log2 = 52 := by
        have a := log2_lt (k := 53) h0 (by rw [eB] at *; omega)
        have b := log2_ge (k := 52) h0 (by rw [eB]; omega)
        omega
      have wself : Ieee.double.nearest s (Bn + r % Bn) ((r / Bn : Nat) - 1075) = Ieee.double.word s r := by
        have hw := neg_word s r (by rw [eS]; omega)
        have := write_read (Ieee.double.word s r) (by unfold nanB; have e := hw.2.1; unfold rung at e; rw [e]; simp; omega)
        rw [read_number s r (by omega) h2, hw.1, hw.2.1] at this
        exact this
      by_cases c2 : r / Bn ≤ 1075
      · rw [if_pos c2, show Int.toNat (((r / Bn : Nat) : Int) - 1075) = 0 by omega, Nat.pow_zero, Nat.mul_one, show Int.toNat (-(((r / Bn : Nat) : Int) - 1075)) = 1075 - r / Bn by omega]
        generalize hd : 1075 - r / Bn = d
        have hd52 : d ≤ 52 := by omega
        have hp : 0 < 2 ^ d := Nat.two_pow_pos d
        have hq : (Bn + r % Bn) / 2 ^ d ≠ 0 := by
          have : 2 ^ d ≤ Bn + r % Bn := Nat.le_trans (Nat.pow_le_pow_right (by decide) hd52) (by rw [eB]; omega)
          have := Nat.div_pos this hp
          omega
        have hsc := nearest_scale s ((Bn + r % Bn) / 2 ^ d) d 0
        rw [← hsc]
        have hr2 : r % 2 ^ d = (Bn + r % Bn) % 2 ^ d := by
          have hbs := pow_split d hd52
          have e1 : (Bn + r % Bn) % 2 ^ d = (r % Bn) % 2 ^ d := by
            rw [hbs, Nat.mul_add_mod]
          rw [e1, hbs, Nat.mod_mul_right_mod]
        have hk : (Bn + r % Bn) / 2 ^ d * 2 ^ d = Bn + (r - r % 2 ^ d) % Bn := by
          have hle : r % 2 ^ d ≤ r % Bn := by
            have hbs := pow_split d hd52
            rw [hbs, Nat.mod_mul]
            omega
          have e2 : (r - r % 2 ^ d) % Bn = r % Bn - r % 2 ^ d := by
            have : r - r % 2 ^ d = Bn * (r / Bn) + (r % Bn - r % 2 ^ d) := by omega
            rw [this, Nat.mul_add_mod, Nat.mod_eq_of_lt (by omega)]
          rw [e2, Nat.div_mul_self_eq_mod_sub_self, ← hr2]
          omega
        rw [hk]
        have hle : r % 2 ^ d ≤ r % Bn := by
          have hbs := pow_split d hd52
          rw [hbs, Nat.mod_mul]
          omega
        have hdiv : (r - r % 2 ^ d) / Bn = r / Bn := by
          have : r - r % 2 ^ d = Bn * (r / Bn) + (r % Bn - r % 2 ^ d) := by omega
          rw [this, Nat.mul_add_div (by decide), Nat.div_eq_of_lt (show r % Bn - r % 2 ^ d < Bn by omega)]
          omega
        have hge : Bn ≤ r - r % 2 ^ d := by
          have : Bn * 1 ≤ Bn * (r / Bn) := Nat.mul_le_mul_left _ hE
          omega
        have hw := neg_word s (r - r % 2 ^ d) (by rw [eS]; omega)
        have := write_read (Ieee.double.word s (r - r % 2 ^ d)) (by unfold nanB; have e := hw.2.1; unfold rung at e; rw [e]; simp; omega)
        rw [read_number s _ hge (by omega), hw.1, hw.2.1, hdiv] at this
        have e3 : (0 : Int) - (d : Int) = ((r / Bn : Nat) : Int) - 1075 := by omega
        rw [e3]
        exact this
      · rw [if_neg c2, show Int.toNat (-(((r / Bn : Nat) : Int) - 1075)) = 0 by omega, Nat.pow_zero, Nat.div_one]
        have hsc := nearest_scale s (Bn + r % Bn) (r / Bn - 1075) ((r / Bn : Nat) - 1075)
        rw [show Int.toNat (((r / Bn : Nat) : Int) - 1075) = r / Bn - 1075 by omega]
        rw [show (((r / Bn : Nat) : Int) - 1075) - ((r / Bn - 1075 : Nat) : Int) = 0 by omega] at hsc
        rw [hsc]
        exact wself
theorem flr_idem (r : Nat) (h1 : Bn ≤ r ∨ r = 0) : flr (flrRung r) = flr r := by
  have eB : Bn = 4503599627370496 := rfl
  rcases h1 with h1 | rfl
  · have hE : 1 ≤ r / Bn := by rw [eB] at h1 ⊢; omega
    have hm : r % Bn < Bn := Nat.mod_lt _ (by decide)
    have hdm := Nat.div_add_mod r Bn
    by_cases c1 : r / Bn < 1023
    · have : flrRung r = 0 := by unfold flrRung; rw [if_pos c1]
      rw [this]
      unfold flr
      rw [if_pos c1, if_pos (by rw [Nat.zero_div]; decide)]
    · by_cases c2 : r / Bn ≤ 1075
      · have e : flrRung r = r - r % 2 ^ (1075 - r / Bn) := by unfold flrRung; rw [if_neg c1, if_pos c2]
        rw [e]
        have hle : r % 2 ^ (1075 - r / Bn) ≤ r % Bn := by
          have hbs := pow_split (1075 - r / Bn) (by omega)
          generalize 1075 - r / Bn = d at *
          rw [hbs, Nat.mod_mul]
          omega
        have hdiv : (r - r % 2 ^ (1075 - r / Bn)) / Bn = r / Bn := by
          have : r - r % 2 ^ (1075 - r / Bn) = Bn * (r / Bn) + (r % Bn - r % 2 ^ (1075 - r / Bn)) := by omega
          rw [this, Nat.mul_add_div (by decide), Nat.div_eq_of_lt (show r % Bn - r % 2 ^ (1075 - r / Bn) < Bn by omega)]
          omega
        have hmod : (r - r % 2 ^ (1075 - r / Bn)) % Bn = r % Bn - r % 2 ^ (1075 - r / Bn) := by
          have : r - r % 2 ^ (1075 - r / Bn) = Bn * (r / Bn) + (r % Bn - r % 2 ^ (1075 - r / Bn)) := by omega
          rw [this, Nat.mul_add_mod, Nat.mod_eq_of_lt (show r % Bn - r % 2 ^ (1075 - r / Bn) < Bn by omega)]
        unfold flr
        rw [hdiv, hmod, if_neg c1, if_pos c2, if_neg c1, if_pos c2]
        have hr2 : r % 2 ^ (1075 - r / Bn) = (Bn + r % Bn) % 2 ^ (1075 - r / Bn) := by
          have hbs := pow_split (1075 - r / Bn) (by omega)
          generalize 1075 - r / Bn = d at *
          have e1 : (Bn + r % Bn) % 2 ^ d = (r % Bn) % 2 ^ d := by
            rw [hbs, Nat.mul_add_mod]
          rw [e1, hbs, Nat.mod_mul_right_mod]
        have hp : 0 < 2 ^ (1075 - r / Bn) := Nat.two_pow_pos _
        generalize 2 ^ (1075 - r / Bn) = g at *
        rw [show Bn + (r % Bn - r % g) = (Bn + r % Bn) - (Bn + r % Bn) % g by omega]
        rw [← Nat.div_mul_self_eq_mod_sub_self, Nat.mul_div_cancel _ hp]
      · have : flrRung r = r := by unfold flrRung; rw [if_neg c1, if_neg c2]
        rw [this]
  · decide
theorem flr_small (r : Nat) (h : r < Bn) : flr r = 0 ∧ flrRung r = 0 := by
  have eB : Bn = 4503599627370496 := rfl
  unfold flr flrRung
  rw [if_pos (by rw [eB] at h ⊢; omega), if_pos (by rw [eB] at h ⊢; omega)]
  exact ⟨rfl, rfl⟩
theorem flr_idem' (r : Nat) : flr (flrRung r) = flr r := by
  by_cases h : r < Bn
  · rw [(flr_small r h).2, (flr_small r h).1]; decide
  · exact flr_idem r (.inl (by omega))
theorem flrRung_le (r : Nat) : flrRung r ≤ r := by unfold flrRung; (repeat' split) <;> omega
theorem flrRung_great (r : Nat) (h : 4890909195324358656 ≤ r) : flrRung r = r := by
  have eB : Bn = 4503599627370496 := rfl
  unfold flrRung
  have : 1086 ≤ r / Bn := by rw [eB]; omega
  rw [if_neg (by omega), if_neg (by omega)]
theorem flr_lt (r : Nat) (h : r < 4890909195324358656) : flr r < 9223372036854775808 := by
  have eB : Bn = 4503599627370496 := rfl
  unfold flr
  have hm : r % Bn < Bn := Nat.mod_lt _ (by decide)
  have h1 : r / Bn ≤ 1085 := by rw [eB]; omega
  split
  · decide
  · split
    · exact Nat.lt_of_le_of_lt (Nat.div_le_self _ _) (by rw [eB] at *; omega)
    · have hp : 2 ^ (r / Bn - 1075) ≤ 2 ^ 10 := Nat.pow_le_pow_right (by decide) (by omega)
      calc (Bn + r % Bn) * 2 ^ (r / Bn - 1075) ≤ (Bn + r % Bn) * 2 ^ 10 := Nat.mul_le_mul_left _ hp
        _ < 9223372036854775808 := by rw [eB] at *; omega
theorem flr_top : flr 4890909195324358656 = 9223372036854775808 := by decide +kernel
end Fl
end Go.Proofs.Ytbdengnadgofmaa
