import Derived.Test.YtbdengnadgofmaaZdB10
/- The reference's whole numbers as reals, in the words of Fl. -/
namespace Go.Proofs.Ytbdengnadgofmaa
open Go.RowKit Go.Proofs.YtbdengnadgofmaaW.PrintWords Go.Proofs.YtbdengnadgofmaaW.PrintMore Fl R
/-- A whole number's magnitude, rounded: the rung of its word. -/
def rndRung (u t : Nat) : Nat := (t + 1022) * 4503599627370496 + (if 52 < t then u / 2 ^ (t - 52) + (decide (2 ^ (t - 52) < 2 * (u % 2 ^ (t - 52))) || (2 ^ (t - 52) == 2 * (u % 2 ^ (t - 52)) && u / 2 ^ (t - 52) % 2 == 1)).toNat else u * 2 ^ (52 - t))
theorem nearest_whole (s : Bool) (u : Nat) (h0 : u ≠ 0) (h1 : u ≤ 9223372036854775808) : Ieee.double.nearest s u 0 = Ieee.double.word s (rndRung u u.log2) := by
  have hl : u.log2 ≤ 63 := by
    have := log2_lt (k := 64) h0 (by omega); omega
  have eB : Bn = 4503599627370496 := rfl
  have eI : Ir = 9218868437227405312 := rfl
  rw [nearest_def s u 0 h0]
  congr 1
  have elp : lastP u 0 = (u.log2 : Int) - 52 := by unfold lastP; omega
  rw [elp]
  have e1 : ((u.log2 : Int) - 52 + 1074).toNat = u.log2 + 1022 := by omega
  rw [e1]
  unfold rndRung
  rw [← eB]
  have hself := @Nat.lt_log2_self u
  have hself2 := Nat.log2_self_le h0
  have key : Ieee.Toward.even.cut s (u * 2 ^ ((0 : Int) - ((u.log2 : Int) - 52)).toNat) (((u.log2 : Int) - 52) - 0).toNat =
      (if 52 < u.log2 then u / 2 ^ (u.log2 - 52) + (decide (2 ^ (u.log2 - 52) < 2 * (u % 2 ^ (u.log2 - 52))) || (2 ^ (u.log2 - 52) == 2 * (u % 2 ^ (u.log2 - 52)) && u / 2 ^ (u.log2 - 52) % 2 == 1)).toNat else u * 2 ^ (52 - u.log2)) := by
    by_cases c : 52 < u.log2
    · rw [if_pos c, show ((0 : Int) - ((u.log2 : Int) - 52)).toNat = 0 by omega, Nat.pow_zero, Nat.mul_one, show (((u.log2 : Int) - 52) - 0).toNat = u.log2 - 52 by omega, cut_def]
      rw [Nat.min_eq_left (by omega)]
    · rw [if_neg c, show (((u.log2 : Int) - 52) - 0).toNat = 0 by omega, cut_zero, show ((0 : Int) - ((u.log2 : Int) - 52)).toNat = 52 - u.log2 by omega]
  rw [key]
  have hk : (if 52 < u.log2 then u / 2 ^ (u.log2 - 52) + (decide (2 ^ (u.log2 - 52) < 2 * (u % 2 ^ (u.log2 - 52))) || (2 ^ (u.log2 - 52) == 2 * (u % 2 ^ (u.log2 - 52)) && u / 2 ^ (u.log2 - 52) % 2 == 1)).toNat else u * 2 ^ (52 - u.log2)) ≤ 9007199254740992 := by
    split
    · rename_i c
      have hd : u / 2 ^ (u.log2 - 52) < 2 ^ 53 := by
        rw [Nat.div_lt_iff_lt_mul (Nat.two_pow_pos _), ← Nat.pow_add, show 53 + (u.log2 - 52) = u.log2 + 1 by omega]
        exact hself
      have hb : ∀ b : Bool, b.toNat ≤ 1 := by intro b; cases b <;> decide
      have := hb (decide (2 ^ (u.log2 - 52) < 2 * (u % 2 ^ (u.log2 - 52))) || (2 ^ (u.log2 - 52) == 2 * (u % 2 ^ (u.log2 - 52)) && u / 2 ^ (u.log2 - 52) % 2 == 1))
      omega
    · rename_i c
      have : u * 2 ^ (52 - u.log2) < 2 ^ (u.log2 + 1) * 2 ^ (52 - u.log2) := Nat.mul_lt_mul_of_pos_right hself (Nat.two_pow_pos _)
      rw [← Nat.pow_add, show u.log2 + 1 + (52 - u.log2) = 53 by omega] at this
      omega
  generalize (if 52 < u.log2 then u / 2 ^ (u.log2 - 52) + (decide (2 ^ (u.log2 - 52) < 2 * (u % 2 ^ (u.log2 - 52))) || (2 ^ (u.log2 - 52) == 2 * (u % 2 ^ (u.log2 - 52)) && u / 2 ^ (u.log2 - 52) % 2 == 1)).toNat else u * 2 ^ (52 - u.log2)) = q at *
  rw [Nat.min_eq_left (by rw [eB, eI]; omega)]
theorem odd_u64 (q : Nat) (h : q < 18446744073709551616) : Go.bits .and .u64 (q : Int) 1 = ((q % 2 : Nat) : Int) := by
  have := bits_mask .u64 64 (by decide) wraps_u64 1 (by decide) (q : Int) (by omega) (by omega)
  rw [show ((2 : Int) ^ 1 - 1) = 1 from rfl, show ((2 : Int) ^ 1) = 2 from rfl] at this
  rw [this]; omega
theorem rnd_lt (u : Nat) (h0 : u ≠ 0) (h1 : u ≤ 9223372036854775808) : rndRung u u.log2 < 5000000000000000000 := by
  have hl : u.log2 ≤ 63 := by
    have := log2_lt (k := 64) h0 (by omega); omega
  have hself := @Nat.lt_log2_self u
  unfold rndRung
  split
  · rename_i c
    have hd : u / 2 ^ (u.log2 - 52) < 2 ^ 53 := by
      rw [Nat.div_lt_iff_lt_mul (Nat.two_pow_pos _), ← Nat.pow_add, show 53 + (u.log2 - 52) = u.log2 + 1 by omega]
      exact hself
    have hb : ∀ b : Bool, b.toNat ≤ 1 := by intro b; cases b <;> decide
    have := hb (decide (2 ^ (u.log2 - 52) < 2 * (u % 2 ^ (u.log2 - 52))) || (2 ^ (u.log2 - 52) == 2 * (u % 2 ^ (u.log2 - 52)) && u / 2 ^ (u.log2 - 52) % 2 == 1))
    omega
  · rename_i c
    have : u * 2 ^ (52 - u.log2) < 2 ^ (u.log2 + 1) * 2 ^ (52 - u.log2) := Nat.mul_lt_mul_of_pos_right hself (Nat.two_pow_pos _)
    rw [← Nat.pow_add, show u.log2 + 1 + (52 - u.log2) = 53 by omega] at this
    omega
/-- The reference's loop: from 63 down to the highest bit; then the word. -/
theorem l0_down (u : Nat) (sg : Nat) (h0 : u ≠ 0) (h1 : u ≤ 9223372036854775808) (hsg : sg = 0 ∨ sg = 9223372036854775808) (j : Nat) : ∀ (k t : Nat), t ≤ 63 → u.log2 ≤ t → t - u.log2 = j → j < k →
    haspref01_OfInt.l0 k (u : Int) (sg : Int) (t : Int) = some (wrap64 ((sg + rndRung u u.log2 : Nat) : Int)) := by
  have hself := @Nat.lt_log2_self u
  have hself2 := Nat.log2_self_le h0
  have hrl := rnd_lt u h0 h1
  induction j with
  | succ j ih =>
    intro k t ht hlt hj hk
    obtain ⟨k, rfl⟩ : ∃ m, k = m + 1 := ⟨k - 1, by omega⟩
    have hn : IntKind.u64.wrap (t : Int) = ((t : Nat) : Int) := by rw [u64w]; omega
    have hz : u / 2 ^ t = 0 := Nat.div_eq_of_lt (Nat.lt_of_lt_of_le hself (Nat.pow_le_pow_right (by decide) (by omega)))
    simp only [haspref01_OfInt.l0]
    rw [hn, if_pos (by omega), shr_u64 u t (by omega), hz, if_pos (show ((0 : Nat) : Int) = 0 from rfl)]
    have ht1 : wrap64 ((t : Int) - 1) = ((t - 1 : Nat) : Int) := by unfold wrap64; omega
    rw [ht1]
    exact ih k (t - 1) (by omega) (by omega) (by omega) (by omega)
  | zero =>
    intro k t ht hlt hj hk
    obtain ⟨k, rfl⟩ : ∃ m, k = m + 1 := ⟨k - 1, by omega⟩
    obtain rfl : t = u.log2 := by omega
    generalize hT : u.log2 = t at *
    have hn : IntKind.u64.wrap (t : Int) = ((t : Nat) : Int) := by rw [u64w]; omega
    have hnz : u / 2 ^ t ≠ 0 := by have := Nat.div_pos hself2 (Nat.two_pow_pos t); omega
    have hE : IntKind.u64.wrap (wrap64 ((t : Int) + 1022)) = ((t + 1022 : Nat) : Int) := by rw [u64w]; unfold wrap64; omega
    simp only [haspref01_OfInt.l0]
    rw [hn, if_pos (by omega), shr_u64 u t (by omega), if_neg (by omega), hE]
    have hSE : IntKind.u64.wrap ((sg : Int) + IntKind.u64.wrap (((t + 1022 : Nat) : Int) * 4503599627370496)) = ((sg + (t + 1022) * 4503599627370496 : Nat) : Int) := by
      rw [u64w, u64w]; rcases hsg with rfl | rfl <;> omega
    rw [hSE]
    unfold rndRung at hrl ⊢
    by_cases c : 52 < t
    · rw [if_pos (by omega)]
      rw [if_pos c] at hrl ⊢
      have hc : IntKind.u64.wrap (wrap64 ((t : Int) - 52)) = ((t - 52 : Nat) : Int) := by rw [u64w]; unfold wrap64; omega
      have hc1 : IntKind.u64.wrap (((t - 52 : Nat) : Int) - 1) = ((t - 53 : Nat) : Int) := by rw [u64w]; omega
      rw [hc, hc1, if_pos (by omega), if_pos (by omega), shr_u64 u (t - 52) (by omega), shl_u64 _ (t - 52) (by omega)]
      have hone : shl .u64 1 ((t - 53 : Nat) : Int) = ((2 ^ (t - 53) : Nat) : Int) := by
        have := shl_u64 1 (t - 53) (by omega)
        rw [show ((1 : Nat) : Int) = 1 from rfl, Nat.one_mul, Nat.mod_eq_of_lt] at this
        · exact this
        · exact Nat.lt_of_le_of_lt (Nat.pow_le_pow_right (by decide) (show t - 53 ≤ 10 by omega)) (by decide)
      rw [hone]
      have hp2 : 2 ^ (t - 52) = 2 * 2 ^ (t - 53) := by rw [show t - 52 = (t - 53) + 1 by omega, Nat.pow_succ, Nat.mul_comm]
      have hdm := Nat.div_add_mod u (2 ^ (t - 52))
      have hmod : u / 2 ^ (t - 52) * 2 ^ (t - 52) % 18446744073709551616 = u / 2 ^ (t - 52) * 2 ^ (t - 52) := Nat.mod_eq_of_lt (by rw [Nat.mul_comm]; omega)
      have hrest : IntKind.u64.wrap ((u : Int) - ((u / 2 ^ (t - 52) * 2 ^ (t - 52) % 18446744073709551616 : Nat) : Int)) = ((u % 2 ^ (t - 52) : Nat) : Int) := by
        rw [hmod, u64w, Nat.mul_comm]; omega
      rw [hrest, hp2]
      rw [hp2] at hrl
      have hpar : Go.bits .and .u64 ((u / (2 * 2 ^ (t - 53)) : Nat) : Int) 1 = ((u / (2 * 2 ^ (t - 53)) % 2 : Nat) : Int) :=
        odd_u64 _ (Nat.lt_of_le_of_lt (Nat.div_le_self _ _) (by omega))
      rw [hpar]
      generalize hQ : u / (2 * 2 ^ (t - 53)) = Q at *
      generalize hR : u % (2 * 2 ^ (t - 53)) = M at *
      generalize 2 ^ (t - 53) = H at *
      by_cases d1 : H < M
      · have db : (decide (2 * H < 2 * M) || (2 * H == 2 * M && Q % 2 == 1)) = true := by simp; omega
        rw [db] at hrl ⊢
        rw [if_pos (by omega)]
        simp only [Bool.toNat_true] at hrl ⊢
        congr 1
        rw [u64w, u64w]; unfold wrap64
        rcases hsg with rfl | rfl <;> omega
      · rw [if_neg (by omega)]
        by_cases d2 : M = H
        · rw [if_pos (by omega)]
          by_cases d3 : Q % 2 = 1
          · have db : (decide (2 * H < 2 * M) || (2 * H == 2 * M && Q % 2 == 1)) = true := by simp; omega
            rw [db] at hrl ⊢
            rw [if_pos (by omega)]
            simp only [Bool.toNat_true] at hrl ⊢
            congr 1
            rw [u64w, u64w]; unfold wrap64
            rcases hsg with rfl | rfl <;> omega
          · have db : (decide (2 * H < 2 * M) || (2 * H == 2 * M && Q % 2 == 1)) = false := by rw [Bool.eq_false_iff]; simp; omega
            rw [db] at hrl ⊢
            rw [if_neg (by omega)]
            simp only [Bool.toNat_false] at hrl ⊢
            congr 1
            rw [u64w]; unfold wrap64
            rcases hsg with rfl | rfl <;> omega
        · have db : (decide (2 * H < 2 * M) || (2 * H == 2 * M && Q % 2 == 1)) = false := by rw [Bool.eq_false_iff]; simp; omega
          rw [db] at hrl ⊢
          rw [if_neg (by omega)]
          simp only [Bool.toNat_false] at hrl ⊢
          congr 1
          rw [u64w]; unfold wrap64
          rcases hsg with rfl | rfl <;> omega
    · rw [if_neg (by omega)]
      rw [if_neg c] at hrl ⊢
      have hc : IntKind.u64.wrap (wrap64 (52 - (t : Int))) = ((52 - t : Nat) : Int) := by rw [u64w]; unfold wrap64; omega
      rw [hc, if_pos (by omega), shl_u64 _ (52 - t) (by omega)]
      generalize u * 2 ^ (52 - t) = Q at *
      congr 1
      rw [u64w]; unfold wrap64
      rcases hsg with rfl | rfl <;> omega
/-- A whole number as a real. -/
def ofIntI (n : Int) : Int := canonN (FloatKind.f64.nearest n)
theorem nearest_int (n : Int) : FloatKind.f64.nearest n = Ieee.double.nearest (decide (n < 0)) n.natAbs 0 := rfl
theorem rofint_eq (n : Int) (h : -9223372036854775808 ≤ n ∧ n ≤ 9223372036854775807) : haspref01_OfInt.f 66 n = some (ofIntI n) := by
  unfold haspref01_OfInt.f ofIntI canonN
  rw [nearest_int, nan_nearest]
  simp only [Bool.false_eq_true, if_false]
  by_cases h0 : n = 0
  · rw [if_pos h0, h0]
    decide +kernel
  · rw [if_neg h0]
    have hu : n.natAbs ≠ 0 := by omega
    have hu2 : n.natAbs ≤ 9223372036854775808 := by omega
    have hl : n.natAbs.log2 ≤ 63 := by
      have := log2_lt (k := 64) hu (by omega); omega
    rw [nearest_whole _ _ hu hu2]
    by_cases hn : n < 0
    · rw [if_pos hn, decide_eq_true hn]
      have e : IntKind.u64.wrap (-(IntKind.u64.wrap n)) = ((n.natAbs : Nat) : Int) := by rw [u64w, u64w]; omega
      rw [e]
      simp only [haspref01_OfInt.j0]
      have := l0_down n.natAbs 9223372036854775808 hu hu2 (.inr rfl) (63 - n.natAbs.log2) 65 63 (by omega) hl rfl (by omega)
      exact this
    · rw [if_neg hn, decide_eq_false hn]
      have e : IntKind.u64.wrap n = ((n.natAbs : Nat) : Int) := by rw [u64w]; omega
      rw [e]
      simp only [haspref01_OfInt.j0]
      have := l0_down n.natAbs 0 hu hu2 (.inl rfl) (63 - n.natAbs.log2) 65 63 (by omega) hl rfl (by omega)
      rw [Nat.zero_add] at this
      exact this
end Go.Proofs.Ytbdengnadgofmaa
