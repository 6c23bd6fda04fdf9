/- The reference's decimal numbers; RealDecimals and RealScale: the walks. -/
import Derived.Test.YtjkjdcejojpikaaB13
namespace Go.Proofs.Ytjkjdcejojpikaa
open Go.RowKit Go.Proofs.YtjkjdcejojpikaaW.PrintWords Go.Proofs.YtjkjdcejojpikaaW.PrintMore Fl R

theorem two_succ (x i : Nat) : x * 2 ^ i * 2 = x * 2 ^ (i + 1) := by rw [Nat.mul_assoc, ← Nat.pow_succ]

/-- The first loop: the divisor is doubled as long as it fits twice. -/
theorem l0_run (d u : Nat) (hd : 0 < d) (hd2 : d ≤ 1000000000000000) (hu : u ≤ 1000000000000000) (n : Nat) : ∀ (k i : Nat), i ≤ 100 → (i = 0 ∨ d * 2 ^ i ≤ u) → u < d * 2 ^ (i + n + 1) → n < k → n ≤ 60 →
    ∃ i' k', i ≤ i' ∧ i' ≤ i + n ∧ u < 2 * (d * 2 ^ i') ∧ (i' = 0 ∨ d * 2 ^ i' ≤ u) ∧ k ≤ k' + n + 1 ∧ haspref01_OfDecimal.l0 k ((d * 2 ^ i : Nat) : Int) (u : Int) (i : Int) = haspref01_OfDecimal.l1 k' ((d * 2 ^ i' : Nat) : Int) (u : Int) (i' : Int) := by
  induction n with
  | zero =>
    intro k i hi h0 hb hk _
    obtain ⟨k, rfl⟩ : ∃ m, k = m + 1 := ⟨k - 1, by omega⟩
    have hs : d * 2 ^ i ≤ 1000000000000000 := by
      rcases h0 with rfl | h0
      · simpa using hd2
      · omega
    have hlt : u < 2 * (d * 2 ^ i) := by rw [Nat.add_zero, ← two_succ] at hb; omega
    refine ⟨i, k, Nat.le_refl _, by omega, hlt, h0, by omega, ?_⟩
    simp only [haspref01_OfDecimal.l0]
    generalize d * 2 ^ i = D at *
    rw [u64w, if_neg (by omega)]
  | succ n ih =>
    intro k i hi h0 hb hk hn
    obtain ⟨k, rfl⟩ : ∃ m, k = m + 1 := ⟨k - 1, by omega⟩
    have hs : d * 2 ^ i ≤ 1000000000000000 := by
      rcases h0 with rfl | h0
      · simpa using hd2
      · omega
    by_cases c : u < 2 * (d * 2 ^ i)
    · refine ⟨i, k, Nat.le_refl _, by omega, c, h0, by omega, ?_⟩
      simp only [haspref01_OfDecimal.l0]
      generalize d * 2 ^ i = D at *
      rw [u64w, if_neg (by omega)]
    · have hle : d * 2 ^ (i + 1) ≤ u := by rw [← two_succ]; omega
      have hi50 : i < 50 := by
        rcases Nat.lt_or_ge i 50 with h | h
        · exact h
        · exfalso
          have h1 : 2 ^ 50 ≤ 2 ^ i := Nat.pow_le_pow_right (by decide) h
          have h2 : 1 * 2 ^ 50 ≤ d * 2 ^ i := Nat.mul_le_mul hd h1
          have h3 : (2 : Nat) ^ 50 = 1125899906842624 := by decide
          omega
      obtain ⟨i', k', a1, a2, a3, a4, a5, a6⟩ := ih k (i + 1) (by omega) (.inr hle) (by rw [show i + 1 + n + 1 = i + (n + 1) + 1 by omega]; exact hb) (by omega) (by omega)
      refine ⟨i', k', by omega, by omega, a3, a4, by omega, ?_⟩
      rw [← a6]
      simp only [haspref01_OfDecimal.l0]
      have e1 : IntKind.u64.wrap (((d * 2 ^ i : Nat) : Int) * 2) = ((d * 2 ^ (i + 1) : Nat) : Int) := by
        rw [← two_succ]
        generalize d * 2 ^ i = D at *
        rw [u64w]; omega
      have e2 : wrap64 ((i : Int) + 1) = ((i + 1 : Nat) : Int) := by unfold wrap64; omega
      rw [e1, e2, if_pos (by omega)]

/-- The second loop: the dividend is doubled as long as it is less. -/
theorem l1_run (D u : Nat) (e : Int) (he : -100 ≤ e ∧ e ≤ 100) (hD : D ≤ 1000000000000000) (_hu : 0 < u) (n : Nat) : ∀ (k j : Nat), (j = 0 ∨ u * 2 ^ j < 2 * D) → D ≤ u * 2 ^ (j + n) → n < k → j + n ≤ 60 →
    ∃ j' k', j ≤ j' ∧ j' ≤ j + n ∧ D ≤ u * 2 ^ j' ∧ (j' = 0 ∨ u * 2 ^ j' < 2 * D) ∧ k ≤ k' + n + 1 ∧ haspref01_OfDecimal.l1 k (D : Int) ((u * 2 ^ j : Nat) : Int) (e - j) = haspref01_OfDecimal.l2 k' (D : Int) ((u * 2 ^ j' : Nat) : Int) (e - j') 0 0 := by
  induction n with
  | zero =>
    intro k j h0 hb hk _
    obtain ⟨k, rfl⟩ : ∃ m, k = m + 1 := ⟨k - 1, by omega⟩
    refine ⟨j, k, Nat.le_refl _, by omega, by simpa using hb, h0, by omega, ?_⟩
    simp only [haspref01_OfDecimal.l1]
    rw [Nat.add_zero] at hb
    rw [if_neg (by omega)]
  | succ n ih =>
    intro k j h0 hb hk hn
    obtain ⟨k, rfl⟩ : ∃ m, k = m + 1 := ⟨k - 1, by omega⟩
    by_cases c : D ≤ u * 2 ^ j
    · refine ⟨j, k, Nat.le_refl _, by omega, c, h0, by omega, ?_⟩
      simp only [haspref01_OfDecimal.l1]
      rw [if_neg (by omega)]
    · obtain ⟨j', k', a1, a2, a3, a4, a5, a6⟩ := ih k (j + 1) (.inr (by rw [← two_succ]; omega)) (by rw [show j + 1 + n = j + (n + 1) by omega]; exact hb) (by omega) (by omega)
      refine ⟨j', k', by omega, by omega, a3, a4, by omega, ?_⟩
      rw [← a6]
      simp only [haspref01_OfDecimal.l1]
      have e1 : IntKind.u64.wrap (((u * 2 ^ j : Nat) : Int) * 2) = ((u * 2 ^ (j + 1) : Nat) : Int) := by
        rw [← two_succ]
        generalize u * 2 ^ j = U at *
        rw [u64w]; omega
      have e2 : wrap64 (e - (j : Int) - 1) = e - ((j + 1 : Nat) : Int) := by unfold wrap64; omega
      rw [e1, e2, if_pos (by omega)]

/-- The third loop: 53 digits, then the rest decides. -/
theorem l2_run (D U : Nat) (e : Int) (he : -100 ≤ e ∧ e ≤ 100) (hD0 : 0 < D) (hD : D ≤ 1000000000000000) (hU : U < 2 * D) (_hUD : D ≤ U) (n : Nat) : ∀ (k q u t : Nat), n + t = 53 → u < 2 * D → 2 ^ t * U = 2 * D * q + u → n < k →
    haspref01_OfDecimal.l2 k (D : Int) (u : Int) e (q : Int) (t : Int) = some (wrap64 (((e + 1022).toNat * 4503599627370496 + rnd (U * 4503599627370496) D : Nat) : Int), 0) := by
  induction n with
  | zero =>
    intro k q u t ht hu hinv hk
    obtain ⟨k, rfl⟩ : ∃ m, k = m + 1 := ⟨k - 1, by omega⟩
    obtain rfl : t = 53 := by omega
    simp only [haspref01_OfDecimal.l2]
    rw [if_neg (by omega)]
    rw [show (2 : Nat) ^ 53 = 9007199254740992 from by decide] at hinv
    rw [Nat.mul_assoc 2 D q] at hinv
    have hev : u % 2 = 0 := by omega
    have hdm : U * 4503599627370496 = D * q + u / 2 := by omega
    have hQ : U * 4503599627370496 / D = q := by
      rw [hdm, Nat.mul_add_div hD0, Nat.div_eq_of_lt (by omega), Nat.add_zero]
    have hM : U * 4503599627370496 % D = u / 2 := by
      rw [hdm, Nat.mul_add_mod, Nat.mod_eq_of_lt (by omega)]
    have hq : q < 9007199254740992 := by
      rw [← hQ, Nat.div_lt_iff_lt_mul hD0]; omega
    unfold rnd
    rw [hQ, hM, odd_u64 q (by omega)]
    have hE : IntKind.u64.wrap (IntKind.u64.wrap (wrap64 (e + 1022)) * 4503599627370496) = (((e + 1022).toNat * 4503599627370496 : Nat) : Int) := by
      rw [u64w, u64w]; unfold wrap64; omega
    have hE2 : (e + 1022).toNat ≤ 1200 := by omega
    rw [hE]
    generalize (e + 1022).toNat = E at *
    by_cases c1 : D < u
    · have db : (decide (D < 2 * (u / 2)) || (D == 2 * (u / 2) && q % 2 == 1)) = true := by simp; omega
      rw [if_pos (by omega), db, Bool.toNat_true]
      congr 2
      rw [u64w, u64w]; unfold wrap64; omega
    · rw [if_neg (by omega)]
      by_cases c2 : u = D
      · rw [if_pos (by omega)]
        by_cases c3 : q % 2 = 1
        · have db : (decide (D < 2 * (u / 2)) || (D == 2 * (u / 2) && q % 2 == 1)) = true := by simp; omega
          rw [if_pos (by omega), db, Bool.toNat_true]
          congr 2
          rw [u64w, u64w]; unfold wrap64; omega
        · have db : (decide (D < 2 * (u / 2)) || (D == 2 * (u / 2) && q % 2 == 1)) = false := by rw [Bool.eq_false_iff]; simp; omega
          rw [if_neg (by omega), db, Bool.toNat_false]
          congr 2
          rw [u64w]; unfold wrap64; omega
      · have db : (decide (D < 2 * (u / 2)) || (D == 2 * (u / 2) && q % 2 == 1)) = false := by rw [Bool.eq_false_iff]; simp; omega
        rw [if_neg (by omega), db, Bool.toNat_false]
        congr 2
        rw [u64w]; unfold wrap64; omega
  | succ n ih =>
    intro k q u t ht hu hinv hk
    obtain ⟨k, rfl⟩ : ∃ m, k = m + 1 := ⟨k - 1, by omega⟩
    simp only [haspref01_OfDecimal.l2]
    rw [if_pos (by omega)]
    have ht1 : wrap64 ((t : Int) + 1) = ((t + 1 : Nat) : Int) := by unfold wrap64; omega
    rw [ht1]
    have hp : 2 ^ t ≤ 2 ^ 52 := Nat.pow_le_pow_right (by decide) (by omega)
    have hq : q < 2 ^ t := by
      have h1 : 2 * D * q < 2 * D * 2 ^ t := by
        have : 2 ^ t * U < 2 ^ t * (2 * D) := Nat.mul_lt_mul_of_pos_left hU (Nat.two_pow_pos t)
        rw [Nat.mul_comm (2 * D) (2 ^ t)]; omega
      exact Nat.lt_of_mul_lt_mul_left h1
    rw [show (2 : Nat) ^ 52 = 4503599627370496 from by decide] at hp
    have hinv2 : 2 ^ (t + 1) * U = 2 * (2 * D * q) + 2 * u := by
      rw [Nat.pow_succ, Nat.mul_right_comm, hinv]; omega
    have hmul : 2 * D * (2 * q) = 2 * (2 * D * q) := by rw [Nat.mul_left_comm]
    by_cases c : D ≤ u
    · rw [if_pos (by omega)]
      have e1 : IntKind.u64.wrap (IntKind.u64.wrap ((u : Int) - (D : Int)) * 2) = (((u - D) * 2 : Nat) : Int) := by rw [u64w, u64w]; omega
      have e2 : IntKind.u64.wrap (IntKind.u64.wrap ((q : Int) * 2) + 1) = ((2 * q + 1 : Nat) : Int) := by rw [u64w, u64w]; omega
      rw [e1, e2]
      refine ih k (2 * q + 1) ((u - D) * 2) (t + 1) (by omega) (by omega) ?_ (by omega)
      rw [hinv2, Nat.mul_add, hmul]; omega
    · rw [if_neg (by omega)]
      have e1 : IntKind.u64.wrap ((u : Int) * 2) = ((u * 2 : Nat) : Int) := by rw [u64w]; omega
      have e2 : IntKind.u64.wrap ((q : Int) * 2) = ((2 * q : Nat) : Int) := by rw [u64w]; omega
      rw [e1, e2]
      refine ih k (2 * q) (u * 2) (t + 1) (by omega) (by omega) ?_ (by omega)
      rw [hinv2, hmul]; omega

def p10 (s : Nat) : Nat := [1, 10, 100, 1000, 10000, 100000, 1000000, 10000000, 100000000, 1000000000, 10000000000, 100000000000, 1000000000000, 10000000000000, 100000000000000, 1000000000000000].getD s 0
theorem p10_facts (s : Nat) (h : s ≤ 15) : 0 < p10 s ∧ p10 s ≤ 1000000000000000 ∧ pw s = Ieee.double.nearest false (p10 s) 0 ∧ haspref01_Power.f 17 (s : Int) = some ((p10 s : Nat) : Int) ∧ arI (floatBits .quo .f64 (floatOfInt .f64 0) (pw s)) = 0 := by
  have : ∀ i : Fin 16, 0 < p10 i.val ∧ p10 i.val ≤ 1000000000000000 ∧ pw i.val = Ieee.double.nearest false (p10 i.val) 0 ∧ haspref01_Power.f 17 (i.val : Int) = some ((p10 i.val : Nat) : Int) ∧ arI (floatBits .quo .f64 (floatOfInt .f64 0) (pw i.val)) = 0 := by decide +kernel
  exact this ⟨s, by omega⟩
theorem power_more (s : Nat) (h : s ≤ 15) (k : Nat) (hk : 17 ≤ k) : haspref01_Power.f k (s : Int) = some ((p10 s : Nat) : Int) := by
  induction k with
  | zero => omega
  | succ k ih =>
    by_cases c : k + 1 = 17
    · rw [c]; exact (p10_facts s h).2.2.2.1
    · exact haspref01_Power.mono _ _ _ (ih (by omega))

theorem rdec_good (m s : Nat) (hm : m ≤ 999999999999999) (hs : s ≤ 15) : haspref01_OfDecimal.f 400 (m : Int) (s : Int) = some (arI (floatBits .quo .f64 (floatOfInt .f64 (m : Int)) (pw s)), 0) := by
  obtain ⟨f1, f2, f3, f4, f5⟩ := p10_facts s hs
  unfold haspref01_OfDecimal.f
  have hb : decide ((s : Int) > 15) = false := by simp; omega
  rw [if_neg (by omega), if_neg (by omega), if_neg (by omega), hb]
  simp only [haspref01_OfDecimal.j0, Bool.false_eq_true, if_false]
  by_cases h0 : m = 0
  · subst h0
    rw [if_pos (by rfl), show ((0 : Nat) : Int) = 0 from rfl, f5]
  · rw [if_neg (by omega), power_more s hs _ (by omega)]
    simp only [Option.bind_some]
    have e1 : IntKind.u64.wrap ((p10 s : Nat) : Int) = ((p10 s * 2 ^ 0 : Nat) : Int) := by rw [Nat.pow_zero, Nat.mul_one, u64w]; omega
    have e2 : IntKind.u64.wrap ((m : Nat) : Int) = ((m : Nat) : Int) := by rw [u64w]; omega
    rw [e1, e2]
    have hb50 : m < p10 s * 2 ^ (0 + 50 + 1) := by
      have h3 : (2 : Nat) ^ (0 + 50 + 1) = 2251799813685248 := by decide
      rw [h3]; omega
    obtain ⟨i, k1, a1, a2, a3, a4, a5, a6⟩ := l0_run (p10 s) m f1 f2 (by omega) 50 399 0 (by omega) (.inl rfl) hb50 (by omega) (by omega)
    rw [show ((0 : Nat) : Int) = 0 from rfl] at a6
    rw [a6]
    have hDi : p10 s * 2 ^ i ≤ 1000000000000000 := by
      rcases a4 with rfl | a4
      · simpa using f2
      · omega
    have hm2 : m = m * 2 ^ 0 := by simp
    have hb51 : p10 s * 2 ^ i ≤ m * 2 ^ (0 + 50) := by
      have h3 : (2 : Nat) ^ (0 + 50) = 1125899906842624 := by decide
      rw [h3]; omega
    obtain ⟨j, k2, b1, b2, b3, b4, b5, b6⟩ := l1_run (p10 s * 2 ^ i) m (i : Int) (by omega) hDi (by omega) 50 k1 0 (.inl rfl) hb51 (by omega) (by omega)
    rw [← hm2, show (i : Int) - ((0 : Nat) : Int) = (i : Int) by omega] at b6
    rw [b6]
    have hU2 : m * 2 ^ j < 2 * (p10 s * 2 ^ i) := by
      rcases b4 with rfl | b4
      · simpa using a3
      · exact b4
    have hpos : 0 < p10 s * 2 ^ i := Nat.mul_pos f1 (Nat.two_pow_pos i)
    have := l2_run (p10 s * 2 ^ i) (m * 2 ^ j) ((i : Int) - j) (by omega) hpos hDi hU2 b3 53 k2 0 (m * 2 ^ j) 0 (by omega) hU2 (by simp) (by omega)
    rw [show ((0 : Nat) : Int) = 0 from rfl] at this
    rw [this]
    obtain ⟨q1, q2, q3, q4⟩ := quo_small m (p10 s) h0 (by omega) (by omega) (by omega) i j b3 hU2
    have hf : floatOfInt .f64 (m : Int) = Ieee.double.nearest false m 0 := by
      show Ieee.double.nearest (decide ((m : Int) < 0)) (m : Int).natAbs 0 = _
      rw [decide_eq_false (by omega)]; rfl
    rw [hf, f3, q1]
    rfl
theorem rdec_bad (m s : Int) (h : decOk m s = false) : haspref01_OfDecimal.f 400 m s = some (0, 11) := by
  unfold haspref01_OfDecimal.f
  simp [decOk] at h
  by_cases c1 : m < 0
  · rw [if_pos c1]; simp only [haspref01_OfDecimal.j0, if_true]
  · rw [if_neg c1]
    by_cases c2 : m > 999999999999999
    · rw [if_pos c2]; simp only [haspref01_OfDecimal.j0, if_true]
    · rw [if_neg c2]
      by_cases c3 : s < 0
      · rw [if_pos c3]; simp only [haspref01_OfDecimal.j0, if_true]
      · have hb : decide (s > 15) = true := by simp; omega
        rw [if_neg c3, hb]; simp only [haspref01_OfDecimal.j0, if_true]
theorem rdec_eq (m s : Int) : haspref01_OfDecimal.f 400 m s = some (decI m s, decE m s) := by
  cases h : decOk m s
  · rw [rdec_bad m s h]; simp [decI, decE, h]
  · have h' := h
    simp [decOk] at h'
    obtain ⟨⟨⟨h0, h1⟩, h2⟩, h3⟩ := h'
    obtain ⟨a, rfl⟩ := Int.eq_ofNat_of_zero_le h0
    obtain ⟨b, rfl⟩ := Int.eq_ofNat_of_zero_le h2
    rw [rdec_good a b (by omega) (by omega)]
    simp [decI, decE, h]
theorem rofdecimal_calls (m s : Int) (w : World) : Calls Try.prog 31 #[.int .i64 m, .int .i64 s] w fun e w' => e = .returned (.tuple #[.int .i64 (decI m s), .int .i64 (decE m s)]) ∧ Drawn0 w w' := haspref01_OfDecimal.calls 400 m s _ _ w (rdec_eq m s)

theorem decimals_walk (m s : Int) (w : World) : Calls Try.prog 9 #[.int .i64 m, .int .i64 s] w fun e w' => e = .returned (.bool true) ∧ Drawn0 w w' := by
  go_enter Try.func9, Try.ntmps9
  go_wp2_with fail
  refine (speaks_calls _).mono ?_
  rintro e w1 ⟨rfl, ⟨n0, rfl⟩⟩
  go_wp2_with fail
  refine (ofdecimal_calls m s _).mono ?_
  rintro e w1 ⟨rfl, ⟨n1, rfl⟩⟩
  go_wp2_with fail
  refine (rofdecimal_calls m s _).mono ?_
  rintro e w1 ⟨rfl, ⟨n2, rfl⟩⟩
  go_wp2
  go_ret
  exact ⟨rfl, by repeat (first | exact Drawn0.refl _ | apply Drawn0.step)⟩
theorem decimals_b (m s : Int) (w : World) : Calls Try.prog 9 #[.int .i64 m, .int .i64 s] w fun e w' => e = .returned (.bool true) ∧ Below w.heap.size w w' := (decimals_walk m s w).mono fun _ _ ⟨he, h⟩ => ⟨he, h.below⟩

theorem ub_ofInt (n : Int) : ub (ofIntI n) = FloatKind.f64.nearest n := by
  unfold ofIntI canonN
  rw [nearest_int, nan_nearest]
  simp only [Bool.false_eq_true, if_false]
  exact ub_wrap _ (Ieee.double.nearest_lt _ _ _)
theorem scale_eq (m : Int) (s : Nat) (h : s ≤ 15) : arI (floatBits .quo .f64 (ub (ofIntI m)) (ub (ofIntI ((p10 s : Nat) : Int)))) = arI (floatBits .quo .f64 (floatOfInt .f64 m) (pw s)) := by
  obtain ⟨f1, f2, f3, f4, f5⟩ := p10_facts s h
  rw [ub_ofInt, ub_ofInt, f3]
  have hf : FloatKind.f64.nearest ((p10 s : Nat) : Int) = Ieee.double.nearest false (p10 s) 0 := by
    show Ieee.double.nearest (decide (((p10 s : Nat) : Int) < 0)) ((p10 s : Nat) : Int).natAbs 0 = _
    rw [decide_eq_false (by omega)]; rfl
  rw [hf]; rfl
theorem scale_walk (m s : Int) (w : World) : Calls Try.prog 10 #[.int .i64 m, .int .i64 s] w fun e w' => e = .returned (.bool true) ∧ Drawn0 w w' := by
  cases h : decOk m s
  · have H1 : Hid (decI m s = 0) := Lib.hid (by simp [decI, h])
    have H2 : Hid (decE m s = 11) := Lib.hid (by simp [decE, h])
    clear h
    go_enter Try.func10, Try.ntmps10
    go_wp2_with fail
    refine (speaks_calls _).mono ?_
    rintro e w1 ⟨rfl, ⟨n0, rfl⟩⟩
    go_wp2_with fail
    refine (ofdecimal_calls m s _).mono ?_
    rintro e w1 ⟨rfl, ⟨n1, rfl⟩⟩
    rw [H1.out, H2.out]
    go_wp2
    go_ret
    exact ⟨rfl, by repeat (first | exact Drawn0.refl _ | apply Drawn0.step)⟩
  · have h' := h
    simp [decOk] at h'
    obtain ⟨⟨⟨h0, h1⟩, h2⟩, h3⟩ := h'
    obtain ⟨b, rfl⟩ := Int.eq_ofNat_of_zero_le h2
    have H1 : Hid (decI m b = arI (floatBits .quo .f64 (floatOfInt .f64 m) (pw b))) := Lib.hid (by simp [decI, h])
    have H2 : Hid (decE m b = 0) := Lib.hid (by simp [decE, h])
    have H3 := Lib.hid (scale_eq m b (by omega))
    have H4 := Lib.hid (power_more b (by omega) 17 (by omega))
    clear h h0 h1 h2 h3
    go_enter Try.func10, Try.ntmps10
    go_wp2_with fail
    refine (speaks_calls _).mono ?_
    rintro e w1 ⟨rfl, ⟨n0, rfl⟩⟩
    go_wp2_with fail
    refine (ofdecimal_calls m b _).mono ?_
    rintro e w1 ⟨rfl, ⟨n1, rfl⟩⟩
    rw [H1.out, H2.out]
    go_wp2_with fail
    refine (ofint2_calls m _).mono ?_
    rintro e w1 ⟨rfl, rfl⟩
    go_wp2_with fail
    refine (haspref01_Power.calls 17 b _ _ H4.out).mono ?_
    rintro e w1 ⟨rfl, ⟨n2, rfl⟩⟩
    go_wp2_with fail
    refine (ofint2_calls _ _).mono ?_
    rintro e w1 ⟨rfl, rfl⟩
    go_wp2_with fail
    refine (div_calls _ _ _).mono ?_
    rintro e w1 ⟨rfl, ⟨n3, rfl⟩⟩
    rw [H3.out]
    go_wp2
    go_ret
    exact ⟨rfl, by repeat (first | exact Drawn0.refl _ | apply Drawn0.step)⟩
theorem scale_b (m s : Int) (w : World) : Calls Try.prog 10 #[.int .i64 m, .int .i64 s] w fun e w' => e = .returned (.bool true) ∧ Below w.heap.size w w' := (scale_walk m s w).mono fun _ _ ⟨he, h⟩ => ⟨he, h.below⟩
end Go.Proofs.Ytjkjdcejojpikaa
