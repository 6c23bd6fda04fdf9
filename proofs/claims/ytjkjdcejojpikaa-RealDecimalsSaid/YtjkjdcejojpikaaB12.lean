/- RealWhole: the walk. -/
import Derived.Test.YtjkjdcejojpikaaB11
namespace Go.Proofs.Ytjkjdcejojpikaa
open Go.RowKit Go.Proofs.YtjkjdcejojpikaaW.PrintWords Fl R
theorem ofIntI_range (n : Int) : -9223372036854775808 ≤ ofIntI n ∧ ofIntI n ≤ 9223372036854775807 := by
  unfold ofIntI canonN theNaN wrap64
  split <;> omega
/-- A whole number of at most 53 bits is a real exactly. -/
theorem small_back (n : Int) (h : -9007199254740992 < n ∧ n < 9007199254740992) : toIe (ub (ofIntI n)) = 0 ∧ toIv (ub (ofIntI n)) = n := by
  by_cases h0 : n = 0
  · subst h0; decide +kernel
  have hu : n.natAbs ≠ 0 := by omega
  have hl : n.natAbs.log2 ≤ 52 := by
    have := log2_lt (k := 53) hu (by omega); omega
  have e1 : ub (ofIntI n) = Ieee.double.word (decide (n < 0)) (rndRung n.natAbs n.natAbs.log2) := by
    unfold ofIntI canonN
    rw [nearest_int, nan_nearest]
    simp only [Bool.false_eq_true, if_false]
    rw [nearest_whole _ _ hu (by omega)]
    refine ub_wrap _ ?_
    have hr := rnd_lt n.natAbs hu (by omega)
    exact (neg_word _ _ (by have e : Sw = 9223372036854775808 := rfl
                            omega)).2.2
  have hself := @Nat.lt_log2_self n.natAbs
  have hself2 := Nat.log2_self_le hu
  have hr := rnd_lt n.natAbs hu (by omega)
  have eS : Sw = 9223372036854775808 := rfl
  have eB : Bn = 4503599627370496 := rfl
  have hw := neg_word (decide (n < 0)) (rndRung n.natAbs n.natAbs.log2) (by omega)
  have hrr : rndRung n.natAbs n.natAbs.log2 = (n.natAbs.log2 + 1022) * 4503599627370496 + n.natAbs * 2 ^ (52 - n.natAbs.log2) := by
    unfold rndRung; rw [if_neg (by omega)]
  have hq1 : n.natAbs * 2 ^ (52 - n.natAbs.log2) < 9007199254740992 := by
    have : n.natAbs * 2 ^ (52 - n.natAbs.log2) < 2 ^ (n.natAbs.log2 + 1) * 2 ^ (52 - n.natAbs.log2) := Nat.mul_lt_mul_of_pos_right hself (Nat.two_pow_pos _)
    rw [← Nat.pow_add, show n.natAbs.log2 + 1 + (52 - n.natAbs.log2) = 53 by omega] at this
    omega
  have hq2 : 4503599627370496 ≤ n.natAbs * 2 ^ (52 - n.natAbs.log2) := by
    have : 2 ^ n.natAbs.log2 * 2 ^ (52 - n.natAbs.log2) ≤ n.natAbs * 2 ^ (52 - n.natAbs.log2) := Nat.mul_le_mul_right _ hself2
    rw [← Nat.pow_add, show n.natAbs.log2 + (52 - n.natAbs.log2) = 52 by omega] at this
    omega
  have hdiv : rndRung n.natAbs n.natAbs.log2 / Bn = n.natAbs.log2 + 1023 := by rw [hrr, eB]; omega
  have hmod : Bn + rndRung n.natAbs n.natAbs.log2 % Bn = n.natAbs * 2 ^ (52 - n.natAbs.log2) := by rw [hrr, eB]; omega
  have hfl : flr (rndRung n.natAbs n.natAbs.log2) = n.natAbs := by
    unfold flr
    rw [hdiv, hmod, if_neg (by omega), if_pos (by omega), show 1075 - (n.natAbs.log2 + 1023) = 52 - n.natAbs.log2 by omega]
    exact Nat.mul_div_cancel _ (Nat.two_pow_pos _)
  have hlt : rndRung n.natAbs n.natAbs.log2 < 4890909195324358656 := by rw [hrr]; omega
  have hin : inI (ub (ofIntI n)) = true := by
    rw [e1]
    unfold inI nanB
    rw [hw.2.1]
    change (!decide (Ir < rung _) && _) = _
    rw [hw.2.1]
    have eI : Ir = 9218868437227405312 := rfl
    simp; omega
  unfold toIe toIv
  rw [hin]
  refine ⟨rfl, ?_⟩
  rw [if_pos rfl]
  unfold wholeI
  rw [e1, hw.1, hw.2.1, hfl]
  by_cases hn : n < 0
  · rw [decide_eq_true hn, if_pos rfl]; omega
  · rw [decide_eq_false hn, if_neg (by decide)]; omega
theorem toIe_range (x : Nat) : toIe x = 0 ∨ toIe x = 10 := by unfold toIe; split <;> simp

theorem toint2_calls (a : Int) (w : World) : Calls Try.prog 26 #[.int .i64 a] w fun e w' => e = .returned (.tuple #[.int .i64 (toIv (ub a)), .int .i64 (toIe (ub a))]) ∧ Drawn0 w w' := toint_calls a w
theorem rtoint_calls (a : Int) (w : World) : Calls Try.prog 27 #[.int .i64 a] w fun e w' => e = .returned (.tuple #[.int .i64 (toIv (ub a)), .int .i64 (toIe (ub a))]) ∧ Drawn0 w w' := haspref01_ToInt.calls 1 a _ _ w (rtoint_eq a)
theorem ofint2_calls (n : Int) (w : World) : Calls Try.prog 28 #[.int .i64 n] w fun e w' => e = .returned (.int .i64 (ofIntI n)) ∧ w = w' := ofint_calls n w
theorem rofint_calls (n : Int) (h : -9223372036854775808 ≤ n ∧ n ≤ 9223372036854775807) (w : World) : Calls Try.prog 29 #[.int .i64 n] w fun e w' => e = .returned (.int .i64 (ofIntI n)) ∧ Drawn0 w w' := haspref01_OfInt.calls 66 n _ w (rofint_eq n h)

theorem whole_walk (n a : Int) (wn : (Lit.int .i64 n).wf = true) (w : World) : Calls Try.prog 8 #[.int .i64 n, .int .i64 a] w fun e w' => e = .returned (.bool true) ∧ Drawn0 w w' := by
  have hn : Hid (-9223372036854775808 ≤ n ∧ n ≤ 9223372036854775807) := Lib.hid (by simpa [Lit.wf, IntKind.min, IntKind.max, IntKind.bits, IntKind.signed] using wn)
  clear wn
  by_cases hs : -9007199254740992 < n ∧ n < 9007199254740992
  · obtain ⟨b1, b2⟩ := small_back n hs
    have B1 := Lib.hid b1
    have B2 := Lib.hid b2
    obtain ⟨s1, s2⟩ := hs
    clear b1 b2
    go_enter Try.func8, Try.ntmps8
    go_wp2_with fail
    refine (speaks_calls _).mono ?_
    rintro e w1 ⟨rfl, ⟨nd0, rfl⟩⟩
    go_wp2_with fail
    refine (toint2_calls a _).mono ?_
    rintro e w1 ⟨rfl, ⟨nd1, rfl⟩⟩
    go_wp2_with fail
    refine (rtoint_calls a _).mono ?_
    rintro e w1 ⟨rfl, ⟨nd2, rfl⟩⟩
    go_wp2_with fail
    refine (ofint2_calls n _).mono ?_
    rintro e w1 ⟨rfl, rfl⟩
    go_wp2_with fail
    refine (toint2_calls (ofIntI n) _).mono ?_
    rintro e w1 ⟨rfl, ⟨nd4, rfl⟩⟩
    rw [B1.out, B2.out]
    go_wp2_with fail
    refine (ofint2_calls n _).mono ?_
    rintro e w1 ⟨rfl, rfl⟩
    go_wp2_with fail
    refine (rofint_calls n hn.out _).mono ?_
    rintro e w1 ⟨rfl, ⟨nd6, rfl⟩⟩
    go_wp2
    all_goals (go_ret; exact ⟨by first | rfl | (exact ret_bool (by simp)), by repeat (first | exact Drawn0.refl _ | apply Drawn0.step)⟩)
  · have hc : n ≤ -9007199254740992 ∨ (-9007199254740992 < n ∧ 9007199254740992 ≤ n) := by omega
    clear hs
    rcases hc with h1 | ⟨h1, h2⟩
    all_goals
      go_enter Try.func8, Try.ntmps8
      go_wp2_with fail
      refine (speaks_calls _).mono ?_
      rintro e w1 ⟨rfl, ⟨nd0, rfl⟩⟩
      go_wp2_with fail
      refine (toint2_calls a _).mono ?_
      rintro e w1 ⟨rfl, ⟨nd1, rfl⟩⟩
      go_wp2_with fail
      refine (rtoint_calls a _).mono ?_
      rintro e w1 ⟨rfl, ⟨nd2, rfl⟩⟩
      go_wp2_with fail
      refine (ofint2_calls n _).mono ?_
      rintro e w1 ⟨rfl, rfl⟩
      go_wp2_with fail
      refine (toint2_calls (ofIntI n) _).mono ?_
      rintro e w1 ⟨rfl, ⟨nd4, rfl⟩⟩
      go_wp2_with fail
      refine (ofint2_calls n _).mono ?_
      rintro e w1 ⟨rfl, rfl⟩
      go_wp2_with fail
      refine (rofint_calls n hn.out _).mono ?_
      rintro e w1 ⟨rfl, ⟨nd6, rfl⟩⟩
      go_wp2
      all_goals (go_ret; exact ⟨by first | rfl | (exact ret_bool (by simp)), by repeat (first | exact Drawn0.refl _ | apply Drawn0.step)⟩)
theorem whole_b (n a : Int) (wn : (Lit.int .i64 n).wf = true) (_wa : (Lit.int .i64 a).wf = true) (w : World) : Calls Try.prog 8 #[.int .i64 n, .int .i64 a] w fun e w' => e = .returned (.bool true) ∧ Below w.heap.size w w' := (whole_walk n a wn w).mono fun _ _ ⟨he, h⟩ => ⟨he, h.below⟩
end Go.Proofs.Ytjkjdcejojpikaa
