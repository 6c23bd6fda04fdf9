/- What the values' laws answer: the plain law of layer 2. -/
import Derived.Test.YtjbaeibclcifmaaVx5
import Derived.Test.YtjbaeibclcifmaaFl
import Derived.Laws.BitsLemmas
import Derived.Laws.Bits64
namespace Go.Proofs.Ytjbaeibclcifmaa
open Go.RowKit Go.Proofs.YtjbaeibclcifmaaW.PrintWords Fl V
set_option linter.unusedSimpArgs false

theorem u64w (n : Int) : IntKind.u64.wrap n = n % 18446744073709551616 := by simp [IntKind.wrap, IntKind.bits, IntKind.signed]
theorem wraps_u64 (n : Int) (h₀ : 0 ≤ n) (h₁ : n < 2 ^ 64) : IntKind.u64.wrap n = n := by rw [u64w]; omega
theorem ub_cast (a : Int) : ((ub a : Nat) : Int) = IntKind.u64.wrap a := by unfold ub; rw [u64w]; omega
theorem ub_lt (a : Int) : ub a < 18446744073709551616 := by have := ub_cast a; rw [u64w] at this; omega
theorem mask11 (x : Int) (h0 : 0 ≤ x) (h1 : x < 18446744073709551616) : Go.bits .and .u64 x 2047 = x % 2048 := bits_mask .u64 64 (by decide) wraps_u64 11 (by decide) x h0 h1
theorem mask52 (x : Int) (h0 : 0 ≤ x) (h1 : x < 18446744073709551616) : Go.bits .and .u64 x 4503599627370495 = x % 4503599627370496 := bits_mask .u64 64 (by decide) wraps_u64 52 (by decide) x h0 h1
theorem parts_eq (a : Int) : haspref01_Parts.f a = some (((ub a / 9223372036854775808 : Nat) : Int), ((ub a / 4503599627370496 % 2048 : Nat) : Int), ((ub a % 4503599627370496 : Nat) : Int)) := by
  have h := ub_lt a
  unfold haspref01_Parts.f
  rw [← ub_cast]
  rw [mask11 _ (by omega) (by omega), mask52 _ (by omega) (by omega)]
  congr 1
  refine Prod.ext ?_ (Prod.ext ?_ ?_) <;> (simp only [wrap64]; omega)

theorem isnan_eq (a : Int) : haspref01_IsNaN.f a = some (nanB (ub a)) := by
  have h := ub_lt a
  unfold haspref01_IsNaN.f
  rw [parts_eq]
  simp only [Option.bind_some]
  have hb : nanB (ub a) = (decide (ub a / 4503599627370496 % 2048 = 2047) && decide (ub a % 4503599627370496 ≠ 0)) := by
    unfold nanB
    have e1 : Ir = 9218868437227405312 := rfl
    have e2 : Sw = 9223372036854775808 := rfl
    rw [e1, e2, Bool.eq_iff_iff]
    simp only [decide_eq_true_eq, Bool.and_eq_true]
    omega
  rw [hb]
  by_cases c : ((ub a / 4503599627370496 % 2048 : Nat) : Int) = 2047
  · rw [if_pos c]
    have c' : ub a / 4503599627370496 % 2048 = 2047 := by omega
    rw [decide_eq_true c', Bool.true_and]
    congr 1
    rw [Bool.eq_iff_iff, bne_iff_ne, decide_eq_true_eq]; omega
  · rw [if_neg c]
    have c' : ¬ ub a / 4503599627370496 % 2048 = 2047 := by intro h; exact c (by omega)
    rw [decide_eq_false c', Bool.false_and]

theorem place_eq (a : Int) : haspref01_place.f a = some (plc (ub a)) := by
  have h := ub_lt a
  unfold haspref01_place.f
  rw [parts_eq, isnan_eq]
  simp only [Option.bind_some]
  unfold plc
  cases hn : nanB (ub a)
  · simp only [Bool.false_eq_true, if_false]
    have e2 : Sw = 9223372036854775808 := rfl
    have e1 : Ir = 9218868437227405312 := rfl
    have hr : ¬ Ir < ub a % Sw := by simpa [nanB] using hn
    rw [e1, e2] at hr
    have w1 : wrap64 (wrap64 (((ub a / 4503599627370496 % 2048 : Nat) : Int) * 4503599627370496) + ((ub a % 4503599627370496 : Nat) : Int)) = ((ub a % 9223372036854775808 : Nat) : Int) := by
      simp only [wrap64]; omega
    rw [w1]
    unfold plcR negB rung
    rw [e2]
    by_cases hs : ub a / 9223372036854775808 = 1
    · rw [hs]
      simp only [show ((1 : Nat) : Int) = 1 from rfl, if_true, show (1 % 2 == 1) = true from rfl]
      congr 1; simp only [wrap64]; omega
    · have h0 : ub a / 9223372036854775808 = 0 := by omega
      rw [h0]
      simp only [show (((0 : Nat) : Int) = 1) = False from by simp, if_false, show (0 % 2 == 1) = false from rfl, Bool.false_eq_true]
  · simp only [if_true]

theorem rorder_eq (a b : Int) : haspref01_Order.f a b = some (ordI a b) := by
  unfold haspref01_Order.f ordI cmpI
  rw [place_eq, place_eq]
  simp only [Option.bind_some]
  split
  · rfl
  · split <;> rfl

/-- A whole number's order, as the code spells it. -/
theorem cmpI_at (a b : Int) : cmp_Compare_int64.f a b = some (if a < b then -1 else if b < a then 1 else 0) := by
  simp only [cmp_Compare_int64.f, cmp_isNaN_int64.f, Option.bind_some, bne_self_eq_false, Bool.false_eq_true, if_false, gt_iff_lt]
  split
  · rfl
  · split <;> rfl
theorem cmpN_at (a b : Int) : cmp_Compare_int.f a b = some (if a < b then -1 else if b < a then 1 else 0) := by
  simp only [cmp_Compare_int.f, cmp_isNaN_int.f, Option.bind_some, bne_self_eq_false, Bool.false_eq_true, if_false, gt_iff_lt]
  split
  · rfl
  · split <;> rfl
/-- Compare's answer. -/
def cv (k n : Int) (t : ByteArray) (k' n' : Int) (t' : ByteArray) : Int :=
  if k = k' then (if k = 0 then 0 else if k = 3 then ordI n n' else if k = 4 then cmpS t t' else if n < n' then -1 else if n' < n then 1 else 0)
  else if k < k' then -1 else 1
theorem vcompare_eq (k n t k' n' t') : value_Compare.f k n t k' n' t' = some (cv k n t k' n' t') := by
  unfold value_Compare.f cv
  rw [cmpI_at, cmpN_at]
  simp only [real_Order.f, cmp_Compare_string.f, Option.bind_some]
  by_cases h : k = k'
  · simp only [h, if_true]
    repeat' split
    all_goals rfl
  · simp only [h, if_false]
    repeat' split
    all_goals first | rfl | omega
theorem rcompare_eq (k n t k' n' t') : haspref02_Compare.f k n t k' n' t' = some (cv k n t k' n' t') := by
  unfold haspref02_Compare.f cv haspref02_less.f
  rw [rorder_eq]
  by_cases h : k = k'
  · simp only [h, if_true, decide_eq_true_eq]
    repeat' split
    all_goals rfl
  · simp only [h, if_false, decide_eq_true_eq, if_true]
    repeat' split
    all_goals rfl
/-- An order answers one of three numbers. -/
theorem cmpS3 (a b : ByteArray) : cmpS a b = -1 ∨ cmpS a b = 0 ∨ cmpS a b = 1 := by unfold cmpS; split; · simp
                                                                                    split <;> simp
theorem ordI3 (a b : Int) : ordI a b = -1 ∨ ordI a b = 0 ∨ ordI a b = 1 := by unfold ordI cmpI; split; · simp
                                                                              split <;> simp
theorem cv3 (k n t k' n' t') : cv k n t k' n' t' = -1 ∨ cv k n t k' n' t' = 0 ∨ cv k n t k' n' t' = 1 := by
  unfold cv
  repeat' split
  all_goals first | exact Or.inl rfl | exact Or.inr (Or.inl rfl) | exact Or.inr (Or.inr rfl) | exact ordI3 _ _ | exact cmpS3 _ _
end Go.Proofs.Ytjbaeibclcifmaa
