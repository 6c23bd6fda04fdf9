/- The values' order is a total order: the plain law of layer 2, second part. -/
import Derived.Test.YtjbaeibclcifmaaP0
namespace Go.Proofs.Ytjbaeibclcifmaa
open Go.RowKit Go.Proofs.YtjbaeibclcifmaaW.PrintWords Fl V
set_option linter.unusedSimpArgs false

/-- What three answers of one order allow. -/
def T3 (ab bc ac : Int) : Prop := (ab ≤ 0 → bc ≤ 0 → ac ≤ 0) ∧ (0 ≤ ab → 0 ≤ bc → 0 ≤ ac) ∧ (ab = 0 → bc = 0 → ac = 0) ∧ (ab < 0 → bc ≤ 0 → ac < 0) ∧ (ab ≤ 0 → bc < 0 → ac < 0)
def cmpL (a b : List UInt8) : Int := if Op.bytesLess a b then -1 else if a == b then 0 else 1
theorem cmpL_cons (x : UInt8) (xs) (y : UInt8) (ys) : cmpL (x :: xs) (y :: ys) = if x < y then -1 else if y < x then 1 else cmpL xs ys := by
  unfold cmpL
  simp only [Op.bytesLess, List.cons_beq_cons]
  by_cases h : x = y
  · subst h
    simp
  · have h1 : (x == y) = false := by simpa using h
    simp only [h1, Bool.false_and, Bool.false_eq_true, if_false, bne, Bool.not_false, if_true]
    by_cases h2 : x < y
    · simp [h2]
    · have h3 : y < x := by
        rcases UInt8.lt_or_lt_of_ne h with h | h
        · exact absurd h h2
        · exact h
      simp [h2, h3, h, h1]
theorem cmpL_neg : ∀ a b, cmpL b a = -cmpL a b
  | [], [] => by decide
  | [], _ :: _ => by simp [cmpL, Op.bytesLess]
  | _ :: _, [] => by simp [cmpL, Op.bytesLess]
  | x :: xs, y :: ys => by
    rw [cmpL_cons, cmpL_cons, cmpL_neg xs ys]
    simp only [UInt8.lt_iff_toNat_lt]
    repeat' split
    all_goals first | omega | rfl
theorem cmpL_T : ∀ a b c, T3 (cmpL a b) (cmpL b c) (cmpL a c)
  | [], [], c => by cases c <;> simp [cmpL, Op.bytesLess, T3]
  | [], _ :: _, [] => by simp [cmpL, Op.bytesLess, T3]
  | [], _ :: _, _ :: _ => by simp [cmpL, Op.bytesLess, T3]; try omega
  | _ :: _, [], [] => by simp [cmpL, Op.bytesLess, T3]
  | _ :: _, [], _ :: _ => by simp [cmpL, Op.bytesLess, T3]
  | _ :: _, _ :: _, [] => by simp [cmpL, Op.bytesLess, T3]
  | x :: xs, y :: ys, z :: zs => by
    have h := cmpL_T xs ys zs
    rw [cmpL_cons, cmpL_cons, cmpL_cons]
    simp only [UInt8.lt_iff_toNat_lt, T3] at h ⊢
    repeat' split
    all_goals first | omega | (refine ⟨?_, ?_, ?_, ?_, ?_⟩ <;> omega)
theorem cmpS_neg (a b : ByteArray) : cmpS b a = -cmpS a b := cmpL_neg _ _
theorem cmpS_T (a b c : ByteArray) : T3 (cmpS a b) (cmpS b c) (cmpS a c) := cmpL_T _ _ _
theorem cmpI_T (a b c : Int) : T3 (cmpI a b) (cmpI b c) (cmpI a c) := by
  unfold cmpI T3
  repeat' split
  all_goals omega
theorem cmpI_neg (a b : Int) : cmpI b a = -cmpI a b := by
  unfold cmpI
  repeat' split
  all_goals omega
theorem cv_eq (k n t k' n' t') : cv k n t k' n' t' = if k = k' then (if k = 0 then 0 else if k = 3 then ordI n n' else if k = 4 then cmpS t t' else cmpI n n') else cmpI k k' := by
  unfold cv
  by_cases h : k = k'
  · rw [if_pos h, if_pos h]; rfl
  · rw [if_neg h, if_neg h]; unfold cmpI; repeat' split
    all_goals omega
theorem cv_neg (k n t k' n' t') : cv k' n' t' k n t = -cv k n t k' n' t' := by
  rw [cv_eq, cv_eq]
  by_cases h : k = k'
  · subst h
    rw [if_pos rfl, if_pos rfl]
    repeat' split
    · rfl
    · exact cmpI_neg _ _
    · exact cmpS_neg _ _
    · exact cmpI_neg _ _
  · rw [if_neg h, if_neg (Ne.symm h)]; exact cmpI_neg _ _
theorem cv_T (k n t k' n' t' k'' n'' t'') : T3 (cv k n t k' n' t') (cv k' n' t' k'' n'' t'') (cv k n t k'' n'' t'') := by
  simp only [cv_eq]
  by_cases h : k = k'
  · subst h
    by_cases h2 : k = k''
    · subst h2
      simp only [if_true]
      repeat' split
      · simp [T3]
      · exact cmpI_T _ _ _
      · exact cmpS_T _ _ _
      · exact cmpI_T _ _ _
    · simp only [if_true, if_neg h2]
      generalize (if k = 0 then (0 : Int) else if k = 3 then ordI n n' else if k = 4 then cmpS t t' else cmpI n n') = u
      unfold T3 cmpI
      split
      · omega
      · split <;> omega
  · by_cases h2 : k' = k''
    · subst h2
      simp only [if_true, if_neg h]
      generalize (if k' = 0 then (0 : Int) else if k' = 3 then ordI n' n'' else if k' = 4 then cmpS t' t'' else cmpI n' n'') = u
      unfold T3 cmpI
      split
      · omega
      · split <;> omega
    · simp only [if_neg h, if_neg h2]
      by_cases h3 : k = k''
      · subst h3
        simp only [if_true]
        generalize (if k = 0 then (0 : Int) else if k = 3 then ordI n n'' else if k = 4 then cmpS t t'' else cmpI n n'') = u
        unfold T3 cmpI
        repeat' split
        all_goals omega
      · simp only [if_neg h3]; exact cmpI_T _ _ _

theorem NamesPure : hasplaw02_ValueNames.f = some true := rfl
end Go.Proofs.Ytjbaeibclcifmaa
