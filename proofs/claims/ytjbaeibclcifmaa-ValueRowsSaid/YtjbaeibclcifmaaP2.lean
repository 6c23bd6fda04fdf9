/- The values' laws hold of what the code answers: the plain law of layer 2, third part. -/
import Derived.Test.YtjbaeibclcifmaaP1
namespace Go.Proofs.Ytjbaeibclcifmaa
open Go.RowKit Go.Proofs.YtjbaeibclcifmaaW.PrintWords Fl V
set_option linter.unusedSimpArgs false

def isv (op k n : Int) (t : ByteArray) (k' n' : Int) (t' : ByteArray) : Int :=
  if k = 0 ∨ k' = 0 then 2 else if op < 1 ∨ 6 < op then 2 else if haspref02_Is.yes op (cv k n t k' n' t') then 1 else 0
theorem holds_eq (op c : Int) (h1 : 1 ≤ op) (h6 : op ≤ 6) (hc : c = -1 ∨ c = 0 ∨ c = 1) : value_holds.f op c = some (if haspref02_Is.yes op c then 1 else 0) := by
  have : op = 1 ∨ op = 2 ∨ op = 3 ∨ op = 4 ∨ op = 5 ∨ op = 6 := by omega
  rcases this with rfl | rfl | rfl | rfl | rfl | rfl <;> rcases hc with rfl | rfl | rfl <;> decide
theorem holds_out (op c : Int) (h : op < 1 ∨ 6 < op) : value_holds.f op c = some 2 := by
  unfold value_holds.f
  rw [if_neg (by omega), if_neg (by omega), if_neg (by omega), if_neg (by omega), if_neg (by omega), if_neg (by omega)]
theorem vis_eq (g : Nat) (op k n t k' n' t') : value_Is.f (g + 1) op k n t k' n' t' = some (isv op k n t k' n' t') := by
  unfold value_Is.f isv
  simp only [value_Is.j0, vcompare_eq, Option.bind_some]
  by_cases h : k = 0
  · simp [h]
  · by_cases h' : k' = 0
    · simp [h, h']
    · have e : (k' == 0) = false := by simpa using h'
      simp only [h, h', e, or_self, if_false, Bool.false_eq_true]
      by_cases ho : op < 1 ∨ 6 < op
      · rw [holds_out _ _ ho, if_pos ho]; rfl
      · rw [holds_eq _ _ (by omega) (by omega) (cv3 ..), if_neg ho]; rfl
theorem ris_eq (op k n t k' n' t') : haspref02_Is.f op k n t k' n' t' = some (isv op k n t k' n' t') := by
  unfold haspref02_Is.f isv
  simp only [rcompare_eq, Option.bind_some]
  by_cases h : k = 0 ∨ k' = 0
  · rw [if_pos h, if_pos (by rcases h with h | h <;> simp [h])]
  · rw [if_neg h]
    by_cases ho : op < 1 ∨ 6 < op
    · rw [if_pos ho, if_pos (Or.inr (Or.inr ho))]
    · rw [if_neg ho, if_neg (by intro h2; rcases h2 with h2 | h2 | h2; exact h (Or.inl h2); exact h (Or.inr h2); exact ho h2)]
end Go.Proofs.Ytjbaeibclcifmaa
