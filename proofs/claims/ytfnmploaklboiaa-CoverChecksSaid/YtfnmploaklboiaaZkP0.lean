import Derived.Test.YtfnmploaklboiaaZkVx3
/- Layer 22: the plain law, first part: what the document's functions answer. -/
namespace Go.Proofs.Ytfnmploaklboiaa
open Go.RowKit Go.Proofs.YtfnmploaklboiaaW.PrintWords V A
set_option linter.unusedSimpArgs false
set_option linter.unusedVariables false
theorem w64n (i : Nat) (h : i < 140737488355328) : wrap64 ((i : Int) + 1) = ((i + 1 : Nat) : Int) := by simp only [wrap64]; omega
theorem rd33_at (l : List S33) (i : Nat) (h : i < l.length) : rd_T33 l (i : Int) = l[i] := by simp [rd_T33, List.getD, h]
theorem refCov_eq (a b : Int) : haspref09_Covers.f a b = some (cov a b) := by
  unfold haspref09_Covers.f haspref09_Join.f
  by_cases h1 : a < 0
  · rw [if_pos h1]; unfold cov isKnown; rw [decide_eq_false (by omega)]; rfl
  · by_cases h2 : a > 6
    · rw [if_neg h1, if_pos h2]; unfold cov isKnown; rw [decide_eq_false (p := a ≤ 6) (by omega)]; simp
    · by_cases h3 : b < 0
      · rw [if_neg h1, if_neg h2, if_pos h3]; unfold cov isKnown; rw [decide_eq_false (p := 0 ≤ b) (by omega)]; simp
      · by_cases h4 : b > 6
        · rw [if_neg h1, if_neg h2, if_neg h3, if_pos h4]; unfold cov isKnown; rw [decide_eq_false (p := b ≤ 6) (by omega)]; simp
        · rw [if_neg h1, if_neg h2, if_neg h3, if_neg h4, Option.bind_some]
          have ha : a = 0 ∨ a = 1 ∨ a = 2 ∨ a = 3 ∨ a = 4 ∨ a = 5 ∨ a = 6 := by omega
          have hb : b = 0 ∨ b = 1 ∨ b = 2 ∨ b = 3 ∨ b = 4 ∨ b = 5 ∨ b = 6 := by omega
          rcases ha with rfl | rfl | rfl | rfl | rfl | rfl | rfl <;> rcases hb with rfl | rfl | rfl | rfl | rfl | rfl | rfl <;> decide +kernel
end Go.Proofs.Ytfnmploaklboiaa
