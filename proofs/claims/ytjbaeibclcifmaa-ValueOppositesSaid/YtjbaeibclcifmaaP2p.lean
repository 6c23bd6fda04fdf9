/- The law of opposites. -/
import Derived.Test.YtjbaeibclcifmaaP2
import Derived.Test.YtjbaeibclcifmaaVx9
namespace Go.Proofs.Ytjbaeibclcifmaa
open Go.RowKit Go.Proofs.YtjbaeibclcifmaaW.PrintWords Fl V
set_option linter.unusedSimpArgs false
set_option linter.unusedVariables false

theorem OppositesPure (a b c a' b' c') : ∃ k, hasplaw02_ValueOpposites.f k a b c a' b' c' = some true := by
  refine ⟨2, ?_⟩
  unfold hasplaw02_ValueOpposites.f hasplaw02_speaks.f
  simp only [Option.bind_some, if_true, hasplaw02_ValueOpposites.j0, vis_eq 0]
  by_cases h : a = 0
  · simp [h, isv]
  · by_cases h' : a' = 0
    · simp [h, h', isv]
    · have e : (a' == 0) = false := by simpa using h'
      simp only [h, e, isv, h', or_self, if_false, Bool.false_eq_true]
      rw [cv_neg a b c a' b' c']
      have h3 := cv3 a b c a' b' c'
      generalize cv a b c a' b' c' = u at h3
      rcases h3 with rfl | rfl | rfl <;> decide +kernel
end Go.Proofs.Ytjbaeibclcifmaa
