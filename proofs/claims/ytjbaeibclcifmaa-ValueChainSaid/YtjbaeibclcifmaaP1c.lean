/- The chain law holds of what the code answers. -/
import Derived.Test.YtjbaeibclcifmaaP1
import Derived.Test.YtjbaeibclcifmaaVx10
namespace Go.Proofs.Ytjbaeibclcifmaa
open Go.RowKit Go.Proofs.YtjbaeibclcifmaaW.PrintWords Fl V
set_option linter.unusedSimpArgs false
set_option linter.unusedVariables false

theorem ChainPure (a b c a' b' c' a'' b'' c'') : hasplaw02_ValueChain.f a b c a' b' c' a'' b'' c'' = some true := by
  unfold hasplaw02_ValueChain.f hasplaw02_speaks.f
  simp only [vcompare_eq, Option.bind_some, if_true]
  have h := cv_T a b c a' b' c' a'' b'' c''
  generalize cv a b c a' b' c' = x at h ⊢
  generalize cv a' b' c' a'' b'' c'' = y at h ⊢
  generalize cv a b c a'' b'' c'' = z at h ⊢
  obtain ⟨h1, h2, h3, h4, h5⟩ := h
  have e : ∀ u v : Bool, (u = true ↔ v = true) → (u == v) = true := by intro u v h; cases u <;> cases v <;> simp_all
  repeat' split
  all_goals first | rfl | omega | (rw [Option.some.injEq]; first | (simp only [decide_eq_true_eq, ge_iff_le]; omega) | (refine e _ _ ?_; simp only [beq_iff_eq, Bool.false_eq_true, iff_false]; omega))
end Go.Proofs.Ytjbaeibclcifmaa
