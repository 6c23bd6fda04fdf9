/- The order law. -/
import Derived.Test.YtjbaeibclcifmaaP2
import Derived.Test.YtjbaeibclcifmaaVx6
namespace Go.Proofs.Ytjbaeibclcifmaa
open Go.RowKit Go.Proofs.YtjbaeibclcifmaaW.PrintWords Fl V
set_option linter.unusedSimpArgs false
set_option linter.unusedVariables false

theorem OrdersPure (a b c a' b' c' op) : ∃ k, hasplaw02_ValueOrders.f k a b c a' b' c' op = some true := by
  refine ⟨1, ?_⟩
  unfold hasplaw02_ValueOrders.f hasplaw02_speaks.f
  simp only [vcompare_eq, rcompare_eq, vis_eq 0, ris_eq, Option.bind_some, if_true, beq_self_eq_true]
end Go.Proofs.Ytjbaeibclcifmaa
