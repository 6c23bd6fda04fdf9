/- The law of truths. -/
import Derived.Test.YtjbaeibclcifmaaP2
import Derived.Test.YtjbaeibclcifmaaVx8
namespace Go.Proofs.Ytjbaeibclcifmaa
open Go.RowKit Go.Proofs.YtjbaeibclcifmaaW.PrintWords Fl V
set_option linter.unusedSimpArgs false
set_option linter.unusedVariables false

theorem TruthsPure (a b c d) : hasplaw02_ValueTruths.f a b c d = some true := by
  unfold hasplaw02_ValueTruths.f hasplaw02_speaks.f
  have hT : haspref02_Truth.f a b c = value_Truth.f a b c := rfl
  have hO : haspref02_Of.f d = value_Of.f d := by
    unfold haspref02_Of.f value_Of.f
    repeat' split
    all_goals first | rfl | omega | (subst_vars; rfl) | (rw [show d = 0 by omega])
  rw [hT, hO]
  have h1 : ∃ x, value_Truth.f a b c = some x := by unfold value_Truth.f; repeat' split
                                                    all_goals exact ⟨_, rfl⟩
  obtain ⟨x, hx⟩ := h1
  rw [hx]
  have ho : value_Of.f d = some (if d = 1 then (1, 1, (⟨#[]⟩ : ByteArray)) else if d = 0 then (1, 0, (⟨#[]⟩ : ByteArray)) else (0, 0, (⟨#[]⟩ : ByteArray))) := by
    unfold value_Of.f
    repeat' split
    all_goals rfl
  rw [ho]
  simp only [Option.bind_some, if_true]
  by_cases d1 : d = 1
  · subst d1
    simp only [if_true, show value_Truth.f 1 1 (⟨#[]⟩ : ByteArray) = some (1, 0) from rfl, Option.bind_some, beq_self_eq_true, Bool.and_self]; rfl
  · by_cases d0 : d = 0
    · subst d0
      simp only [if_true, if_false, show ((0 : Int) = 1) = False from by simp, show value_Truth.f 1 0 (⟨#[]⟩ : ByteArray) = some (0, 0) from rfl, Option.bind_some, beq_self_eq_true, Bool.and_self]; rfl
    · rw [if_neg d1, if_neg d0]
      have e : value_Truth.f 0 0 (⟨#[]⟩ : ByteArray) = some (2, 0) := rfl
      simp only [e, Option.bind_some, beq_self_eq_true, Bool.and_self, if_true, gt_iff_lt]
      by_cases h2 : d < 0
      · rw [if_pos h2]
      · rw [if_neg h2]
        by_cases h3 : 2 < d
        · rw [if_pos h3]
        · rw [if_neg h3, show d = 2 by omega]; rfl
end Go.Proofs.Ytjbaeibclcifmaa
