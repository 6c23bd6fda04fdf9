import Derived.Test.YtnjobnkkpfaigaaZeP5
/- Layer 6: the reference's Encode, by the same plain description. -/
namespace Go.Proofs.Ytnjobnkkpfaigaa
open Go.RowKit Go.Proofs.YtnjobnkkpfaigaaW.PrintWords Go.Proofs.YtnjobnkkpfaigaaW.PrintMore Fl V A
set_option linter.unusedSimpArgs false
set_option linter.unusedVariables false
set_option maxHeartbeats 4000000 in
theorem chk_ok (v : S43) (h : chk v = 0) : 0 ≤ v.f0 ∧ v.f0 ≤ 4 ∧ v.f2.size ≤ 200 := by
  have h2 := (chk_10 v).2
  rw [h] at h2
  clear h
  obtain ⟨a, b, c⟩ := v
  dsimp only at h2 ⊢
  unfold haspref02_Check.f at h2
  simp only [haspref02_Check.j0, haspref02_Check.j1, haspref02_Check.j2, haspref02_Check.j3, haspref02_Check.j4, isnan_eq, Option.bind_some] at h2
  by_cases h0 : a < 0
  · simp [h0] at h2
  · by_cases h4 : a > 4
    · rw [if_neg h0, decide_eq_true h4] at h2; simp at h2
    · refine ⟨by omega, by omega, ?_⟩
      by_cases hs : c.size ≤ 200
      · exact hs
      · exfalso
        have hs1 : (c.size : Int) > 200 := by omega
        have hs0 : decide ((c.size : Int) > 0) = true := decide_eq_true (by omega)
        rw [if_neg h0, decide_eq_false h4] at h2
        simp only [if_pos hs1, hs0, if_true] at h2
        have hk : a = 0 ∨ a = 1 ∨ a = 2 ∨ a = 3 ∨ a = 4 := by omega
        rcases hk with rfl | rfl | rfl | rfl | rfl
        all_goals
          simp only [Bool.false_eq_true, if_false, if_true] at h2
          repeat' split at h2
          all_goals first | (simp at h2; done) | (exact absurd trivial (by assumption)) | omega
end Go.Proofs.Ytnjobnkkpfaigaa
