import Derived.Test.YtnjobnkkpfaigaaZeP12
/- Layer 6: the plain law RowsDecodes. -/
namespace Go.Proofs.Ytnjobnkkpfaigaa
open Go.RowKit Go.Proofs.YtnjobnkkpfaigaaW.PrintWords Go.Proofs.YtnjobnkkpfaigaaW.PrintMore Fl V A
set_option linter.unusedSimpArgs false
set_option linter.unusedVariables false
theorem bytesB_of {l : List Int} (h : ∀ x ∈ l, 0 ≤ x ∧ x < 256) : bytesB l = true := by
  unfold bytesB
  rw [List.all_eq_true]
  intro x hx
  have := h x hx
  simp [this.1, this.2]
theorem decF (l0 : List S47) (l1 : List Int) (hl : l0.length ≤ 4398046511104) (hx : ∀ x ∈ l1, 0 ≤ x ∧ x < 256) : rows_Decode.f l0 l1 = some (decodeV l0 l1) := by
  unfold rows_Decode.f
  rw [bytesB_of hx, decide_eq_true hl]
  rfl
end Go.Proofs.Ytnjobnkkpfaigaa
