import Derived.Test.YtnjobnkkpfaigaaZcP2
import Derived.Test.YtnjobnkkpfaigaaZcVx10
/- Layer 6: Fit by a plain description; lists met again. -/
namespace Go.Proofs.Ytnjobnkkpfaigaa
open Go.RowKit Go.Proofs.YtnjobnkkpfaigaaW.PrintWords Fl V A
set_option linter.unusedSimpArgs false
set_option linter.unusedVariables false
theorem same_at : ∀ (m : Nat) (l : List S43) (i g : Nat), l.length - i ≤ m → i ≤ l.length → l.length ≤ 4398046511104 → haspref02_SameRow.l0 (m + g + 1) l l i = some true := by
  intro m
  induction m with
  | zero =>
    intro l i g hm hi hl
    rw [haspref02_SameRow.l0, if_neg (by omega)]
  | succ m ih =>
    intro l i g hm hi hl
    rw [show m + 1 + g + 1 = (m + g + 1) + 1 by omega, haspref02_SameRow.l0]
    by_cases h : i < l.length
    · rw [if_pos (by omega), if_pos (by omega), if_pos (by omega), w64n i (by omega)]
      simp only [beq_self_eq_true, Bool.not_true, Bool.or_self, Bool.false_eq_true, if_false]
      exact ih l (i + 1) g (by omega) (by omega) hl
    · rw [if_neg (by omega)]
theorem same_eq (l : List S43) (k : Nat) (hk : l.length + 1 ≤ k) (hl : l.length ≤ 4398046511104) : haspref02_SameRow.f k l l = some true := by
  have h := same_at l.length l 0 (k - l.length - 1) (by omega) (by omega) hl
  rw [show l.length + (k - l.length - 1) + 1 = k by omega] at h
  unfold haspref02_SameRow.f
  rw [if_pos rfl]
  exact h
end Go.Proofs.Ytnjobnkkpfaigaa
