import Derived.Test.YtnjobnkkpfaigaaZfP7
/- Layer 6: the plain law RowsDecodes, first part: an error stays. -/
namespace Go.Proofs.Ytnjobnkkpfaigaa
open Go.RowKit Go.Proofs.YtnjobnkkpfaigaaW.PrintWords Go.Proofs.YtnjobnkkpfaigaaW.PrintMore Fl V A
set_option linter.unusedSimpArgs false
set_option linter.unusedVariables false
theorem failE_keep {err : Int} (h : err ≠ 0) (e : Int) : failE err e = err := by unfold failE; rw [if_neg h]
theorem takeE_keep {err : Int} (h : err ≠ 0) (xs : List Int) (n : Int) : takeE xs err n = err := by
  unfold takeE
  rw [if_pos (Or.inr h), failE_keep h]
theorem textE_keep {err : Int} (h : err ≠ 0) (xs : List Int) : textE xs err = err := by
  unfold textE
  rw [takeE_keep h, failE_keep h]
  simp
theorem valR_keep {err : Int} (h : err ≠ 0) (xs : List Int) (t : Int) : (valR xs err t).err = err := by
  unfold valR
  repeat' split
  all_goals simp only [takeE_keep h, failE_keep h, textE_keep h]
  all_goals (try split) <;> rfl
theorem decGo_keep (NL : List Int) {err : Int} (h : err ≠ 0) : ∀ (cs : List S47) (i : Nat) (xs : List Int) (row : List S43), decGo NL cs i xs err row = ([], err)
  | [], i, xs, row => by
    unfold decGo
    simp only [failE_keep h]
    by_cases hx : xs.length > 0 <;> simp [hx, h]
  | c :: cs, i, xs, row => by
    unfold decGo
    simp only [valR_keep h, failE_keep h]
    by_cases hb : bitC (NL.getD (i / 8) 0) i = true <;> simp [hb, h]
end Go.Proofs.Ytnjobnkkpfaigaa
