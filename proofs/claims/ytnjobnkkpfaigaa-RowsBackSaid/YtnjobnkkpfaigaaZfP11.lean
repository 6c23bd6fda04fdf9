import Derived.Test.YtnjobnkkpfaigaaZfP10
/- Layer 6: the reference's reading of one value is the program's: the cases. -/
namespace Go.Proofs.Ytnjobnkkpfaigaa
open Go.RowKit Go.Proofs.YtnjobnkkpfaigaaW.PrintWords Go.Proofs.YtnjobnkkpfaigaaW.PrintMore Fl V A
set_option linter.unusedSimpArgs false
set_option linter.unusedVariables false
theorem valR_2 (xs : List Int) (err : Int) : valR xs err 2 = ⟨⟨2, numN xs err, ⟨#[]⟩⟩, takeX xs err 8, takeE xs err 8⟩ := by
  unfold valR; rw [if_neg (by decide), if_pos rfl]
theorem valR_3 (xs : List Int) (err : Int) : valR xs err 3 = ⟨⟨3, numN xs err, ⟨#[]⟩⟩, takeX xs err 8, if (numN xs err != canonI (numN xs err)) = true then failE (takeE xs err 8) 2 else takeE xs err 8⟩ := by
  unfold valR; rw [if_neg (by decide), if_neg (by decide), if_pos rfl]
theorem valR_4 (xs : List Int) (err : Int) : valR xs err 4 = ⟨⟨4, 0, strOfNums (takeY (takeX xs err 1) (textE xs err) ((takeY xs err 1).getD 0 0))⟩, takeX (takeX xs err 1) (textE xs err) ((takeY xs err 1).getD 0 0), takeE (takeX xs err 1) (textE xs err) ((takeY xs err 1).getD 0 0)⟩ := by
  unfold valR; rw [if_neg (by decide), if_neg (by decide), if_neg (by decide), if_pos rfl]
theorem valR_bad (xs : List Int) (err t : Int) (ht : t < 1 ∨ t > 4) : valR xs err t = ⟨⟨t, 0, ⟨#[]⟩⟩, xs, failE err 30⟩ := by
  unfold valR; rw [if_neg (by omega), if_neg (by omega), if_neg (by omega), if_neg (by omega)]
end Go.Proofs.Ytnjobnkkpfaigaa
