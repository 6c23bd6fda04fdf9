import Derived.Test.YtnjobnkkpfaigaaZfVx5
/- Layer 6: the plain law, first part. -/
namespace Go.Proofs.Ytnjobnkkpfaigaa
open Go.RowKit Go.Proofs.YtnjobnkkpfaigaaW.PrintWords Fl V A
set_option linter.unusedSimpArgs false
set_option linter.unusedVariables false
theorem speaks_60 : hasplaw06_speaks.f 60 = some true := by decide +kernel
theorem speaks_eq (k : Nat) (h : 60 ≤ k) : hasplaw06_speaks.f k = some true := by
  obtain ⟨m, rfl⟩ : ∃ m, k = 60 + m := ⟨k - 60, by omega⟩
  induction m with
  | zero => exact speaks_60
  | succ m ih => exact hasplaw06_speaks.mono (60 + m) _ (ih (by omega))
theorem w64n (i : Nat) (h : i < 140737488355328) : wrap64 ((i : Int) + 1) = ((i + 1 : Nat) : Int) := by simp only [wrap64]; omega
theorem rdc_at (l : List S47) (i : Nat) (h : i < l.length) : rd_T47 l (i : Int) = l[i] := by simp [rd_T47, List.getD, h]
theorem rdv_at (l : List S43) (i : Nat) (h : i < l.length) : rd_T43 l (i : Int) = l[i] := by simp [rd_T43, List.getD, h]
theorem bm_eq (n : Nat) (h : n ≤ 4398046511104) : wrap64 (Int.tdiv (wrap64 ((n : Int) + 7)) 8) = (((n + 7) / 8 : Nat) : Int) := by
  rw [IntWalk.wrap64_in ((n : Int) + 7) (by omega), Int.tdiv_eq_ediv_of_nonneg (by omega), IntWalk.wrap64_in _ (by omega)]
  omega
theorem d8_eq (i : Nat) (h : i ≤ 4398046511104) : wrap64 (Int.tdiv (i : Int) 8) = ((i / 8 : Nat) : Int) := by
  rw [Int.tdiv_eq_ediv_of_nonneg (by omega), IntWalk.wrap64_in _ (by omega)]
  omega
end Go.Proofs.Ytnjobnkkpfaigaa
