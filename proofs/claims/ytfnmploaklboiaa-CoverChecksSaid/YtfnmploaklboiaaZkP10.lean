import Derived.Test.YtfnmploaklboiaaZkP9
import Derived.Test.YtfnmploaklboiaaZkVx7
/- Layer 22: the plain law, last part: the document's Check is ckB. -/
namespace Go.Proofs.Ytfnmploaklboiaa
open Go.RowKit Go.Proofs.YtfnmploaklboiaaW.PrintWords V A
set_option linter.unusedSimpArgs false
set_option linter.unusedVariables false
theorem refChanges_eq (t : ByteArray) (l : List S33) (hl : l.length < 140737488355328) (k : Nat) (hk : 5 * l.length + 2 < k) : haspref22_changes.f k t l = some (goC t l l 0 0 (-1) 0 0) :=
  changes_l0 t l hl l.length 0 k 0 0 (-1) 0 (by omega) (by omega) (by omega) (by omega) (by omega) (by omega) (by omega) (by omega)
theorem refCheck_eq (t : ByteArray) (l : List S33) (hl : l.length < 140737488355328) (k : Nat) (hk : 7 * l.length + 8 < k) : haspref22_Check.f k t l = some (if ckB t l = true then 0 else 240) := by
  obtain ⟨k, rfl⟩ : ∃ j, k = j + 1 := ⟨k - 1, by omega⟩
  unfold haspref22_Check.f ckB shapeB
  by_cases h1 : (l.length : Int) < 1
  · rw [if_pos h1, decide_eq_true h1]; rfl
  · rw [if_neg h1, decide_eq_false h1, haspref22_Check.j0]
    by_cases h2 : (l.length : Int) > 4096
    · rw [decide_eq_true h2]; rfl
    · have ew : wrap64 ((l.length : Int) - 1) = (l.length : Int) - 1 := by simp only [wrap64]; omega
      rw [decide_eq_false h2, if_neg (c := (false = true)) (by decide), ew, if_pos (by omega), if_pos (by omega)]
      by_cases h3 : (rd_T33 l ((l.length : Int) - 1)).f0 = 12
      · rw [if_pos h3, h3]
        have hc := check_loop t l hl (goC t l l 0 0 (-1) 0 0) (5 * l.length + 4) (by omega) (fun k hk => refChanges_eq t l hl k (by omega)) l.length 0 k true (by omega) (by omega) (fun _ => rfl) (fun h => absurd h (by omega))
        have hc' : haspref22_Check.l0 k (l.length : Int) 0 t l = _ := hc
        rw [hc', List.drop_zero, ← reads_eq]
        cases hr : readsB (modeF l) l with
        | false => simp
        | true => rw [ch_eq t l hr]; rfl
      · rw [if_neg h3]; simp [h3]
/-- What is known of a plan that came in. -/
def PlanOk (t : ByteArray) (l : List S33) : Prop := t.size ≤ maxLen ∧ l.length * 176 ≤ 140737488351232 ∧ ∀ x ∈ l, x.f5.size ≤ maxLen ∧ -9223372036854775808 ≤ x.f1 ∧ x.f1 < 9223372036854775808
theorem PlanOk.check {t : ByteArray} {l : List S33} (h : PlanOk t l) : cover_Check.f t l = some (if ckB t l = true then 0 else 240) := by
  obtain ⟨h1, h2, h3⟩ := h
  unfold cover_Check.f
  rw [if_pos]
  rw [Bool.and_eq_true, Bool.and_eq_true]
  refine ⟨decide_eq_true (by omega), decide_eq_true h1, List.all_eq_true.2 fun x hx => ?_⟩
  have := h3 x hx
  simp [this]
theorem speaks_true : hasplaw22_speaks.f = some true := by decide +kernel
theorem ChecksPure (t : ByteArray) (l : List S33) (h : PlanOk t l) : ∃ k, hasplaw22_CoverChecks.f k t l = some true := by
  refine ⟨7 * l.length + 9, ?_⟩
  unfold hasplaw22_CoverChecks.f
  rw [speaks_true, Option.bind_some, if_pos rfl, h.check, Option.bind_some, refCheck_eq t l (by have := h.2.1; omega) _ (by omega), Option.bind_some]
  simp
end Go.Proofs.Ytfnmploaklboiaa
