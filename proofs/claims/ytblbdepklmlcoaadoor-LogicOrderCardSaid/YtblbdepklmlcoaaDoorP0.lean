/- What the examples answer: the plain law of layer 4, first part. -/
import Derived.Test.YtblbdepklmlcoaaDoorVx2
namespace Go.Proofs.YtblbdepklmlcoaaDoor
open Go.RowKit Go.Proofs.YtblbdepklmlcoaaDoorW.PrintWords A
set_option linter.unusedVariables false
set_option linter.unusedSimpArgs false
theorem speaks_eq : V.hasplaw04_speaks.f = some true := by decide +kernel
/-- A verdict is false, true, unsure or an error. -/
theorem four (t e : Int) : (e = 0 ∧ t = 0) ∨ (e = 0 ∧ t = 1) ∨ (e = 0 ∧ t ≠ 0 ∧ t ≠ 1) ∨ e ≠ 0 := by omega
theorem wo_zero (e : Int) : wo 0 e = e := by unfold wo; rw [if_pos rfl]
theorem wo_zero' (e : Int) : wo e 0 = e := by
  unfold wo
  split
  · rename_i h; exact h.symm
  · rw [if_pos rfl]
theorem wo_ne (a b : Int) (ha : a ≠ 0) (hb : b ≠ 0) : wo a b = if b < a then b else a := by unfold wo mn; rw [if_neg ha, if_neg hb]
theorem wo_comm (a b : Int) : wo a b = wo b a := by
  by_cases ha : a = 0
  · rw [ha, wo_zero, wo_zero']
  · by_cases hb : b = 0
    · rw [hb, wo_zero, wo_zero']
    · rw [wo_ne a b ha hb, wo_ne b a hb ha]; split <;> split <;> omega
theorem wo_nz (a b : Int) (h : a ≠ 0 ∨ b ≠ 0) : wo a b ≠ 0 := by
  by_cases ha : a = 0
  · rw [ha, wo_zero]; rcases h with h | h; exact absurd ha h; exact h
  · by_cases hb : b = 0
    · rw [hb, wo_zero']; exact ha
    · rw [wo_ne a b ha hb]; split <;> assumption
theorem wo_assoc (a b c : Int) : wo a (wo b c) = wo (wo a b) c := by
  by_cases ha : a = 0
  · rw [ha, wo_zero, wo_zero]
  · by_cases hb : b = 0
    · rw [hb, wo_zero, wo_zero']
    · by_cases hc : c = 0
      · rw [hc, wo_zero', wo_zero']
      · rw [wo_ne a (wo b c) ha (wo_nz b c (Or.inl hb)), wo_ne b c hb hc, wo_ne (wo a b) c (wo_nz a b (Or.inl ha)) hc, wo_ne a b ha hb]
        (repeat' split) <;> omega
theorem wo_self (a : Int) : wo a a = a := by
  by_cases ha : a = 0
  · rw [ha, wo_zero]
  · rw [wo_ne a a ha ha]; split <;> rfl
end Go.Proofs.YtblbdepklmlcoaaDoor
