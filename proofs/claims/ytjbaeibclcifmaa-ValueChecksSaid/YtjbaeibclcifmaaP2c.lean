/- The law of checks. -/
import Derived.Test.YtjbaeibclcifmaaP2
namespace Go.Proofs.Ytjbaeibclcifmaa
open Go.RowKit Go.Proofs.YtjbaeibclcifmaaW.PrintWords Fl V
set_option linter.unusedSimpArgs false
set_option linter.unusedVariables false

theorem tl_len (t : ByteArray) : t.toList.length = t.size := by rw [ByteArray.toList_eq, Array.length_toList]; rfl
theorem size0 (t : ByteArray) : (t.toList != ([] : List UInt8)) = decide ((t.size : Int) > 0) := by
  rw [← tl_len]
  cases t.toList <;> simp
theorem canonb (b : Int) : (b == canonI b) = !(nanB (ub b) && (b != 9221120237041090560)) := by
  unfold canonI theNaN
  cases nanB (ub b)
  · simp
  · simp [bne]
theorem ChecksPure (a b c) : ∃ k, hasplaw02_ValueChecks.f k a b c = some true := by
  refine ⟨10, ?_⟩
  unfold hasplaw02_ValueChecks.f hasplaw02_speaks.f
  have key : ∃ v, value_Check.f 10 a b c = some v ∧ haspref02_Check.f 10 a b c = some v := by
    unfold value_Check.f haspref02_Check.f
    simp only [value_Check.j0, value_Check.j1, value_Check.j2, haspref02_Check.j0, haspref02_Check.j1, haspref02_Check.j2, haspref02_Check.j3, haspref02_Check.j4, isnan_eq, real_Canon.f, Option.bind_some, size0, canonb]
    have hk : a < 0 ∨ a = 0 ∨ a = 1 ∨ a = 2 ∨ a = 3 ∨ a = 4 ∨ 4 < a := by omega
    rcases hk with h | rfl | rfl | rfl | rfl | rfl | h
    · rw [if_neg (by omega), if_pos h]
      have e : (a == 4) = false := by simp; omega
      simp only [e, Bool.false_eq_true, if_false, if_true]
      rw [if_neg (by omega), if_neg (by omega), if_neg (by omega)]
      exact ⟨_, rfl, rfl⟩
    · by_cases hb : b = 0
      · subst hb
        by_cases hs : 0 < c.size
        · refine ⟨2, ?_, ?_⟩ <;> simp [hs]
        · refine ⟨0, ?_, ?_⟩ <;> simp [hs] <;> omega
      · simp [hb]
    · by_cases hb : b = 0
      · subst hb
        by_cases hs : 0 < c.size
        · refine ⟨2, ?_, ?_⟩ <;> simp [hs]
        · refine ⟨0, ?_, ?_⟩ <;> simp [hs] <;> omega
      · by_cases hb1 : b = 1
        · subst hb1
          by_cases hs : 0 < c.size
          · refine ⟨2, ?_, ?_⟩ <;> simp [hs]
          · refine ⟨0, ?_, ?_⟩ <;> simp [hs] <;> omega
        · by_cases hlt : b < 0
          · simp [hb, hb1, hlt]
          · have h1 : 1 < b := by omega
            simp [hb, hb1, hlt, h1]
    · by_cases hs : 0 < c.size
      · refine ⟨2, ?_, ?_⟩ <;> simp [hs]
      · refine ⟨0, ?_, ?_⟩ <;> simp [hs] <;> omega
    · cases hn : nanB (ub b)
      · by_cases hs : 0 < c.size
        · refine ⟨2, ?_, ?_⟩ <;> simp [hs]
        · refine ⟨0, ?_, ?_⟩ <;> simp [hs] <;> omega
      · by_cases hb : b = 9221120237041090560
        · by_cases hs : 0 < c.size
          · refine ⟨2, ?_, ?_⟩ <;> simp [hs, hb]
          · refine ⟨0, ?_, ?_⟩ <;> simp [hs, hb] <;> omega
        · simp [hb]
    · by_cases hb : b = 0
      · subst hb
        by_cases hs : (c.size : Int) > 200
        · refine ⟨1, ?_, ?_⟩ <;> simp [hs]
        · refine ⟨0, ?_, ?_⟩ <;> simp [hs] <;> omega
      · simp [hb]
    · have e : (a == 4) = false := by simp; omega
      have e2 : decide (a > 4) = true := by simp; omega
      have n0 : ¬ a = 0 := by omega
      have n1 : ¬ a = 1 := by omega
      have n2 : ¬ a = 2 := by omega
      have n3 : ¬ a = 3 := by omega
      have n4 : ¬ a < 0 := by omega
      refine ⟨50, ?_, ?_⟩
      · simp only [n0, n1, n2, n3, e, if_false, Bool.false_eq_true]
      · simp only [n4, e2, if_false, if_true]
  obtain ⟨v, h1, h2⟩ := key
  rw [h1, h2]
  simp
end Go.Proofs.Ytjbaeibclcifmaa
