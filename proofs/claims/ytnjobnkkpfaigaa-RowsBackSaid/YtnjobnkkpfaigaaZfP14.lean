import Derived.Test.YtnjobnkkpfaigaaZfP13
/- Layer 6: what a right value is; its bytes are read again. -/
namespace Go.Proofs.Ytnjobnkkpfaigaa
open Go.RowKit Go.Proofs.YtnjobnkkpfaigaaW.PrintWords Go.Proofs.YtnjobnkkpfaigaaW.PrintMore Fl V A
set_option linter.unusedSimpArgs false
set_option linter.unusedVariables false
def okV (v : S43) : Prop := (v.f0 = 0 ∧ v.f1 = 0 ∧ v.f2.size = 0) ∨ (v.f0 = 1 ∧ (v.f1 = 0 ∨ v.f1 = 1) ∧ v.f2.size = 0) ∨ (v.f0 = 2 ∧ v.f2.size = 0) ∨ (v.f0 = 3 ∧ v.f1 = canonI v.f1 ∧ v.f2.size = 0) ∨ (v.f0 = 4 ∧ v.f1 = 0 ∧ v.f2.size ≤ 200)
theorem chk_iff (v : S43) : chk v = 0 ↔ okV v := by
  obtain ⟨a, b, c⟩ := v
  unfold chk value_Check.f okV
  simp only [value_Check.j0, value_Check.j1, value_Check.j2, real_Canon.f, Option.bind_some, size0]
  generalize c.size = n
  have hk : a < 0 ∨ a = 0 ∨ a = 1 ∨ a = 2 ∨ a = 3 ∨ a = 4 ∨ 4 < a := by omega
  rcases hk with h | rfl | rfl | rfl | rfl | rfl | h
  · have e : (a == 4) = false := by simp; omega
    have n0 : ¬ a = 0 := by omega
    have n1 : ¬ a = 1 := by omega
    have n2 : ¬ a = 2 := by omega
    have n3 : ¬ a = 3 := by omega
    have n4 : ¬ a = 4 := by omega
    simp [n0, n1, n2, n3, n4, e]
  · by_cases hb : b = 0
    · subst hb
      by_cases hs : 0 < n
      · simp [hs]; omega
      · obtain rfl : n = 0 := by omega
        simp 
    · simp [hb]
  · by_cases hb : b = 0
    · subst hb
      by_cases hs : 0 < n
      · simp [hs]; omega
      · obtain rfl : n = 0 := by omega
        simp 
    · by_cases hb1 : b = 1
      · subst hb1
        by_cases hs : 0 < n
        · simp [hs]; omega
        · obtain rfl : n = 0 := by omega
          simp 
      · simp [hb, hb1]
  · by_cases hs : 0 < n
    · simp [hs]; omega
    · obtain rfl : n = 0 := by omega
      simp 
  · by_cases hb : b = canonI b
    · by_cases hs : 0 < n
      · simp [hs, ← hb]; omega
      · obtain rfl : n = 0 := by omega
        simp [← hb]
    · simp [hb]
  · by_cases hb : b = 0
    · subst hb
      by_cases hs : (n : Int) > 200
      · simp [hs]; omega
      · simp [hs]; omega
    · simp [hb]
  · have e : (a == 4) = false := by simp; omega
    have n0 : ¬ a = 0 := by omega
    have n1 : ¬ a = 1 := by omega
    have n2 : ¬ a = 2 := by omega
    have n3 : ¬ a = 3 := by omega
    have n4 : ¬ a = 4 := by omega
    simp [n0, n1, n2, n3, n4, e]
theorem bytes_of_str (l : List Int) (h : ∀ x ∈ l, 0 ≤ x ∧ x < 256) : bytesOf (strOfNums l) = l := by
  unfold bytesOf
  rw [strOfNums_data, List.map_map]
  conv => rhs; rw [← List.map_id l]
  apply List.map_congr_left
  intro x hx
  have := h x hx
  simp only [Function.comp, id]
  rw [UInt8.toNat_ofNat']
  omega
/-- A number's bytes, of the greatest weight first, make it again. -/
theorem stepU_small (u x : Int) (h0 : 0 ≤ u) (h1 : u < 72057594037927936) (h2 : 0 ≤ x) (h3 : x < 256) : stepU u x = u * 256 + x := by
  unfold stepU; rw [u64w, u64w, u64w]; omega
end Go.Proofs.Ytnjobnkkpfaigaa
