import Derived.Test.YtgbjilcfgpbcgaaZpH22
import Derived.Test.YtgbjilcfgpbcgaaZpBx
/- Layer 8: the reference's heap as plain functions: Find, Behind, Len. -/
namespace Go.Proofs.Ytgbjilcfgpbcgaa
open Go.RowKit Go.Proofs.YtgbjilcfgpbcgaaW.PrintWords
set_option linter.unusedSimpArgs false
set_option linter.unusedVariables false
abbrev S51 := B.S51
abbrev k51 := B.k51
/-- The number in a slot. -/
abbrev idA (sl : List S51) (j : Nat) : Int := (sl.getD j B.z51).f0
theorem rd51 (sl : List S51) (j : Nat) : B.rd_T51 sl (j : Int) = sl.getD j B.z51 := by unfold B.rd_T51; rw [Int.toNat_natCast]
def FindRes (sl : List S51) (id r : Int) : Prop := (∃ j : Nat, j < sl.length ∧ r = (j : Int) ∧ id > 0 ∧ idA sl j = id) ∨ (r = -1 ∧ ∀ j, j < sl.length → ¬ (id > 0 ∧ idA sl j = id))
theorem find_l (sl : List S51) (la id : Int) (hl : sl.length ≤ 4000000000000) : ∀ (m i : Nat), i + m = sl.length → (∀ j, j < i → ¬ (id > 0 ∧ idA sl j = id)) → ∃ r, B.haspref08_Heap_Find.l0 (m + 1) id (i : Int) sl la = some (r, la) ∧ FindRes sl id r
  | 0, i, h, hp => by
    unfold B.haspref08_Heap_Find.l0
    rw [if_neg (by omega)]
    exact ⟨-1, rfl, .inr ⟨rfl, fun j hj => hp j (by omega)⟩⟩
  | m + 1, i, h, hp => by
    unfold B.haspref08_Heap_Find.l0
    have hw : wrap64 ((i : Int) + 1) = ((i + 1 : Nat) : Int) := by simp only [wrap64]; omega
    rw [if_pos (by omega), rd51, hw]
    by_cases h0 : id > 0
    · rw [if_pos h0, if_pos (by omega)]
      by_cases h1 : idA sl i = id
      · rw [if_pos h1]
        exact ⟨i, rfl, .inl ⟨i, by omega, rfl, h0, h1⟩⟩
      · rw [if_neg h1]
        exact find_l sl la id hl m (i + 1) (by omega) fun j hj => by
          rcases Nat.lt_or_eq_of_le (Nat.le_of_lt_succ hj) with h2 | rfl
          · exact hp j h2
          · exact fun q => h1 q.2
    · rw [if_neg h0]
      exact find_l sl la id hl m (i + 1) (by omega) fun j hj q => h0 q.1
def BehRes (sl : List S51) (a : Int) (i : Nat) (b : Int) : Prop := (b = 0 ∧ ∀ j, j < i → ¬ (idA sl j > a ∧ idA sl j > 0)) ∨ (0 < b ∧ a < b ∧ (∃ j, j < i ∧ idA sl j = b) ∧ ∀ j, j < i → idA sl j > a → idA sl j > 0 → b ≤ idA sl j)
theorem beh_l (sl : List S51) (la a : Int) (hl : sl.length ≤ 4000000000000) : ∀ (m i : Nat) (b : Int), i + m = sl.length → BehRes sl a i b → ∃ r, B.haspref08_Heap_Behind.l0 (m + 1) a b (i : Int) sl la = some (r, decide (r > 0), la) ∧ BehRes sl a sl.length r
  | 0, i, b, h, hp => by
    unfold B.haspref08_Heap_Behind.l0
    rw [if_neg (by omega)]
    have : i = sl.length := by omega
    exact ⟨b, rfl, by rw [← this]; exact hp⟩
  | m + 1, i, b, h, hp => by
    unfold B.haspref08_Heap_Behind.l0
    have hw : wrap64 ((i : Int) + 1) = ((i + 1 : Nat) : Int) := by simp only [wrap64]; omega
    rw [if_pos (by omega), rd51, hw, if_pos (by omega)]
    have step : ∀ j, j < i + 1 → j < i ∨ j = i := fun j hj => by omega
    by_cases h0 : idA sl i > a
    · rw [if_pos h0]
      by_cases h1 : idA sl i > 0
      · rw [if_pos h1]
        rcases hp with ⟨hb, hp⟩ | ⟨hb, ha, ⟨q, hq, hqb⟩, hp⟩
        · rw [if_pos hb]
          refine beh_l sl la a hl m (i + 1) _ (by omega) (.inr ⟨h1, h0, ⟨i, by omega, rfl⟩, fun j hj g0 g1 => ?_⟩)
          rcases step j hj with h2 | rfl
          · exact absurd ⟨g0, g1⟩ (hp j h2)
          · exact Int.le_refl _
        · rw [if_neg (by omega)]
          by_cases h3 : idA sl i < b
          · rw [if_pos h3]
            refine beh_l sl la a hl m (i + 1) _ (by omega) (.inr ⟨h1, h0, ⟨i, by omega, rfl⟩, fun j hj g0 g1 => ?_⟩)
            rcases step j hj with h2 | rfl
            · exact Int.le_trans (Int.le_of_lt h3) (hp j h2 g0 g1)
            · exact Int.le_refl _
          · rw [if_neg h3]
            refine beh_l sl la a hl m (i + 1) _ (by omega) (.inr ⟨hb, ha, ⟨q, by omega, hqb⟩, fun j hj g0 g1 => ?_⟩)
            rcases step j hj with h2 | rfl
            · exact hp j h2 g0 g1
            · omega
      · rw [if_neg h1]
        refine beh_l sl la a hl m (i + 1) _ (by omega) ?_
        rcases hp with ⟨hb, hp⟩ | ⟨hb, ha, ⟨q, hq, hqb⟩, hp⟩
        · refine .inl ⟨hb, fun j hj g => ?_⟩
          rcases step j hj with h2 | rfl
          · exact hp j h2 g
          · exact h1 g.2
        · refine .inr ⟨hb, ha, ⟨q, by omega, hqb⟩, fun j hj g0 g1 => ?_⟩
          rcases step j hj with h2 | rfl
          · exact hp j h2 g0 g1
          · exact absurd g1 h1
    · rw [if_neg h0]
      refine beh_l sl la a hl m (i + 1) _ (by omega) ?_
      rcases hp with ⟨hb, hp⟩ | ⟨hb, ha, ⟨q, hq, hqb⟩, hp⟩
      · refine .inl ⟨hb, fun j hj g => ?_⟩
        rcases step j hj with h2 | rfl
        · exact hp j h2 g
        · exact h0 g.1
      · refine .inr ⟨hb, ha, ⟨q, by omega, hqb⟩, fun j hj g0 g1 => ?_⟩
        rcases step j hj with h2 | rfl
        · exact hp j h2 g0 g1
        · exact absurd g0 h0
/-- The slots of the first i that are taken. -/
def occ (sl : List S51) (i : Nat) : List Nat := (List.range i).filter fun j => decide (idA sl j > 0)
theorem occ_succ (sl : List S51) (i : Nat) : occ sl (i + 1) = occ sl i ++ (if idA sl i > 0 then [i] else []) := by
  unfold occ
  rw [List.range_succ, List.filter_append]
  congr 1
  by_cases h : idA sl i > 0
  · rw [if_pos h, List.filter_cons_of_pos (by simpa using h)]; rfl
  · rw [if_neg h, List.filter_cons_of_neg (by simpa using h)]; rfl
theorem len_l (sl : List S51) (la : Int) (hl : sl.length ≤ 4000000000000) : ∀ (m i : Nat), i + m = sl.length → B.haspref08_Heap_Len.l0 (m + 1) ((occ sl i).length : Int) (i : Int) sl la = some (((occ sl sl.length).length : Int), la)
  | 0, i, h => by
    unfold B.haspref08_Heap_Len.l0
    rw [if_neg (by omega)]
    have : i = sl.length := by omega
    rw [this]
  | m + 1, i, h => by
    unfold B.haspref08_Heap_Len.l0
    have hw : wrap64 ((i : Int) + 1) = ((i + 1 : Nat) : Int) := by simp only [wrap64]; omega
    have hol : (occ sl i).length ≤ i := by
      have : (occ sl i).length ≤ (List.range i).length := List.length_filter_le _ _
      rwa [List.length_range] at this
    rw [if_pos (by omega), rd51, hw, if_pos (by omega)]
    have hs := occ_succ sl i
    by_cases h1 : idA sl i > 0
    · rw [if_pos h1]
      rw [if_pos h1] at hs
      have : wrap64 (((occ sl i).length : Int) + 1) = ((occ sl (i + 1)).length : Int) := by
        rw [hs, List.length_append]; simp only [wrap64, List.length_singleton]; omega
      rw [this]
      exact len_l sl la hl m (i + 1) (by omega)
    · rw [if_neg h1]
      rw [if_neg h1, List.append_nil] at hs
      rw [← hs]
      exact len_l sl la hl m (i + 1) (by omega)
end Go.Proofs.Ytgbjilcfgpbcgaa
