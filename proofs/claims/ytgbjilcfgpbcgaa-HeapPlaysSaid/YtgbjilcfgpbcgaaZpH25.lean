import Derived.Test.YtgbjilcfgpbcgaaZpH24
/- Layer 8: the reference's Pages as a plain function; what the two heaps have in common. -/
namespace Go.Proofs.Ytgbjilcfgpbcgaa
open Go.RowKit Go.Proofs.YtgbjilcfgpbcgaaW.PrintWords
set_option linter.unusedSimpArgs false
set_option linter.unusedVariables false
/-- One behind the last slot of the first i that is taken. -/
def topP (sl : List S51) : Nat → Nat
  | 0 => 0
  | i + 1 => if idA sl i = 0 then topP sl i else i + 1
theorem top_le (sl : List S51) : ∀ i, topP sl i ≤ i
  | 0 => Nat.le_refl _
  | i + 1 => by
    unfold topP
    split
    · exact Nat.le_succ_of_le (top_le sl i)
    · exact Nat.le_refl _
theorem occ_mem {sl : List S51} {i k : Nat} : k ∈ occ sl i ↔ k < i ∧ idA sl k > 0 := by
  unfold occ
  rw [List.mem_filter, List.mem_range]
  simp
theorem occ_top {sl : List S51} : ∀ {i k : Nat}, k < i → idA sl k > 0 → k < topP sl i
  | i + 1, k, h, hp => by
    unfold topP
    split
    · next h0 =>
      have : k ≠ i := fun e => by rw [e, h0] at hp; omega
      exact occ_top (by omega) hp
    · omega
def pgL (sl : List S51) (i : Nat) : List Int := (List.range ((topP sl i + 15) / 16)).map fun j => (((occ sl i).countP fun k => decide (k / 16 = j) : Nat) : Int)
theorem pgL_len (sl : List S51) (i : Nat) : (pgL sl i).length = (topP sl i + 15) / 16 := by simp [pgL]
theorem l1_l (sl : List S51) (la : Int) (i k0 : Nat) (hi : i ≤ 4000000000000) : ∀ (t : Nat) (out : List Int), out.length + t = i / 16 + 1 →
    B.haspref08_Heap_Pages.l1 (k0 + 1 + t) out (i : Int) sl la = B.haspref08_Heap_Pages.l0 k0 ((out ++ List.replicate t 0).set (i / 16) (wrap64 (rd (out ++ List.replicate t 0) ((i / 16 : Nat) : Int) + 1))) (wrap64 ((i : Int) + 1)) sl la
  | 0, out, h => by
    have hw : wrap64 (Int.tdiv (i : Int) 16) = ((i / 16 : Nat) : Int) := by
      rw [show Int.tdiv (i : Int) 16 = ((i / 16 : Nat) : Int) from rfl]; simp only [wrap64]; omega
    show B.haspref08_Heap_Pages.l1 (k0 + 1) out (i : Int) sl la = _
    unfold B.haspref08_Heap_Pages.l1
    rw [hw, if_neg (by omega), if_pos (by omega), if_pos (by omega), Int.toNat_natCast, List.replicate_zero, List.append_nil]
  | t + 1, out, h => by
    have hw : wrap64 (Int.tdiv (i : Int) 16) = ((i / 16 : Nat) : Int) := by
      rw [show Int.tdiv (i : Int) 16 = ((i / 16 : Nat) : Int) from rfl]; simp only [wrap64]; omega
    show B.haspref08_Heap_Pages.l1 (k0 + 1 + t + 1) out (i : Int) sl la = _
    unfold B.haspref08_Heap_Pages.l1
    rw [hw, if_pos (by omega), if_pos (by omega), l1_l sl la i k0 hi t (out ++ [0]) (by rw [List.length_append, List.length_singleton]; omega)]
    rw [List.append_assoc, show [(0 : Int)] ++ List.replicate t 0 = List.replicate (t + 1) 0 from rfl]
theorem pg_free {sl : List S51} {i : Nat} (h : idA sl i = 0) : pgL sl (i + 1) = pgL sl i := by
  unfold pgL
  have h1 : topP sl (i + 1) = topP sl i := by show (if idA sl i = 0 then _ else _) = _; rw [if_pos h]
  have h2 : occ sl (i + 1) = occ sl i := by rw [occ_succ, if_neg (by omega), List.append_nil]
  rw [h1, h2]
theorem pg_taken {sl : List S51} {i t : Nat} (h : idA sl i > 0) (ht : (pgL sl i).length + t = i / 16 + 1) (hi : i ≤ 4000000000000) :
    (pgL sl i ++ List.replicate t 0).set (i / 16) (wrap64 (rd (pgL sl i ++ List.replicate t 0) ((i / 16 : Nat) : Int) + 1)) = pgL sl (i + 1) := by
  have h1 : topP sl (i + 1) = i + 1 := by show (if idA sl i = 0 then _ else _) = _; rw [if_neg (by omega)]
  have h2 : occ sl (i + 1) = occ sl i ++ [i] := by rw [occ_succ, if_pos h]
  have key : ∀ j, j < i / 16 + 1 → (pgL sl i ++ List.replicate t 0)[j]? = some (((occ sl i).countP fun k => decide (k / 16 = j) : Nat) : Int) := by
    intro j hj
    rcases Nat.lt_or_ge j (pgL sl i).length with h3 | h3
    · rw [List.getElem?_append_left h3, List.getElem?_eq_getElem h3]
      simp [pgL]
    · rw [List.getElem?_append_right h3, List.getElem?_replicate, if_pos (by omega)]
      have : (occ sl i).countP (fun k => decide (k / 16 = j)) = 0 := List.countP_eq_zero.2 fun k hk => by
        obtain ⟨k1, k2⟩ := occ_mem.1 hk
        have := occ_top k1 k2
        rw [pgL_len] at h3
        simp; omega
      rw [this]; rfl
  have hlen : (pgL sl i ++ List.replicate t 0).length = i / 16 + 1 := by rw [List.length_append, List.length_replicate]; exact ht
  have hrd : rd (pgL sl i ++ List.replicate t 0) ((i / 16 : Nat) : Int) = (((occ sl i).countP fun k => decide (k / 16 = i / 16) : Nat) : Int) := by
    unfold rd
    rw [Int.toNat_natCast, List.getD, key _ (by omega)]; rfl
  have hcnt : ∀ j, (occ sl (i + 1)).countP (fun k => decide (k / 16 = j)) = (occ sl i).countP (fun k => decide (k / 16 = j)) + if i / 16 = j then 1 else 0 := by
    intro j
    rw [h2, List.countP_append, List.countP_singleton]
    congr 1
    by_cases e : i / 16 = j
    · rw [if_pos e, decide_eq_true e]; rfl
    · rw [if_neg e, decide_eq_false e]; rfl
  have hocl : (occ sl i).countP (fun k => decide (k / 16 = i / 16)) ≤ i := by
    have a1 : (occ sl i).countP (fun k => decide (k / 16 = i / 16)) ≤ (occ sl i).length := List.countP_le_length
    have a2 : (occ sl i).length ≤ (List.range i).length := List.length_filter_le _ _
    rw [List.length_range] at a2; omega
  apply List.ext_getElem?
  intro j
  rw [List.getElem?_set, hlen]
  have hpl : (pgL sl (i + 1)).length = i / 16 + 1 := by rw [pgL_len, h1]; omega
  by_cases e : i / 16 = j
  · subst e
    rw [if_pos rfl, if_pos (by omega), hrd, List.getElem?_eq_getElem (by rw [hpl]; omega)]
    simp only [pgL, List.getElem_map, List.getElem_range, hcnt, if_pos]
    congr 1
    simp only [wrap64]; omega
  · rw [if_neg e]
    rcases Nat.lt_or_ge j (i / 16 + 1) with h3 | h3
    · rw [key j h3, List.getElem?_eq_getElem (by rw [hpl]; exact h3)]
      simp only [pgL, List.getElem_map, List.getElem_range, hcnt, if_neg e]
      rfl
    · rw [List.getElem?_eq_none (by rw [hlen]; exact h3), List.getElem?_eq_none (by rw [hpl]; exact h3)]
theorem pages_l (sl : List S51) (la : Int) (hl : sl.length ≤ 4000000000000) (hid : ∀ j, 0 ≤ idA sl j) : ∀ (m i : Nat), i + m = sl.length → ∃ k, B.haspref08_Heap_Pages.l0 k (pgL sl i) (i : Int) sl la = some (pgL sl sl.length, la)
  | 0, i, h => by
    refine ⟨1, ?_⟩
    unfold B.haspref08_Heap_Pages.l0
    rw [if_neg (by omega)]
    have : i = sl.length := by omega
    rw [this]
  | m + 1, i, h => by
    have hw : wrap64 ((i : Int) + 1) = ((i + 1 : Nat) : Int) := by simp only [wrap64]; omega
    obtain ⟨k0, hk⟩ := pages_l sl la hl hid m (i + 1) (by omega)
    by_cases h0 : idA sl i = 0
    · refine ⟨k0 + 1, ?_⟩
      unfold B.haspref08_Heap_Pages.l0
      rw [if_pos (by omega), rd51, hw, if_pos (by omega), if_pos h0, ← pg_free h0]
      exact hk
    · have h1 : idA sl i > 0 := by have := hid i; omega
      have hle : (pgL sl i).length ≤ i / 16 + 1 := by rw [pgL_len]; have := top_le sl i; omega
      obtain ⟨t, ht⟩ : ∃ t, (pgL sl i).length + t = i / 16 + 1 := ⟨i / 16 + 1 - (pgL sl i).length, by omega⟩
      refine ⟨k0 + 1 + t + 1, ?_⟩
      unfold B.haspref08_Heap_Pages.l0
      rw [if_pos (by omega), rd51, if_pos (by omega), if_neg h0, l1_l sl la i k0 (by omega) t _ ht, pg_taken h1 ht (by omega), hw]
      exact hk
end Go.Proofs.Ytgbjilcfgpbcgaa
