import Derived.Test.YtgbjilcfgpbcgaaZwH18
/- Layer 8: the plain law of HeapWalks. -/
namespace Go.Proofs.Ytgbjilcfgpbcgaa
open Go.RowKit Go.Proofs.YtgbjilcfgpbcgaaW.PrintWords
set_option linter.unusedSimpArgs false
set_option linter.unusedVariables false
theorem and_low (m : Int) (c : Nat) (hc : c < 9223372036854775808) : ∃ k : Nat, bits .and .i64 m (c : Int) = (k : Int) ∧ k ≤ c := by
  refine ⟨(BitVec.ofInt 64 m).toNat &&& c, ?_, Nat.and_le_right⟩
  have h1 : (BitVec.ofInt 64 (c : Int)).toNat = c := by
    rw [BitVec.ofInt_natCast, BitVec.toNat_ofNat]
    exact Nat.mod_eq_of_lt (by omega)
  have h2 : (BitVec.ofInt 64 m).toNat &&& c ≤ c := Nat.and_le_right
  show IntKind.i64.wrap (((BitVec.ofInt 64 m &&& BitVec.ofInt 64 (c : Int)).toNat : Nat) : Int) = _
  rw [BitVec.toNat_and, h1, IntKind.wrap_i64]
  omega
theorem find_mem {S : St} {y : Int} (h : y ∈ S.ids) : ∃ x, findP S y = some x := by
  obtain ⟨e, he, h2⟩ := List.mem_map.1 h
  cases hf : findP S y with
  | some x => exact ⟨x, rfl⟩
  | none => exact absurd h (find_none hf)
theorem count_at : ∀ (xs : List Int) (k : Nat) (y : Int), xs.Pairwise (· < ·) → xs[k]? = some y → xs.countP (fun x => decide (x ≤ y)) = k + 1
  | [], k, y, _, h => by simp at h
  | a :: r, 0, y, hp, h => by
    obtain rfl : a = y := by simpa using h
    obtain ⟨h1, h2⟩ := List.pairwise_cons.1 hp
    rw [List.countP_cons, decide_eq_true (Int.le_refl a), if_pos rfl]
    have : r.countP (fun x => decide (x ≤ a)) = 0 := List.countP_eq_zero.2 fun x hx => by have := h1 x hx; simp; omega
    rw [this]
  | a :: r, k + 1, y, hp, h => by
    obtain ⟨h1, h2⟩ := List.pairwise_cons.1 hp
    have h3 : r[k]? = some y := by simpa using h
    have h4 := h1 y (List.mem_of_getElem? h3)
    rw [List.countP_cons, decide_eq_true (by omega), if_pos rfl, count_at r k y h2 h3]
/-- How many numbers are not above one. -/
def metP (S : St) (a : Int) : Nat := S.ids.countP fun x => decide (x ≤ a)
theorem met_le (S : St) (a : Int) : metP S a ≤ S.ents.length := by
  have : metP S a ≤ S.ids.length := List.countP_le_length
  rwa [List.length_map] at this
theorem met_zero {N : Int} {S : St} (hI : Inv N S) : metP S 0 = 0 := List.countP_eq_zero.2 fun x hx => by
  obtain ⟨e, he, rfl⟩ := List.mem_map.1 hx
  have := (hI.idr e he).1
  simp; omega
theorem beh_some {N : Int} {S : St} (hI : Inv N S) {a y : Int} (h : behP S a = some y) : y ∈ S.ids ∧ a < y ∧ metP S y = metP S a + 1 := by
  have h1 := List.mem_of_find?_eq_some h
  have h2 := List.find?_some h
  refine ⟨h1, by simpa using h2, ?_⟩
  unfold behP at h
  rw [find_gt a S.ids hI.ids] at h
  exact count_at S.ids _ y hI.ids h
theorem beh_none {N : Int} {S : St} (hI : Inv N S) {a : Int} (h : behP S a = none) : metP S a = S.ents.length := by
  unfold behP at h
  rw [find_gt a S.ids hI.ids] at h
  have h1 : S.ids.length ≤ metP S a := by
    rcases Nat.lt_or_ge (metP S a) S.ids.length with h2 | h2
    · have h3 : S.ids[S.ids.countP fun x => decide (x ≤ a)]? = some S.ids[S.ids.countP fun x => decide (x ≤ a)] := List.getElem?_eq_getElem h2
      rw [h3] at h; cases h
    · exact h2
  rw [List.length_map] at h1
  have := met_le S a
  omega
/-- How many rows lie in the first pages. -/
def pgP (S : St) (i : Nat) : Nat := S.ents.countP fun e : Ent => decide (e.slot / 16 < (i : Int))
theorem count_split (E : List Ent) (i : Int) : E.countP (fun e : Ent => decide (e.slot / 16 < i + 1)) = E.countP (fun e : Ent => decide (e.slot / 16 < i)) + E.countP (fun e : Ent => decide (e.slot / 16 = i)) := by
  induction E with
  | nil => rfl
  | cons a r ih =>
    rw [List.countP_cons, List.countP_cons, List.countP_cons, ih]
    by_cases h1 : a.slot / 16 < i
    · rw [decide_eq_true h1, decide_eq_true (show a.slot / 16 < i + 1 by omega), decide_eq_false (show ¬ a.slot / 16 = i by omega)]; simp; omega
    · by_cases h2 : a.slot / 16 = i
      · rw [decide_eq_false h1, decide_eq_true (show a.slot / 16 < i + 1 by omega), decide_eq_true h2]; simp; omega
      · rw [decide_eq_false h1, decide_eq_false (show ¬ a.slot / 16 < i + 1 by omega), decide_eq_false h2]; simp
theorem pages_len (S : St) : (pagesP S).length = pagesN S := by simp [pagesP]
theorem pages_rd (S : St) {i : Nat} (h : i < pagesN S) : rdOf 0 (pagesP S) (i : Int) = ((S.ents.countP (fun e : Ent => decide (e.slot / 16 = (i : Int))) : Nat) : Int) := by
  simp [rdOf, pagesP, h]
theorem pages_step (S : St) {i : Nat} (h : i < pagesN S) : (pgP S i : Int) + rdOf 0 (pagesP S) (i : Int) = (pgP S (i + 1) : Int) := by
  rw [pages_rd S h]
  have := count_split S.ents (i : Int)
  unfold pgP
  rw [show ((i + 1 : Nat) : Int) = (i : Int) + 1 from rfl, this]
  omega
theorem pg_zero {N : Int} {S : St} (hI : Inv N S) : pgP S 0 = 0 := List.countP_eq_zero.2 fun e he => by
  have := (hI.sl e he).1
  simp; omega
theorem pg_end {N : Int} {S : St} (hI : Inv N S) : pgP S (pagesN S) = S.ents.length := List.countP_eq_length.2 fun e he => by
  have := hI.sl e he
  simp only [decide_eq_true_eq]
  unfold pagesN
  omega
theorem pg_le (S : St) (i : Nat) : pgP S i ≤ S.ents.length := List.countP_le_length
/-- Each row is the one byte of its number. -/
def RowsAre (S : St) : Prop := ∀ e ∈ S.ents, e.row = [e.id - 1]
theorem rows_add {S : St} (h : RowsAre S) : RowsAre (addP S [S.last]) := fun e he => by
  rcases (mem_insAt _ _ _ _).1 he with rfl | he
  · show [S.last] = [S.last + 1 - 1]
    rw [Int.add_sub_cancel]
  · exact h e he
theorem rows_drop {N : Int} {S : St} (hI : Inv N S) (h : RowsAre S) (id : Int) : RowsAre (dropP S id) := fun e he => by
  cases hf : findP S id with
  | none => rw [drop_none hf] at he; exact h e he
  | some x => exact h e ((mem_drop hI hf e).1 he).1
theorem add_last (S : St) (row : List Int) : (addP S row).last = S.last + 1 := lay_last { S with last := S.last + 1 } (S.last + 1) row
end Go.Proofs.Ytgbjilcfgpbcgaa
