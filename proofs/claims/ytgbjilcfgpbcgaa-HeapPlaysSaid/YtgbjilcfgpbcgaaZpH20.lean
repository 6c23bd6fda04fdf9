import Derived.Test.YtgbjilcfgpbcgaaZpH18
/- Layer 8: the plain law of HeapWalks. -/
namespace Go.Proofs.Ytgbjilcfgpbcgaa
open Go.RowKit Go.Proofs.YtgbjilcfgpbcgaaW.PrintWords
set_option linter.unusedSimpArgs false
set_option linter.unusedVariables false
theorem and_low (m : Int) (c : Nat) (hc : c < 9223372036854775808) : ∃ k : Nat, bits .and .i64 m (c : Int) = (k : Int) ∧ k ≤ c := by
  refine ⟨(BitVec.ofInt 64 m).toNat &&& c, ?_, Nat.and_le_right⟩
  have h1 : (BitVec.ofInt 64 (c : Int)).toNat = c := by
    rw [BitVec.ofInt_natCast, BitVec.toNat_ofNat]
    exact Nat.mod_eq_of_lt (by omega)
  have h2 : (BitVec.ofInt 64 m).toNat &&& c ≤ c := Nat.and_le_right
  show IntKind.i64.wrap (((BitVec.ofInt 64 m &&& BitVec.ofInt 64 (c : Int)).toNat : Nat) : Int) = _
  rw [BitVec.toNat_and, h1, IntKind.wrap_i64]
  omega
theorem find_mem {S : St} {y : Int} (h : y ∈ S.ids) : ∃ x, findP S y = some x := by
  obtain ⟨e, he, h2⟩ := List.mem_map.1 h
  cases hf : findP S y with
  | some x => exact ⟨x, rfl⟩
  | none => exact absurd h (find_none hf)
theorem count_at : ∀ (xs : List Int) (k : Nat) (y : Int), xs.Pairwise (· < ·) → xs[k]? = some y → xs.countP (fun x => decide (x ≤ y)) = k + 1
  | [], k, y, _, h => by simp at h
  | a :: r, 0, y, hp, h => by
    obtain rfl : a = y := by simpa using h
    obtain ⟨h1, h2⟩ := List.pairwise_cons.1 hp
    rw [List.countP_cons, decide_eq_true (Int.le_refl a), if_pos rfl]
    have : r.countP (fun x => decide (x ≤ a)) = 0 := List.countP_eq_zero.2 fun x hx => by have := h1 x hx; simp; omega
    rw [this]
  | a :: r, k + 1, y, hp, h => by
    obtain ⟨h1, h2⟩ := List.pairwise_cons.1 hp
    have h3 : r[k]? = some y := by simpa using h
    have h4 := h1 y (List.mem_of_getElem? h3)
    rw [List.countP_cons, decide_eq_true (by omega), if_pos rfl, count_at r k y h2 h3]
/-- How many numbers are not above one. -/
def metP (S : St) (a : Int) : Nat := S.ids.countP fun x => decide (x ≤ a)
theorem beh_some {N : Int} {S : St} (hI : Inv N S) {a y : Int} (h : behP S a = some y) : y ∈ S.ids ∧ a < y ∧ metP S y = metP S a + 1 := by
  have h1 := List.mem_of_find?_eq_some h
  have h2 := List.find?_some h
  refine ⟨h1, by simpa using h2, ?_⟩
  unfold behP at h
  rw [find_gt a S.ids hI.ids] at h
  exact count_at S.ids _ y hI.ids h
theorem pages_len (S : St) : (pagesP S).length = pagesN S := by simp [pagesP]
theorem add_last (S : St) (row : List Int) : (addP S row).last = S.last + 1 := lay_last { S with last := S.last + 1 } (S.last + 1) row
end Go.Proofs.Ytgbjilcfgpbcgaa
