import Derived.Test.YtgbjilcfgpbcgaaZpH26
/- Layer 8: the calls keep what the two heaps have in common. -/
namespace Go.Proofs.Ytgbjilcfgpbcgaa
open Go.RowKit Go.Proofs.YtgbjilcfgpbcgaaW.PrintWords
set_option linter.unusedSimpArgs false
set_option linter.unusedVariables false
/-- j is the first free slot, or one behind all. -/
structure FirstFree (sl : List S51) (j : Nat) : Prop where
  le : j ≤ sl.length
  none : ∀ i, i < j → idA sl i ≠ 0
  free : j < sl.length → idA sl j = 0
theorem FirstFree.eq {sl : List S51} {j k : Nat} (h : FirstFree sl j) (h2 : FirstFree sl k) : j = k := by
  rcases Nat.lt_trichotomy j k with h3 | h3 | h3
  · exact absurd (h.free (Nat.lt_of_lt_of_le h3 h2.le)) (h2.none j h3)
  · exact h3
  · exact absurd (h2.free (Nat.lt_of_lt_of_le h3 h.le)) (h.none k h3)
/-- A row is laid into slot j. -/
def layR (sl : List S51) (j : Nat) (x : S51) : List S51 := if j < sl.length then sl.set j x else sl ++ [x]
theorem layR_get (sl : List S51) (j : Nat) (x : S51) (hj : j ≤ sl.length) (i : Nat) : (layR sl j x).getD i B.z51 = if i = j then x else sl.getD i B.z51 := by
  unfold layR
  split
  · next h =>
    simp only [List.getD, List.getElem?_set]
    by_cases e : i = j
    · subst e; rw [if_pos rfl, if_pos rfl, if_pos h]; rfl
    · rw [if_neg e, if_neg (fun q => e q.symm)]
  · next h =>
    have : j = sl.length := by omega
    subst this
    simp only [List.getD]
    rcases Nat.lt_trichotomy i sl.length with h3 | h3 | h3
    · rw [List.getElem?_append_left h3, if_neg (by omega)]
    · subst h3; rw [if_pos rfl]; simp
    · rw [if_neg (by omega), List.getElem?_eq_none (by simp; omega), List.getElem?_eq_none (by omega)]
theorem layR_len (sl : List S51) (j : Nat) (x : S51) (hj : j ≤ sl.length) : sl.length ≤ (layR sl j x).length ∧ j < (layR sl j x).length ∧ (layR sl j x).length ≤ sl.length + 1 := by
  unfold layR
  split
  · next h => rw [List.length_set]; omega
  · next h => rw [List.length_append, List.length_singleton]; omega
theorem slot_first {N : Int} {S : St} (hI : Inv N S) {sl : List S51} (h : Rel S sl) : FirstFree sl (slotP S).1.toNat ∧ 0 ≤ (slotP S).1 := by
  have hlen := h.len
  have hcnt := hI.cnt
  have taken : ∀ i : Nat, (i : Int) < S.edge → (i : Int) ∉ S.free → idA sl i ≠ 0 := fun i h1 h2 => by
    rcases covered hI (j := (i : Int)) (by omega) h1 with ⟨e, he, h3⟩ | h3
    · obtain ⟨j, h4, h5, h6⟩ := h.at_ e he
      have : j = i := by omega
      subst this
      have h7 := (hI.idr e he).1
      unfold idA
      rw [h6]
      show e.id ≠ 0
      omega
    · exact absurd h3 h2
  unfold slotP
  cases hf : S.free with
  | nil =>
    dsimp only
    rw [hf] at taken hcnt
    simp at hcnt
    refine ⟨⟨by omega, fun i hi => taken i (by omega) (by simp), fun hj => h.free _ hj fun e he => ?_⟩, by omega⟩
    have := hI.sl e he
    omega
  | cons s r =>
    dsimp only
    have hs := hI.frr s (by rw [hf]; exact List.mem_cons_self)
    have hp := hI.free
    rw [hf] at hp
    obtain ⟨h1, _⟩ := List.pairwise_cons.1 hp
    refine ⟨⟨by omega, fun i hi => taken i (by omega) fun hm => ?_, fun hj => h.free _ hj fun e he q => ?_⟩, hs.1⟩
    · rw [hf] at hm
      rcases List.mem_cons.1 hm with h2 | h2
      · omega
      · have := h1 _ h2; omega
    · have := (hI.sl e he).2.2
      rw [hf, q] at this
      exact this (by rw [Int.toNat_of_nonneg hs.1]; exact List.mem_cons_self)
theorem rel_lay {N : Int} {S : St} (hI : Inv N S) {sl : List S51} (h : Rel S sl) (id : Int) (row : List Int) {j : Nat} (hj : FirstFree sl j) : Rel (layP S id row) (layR sl j ⟨id, row⟩) := by
  obtain ⟨h1, h0⟩ := slot_first hI h
  have hjs : (slotP S).1 = (j : Int) := by have := h1.eq hj; omega
  obtain ⟨l1, l2, l3⟩ := layR_len sl j ⟨id, row⟩ hj.le
  obtain ⟨s0, s1, s2, s3, s4, s5, s6, s7, s8⟩ := slot_inv hI
  refine ⟨fun e he => ?_, fun i hi hn => ?_, ?_⟩
  · rcases (mem_insAt _ _ _ _).1 he with rfl | he
    · exact ⟨j, hjs, l2, by rw [layR_get sl j _ hj.le, if_pos rfl]⟩
    · obtain ⟨i, h2, h3, h4⟩ := h.at_ e he
      have := s3 e he
      exact ⟨i, h2, by omega, by rw [layR_get sl j _ hj.le, if_neg (by omega)]; exact h4⟩
  · have hij : i ≠ j := fun e => hn ⟨id, row, (slotP S).1⟩ ((mem_insAt _ _ _ _).2 (.inl rfl)) (by rw [e]; exact hjs)
    unfold idA
    rw [layR_get sl j _ hj.le, if_neg hij]
    rcases Nat.lt_or_ge i sl.length with h2 | h2
    · exact h.free i h2 fun e he => hn e ((mem_insAt _ _ _ _).2 (.inr he))
    · have : sl.getD i B.z51 = B.z51 := by simp [List.getD, List.getElem?_eq_none h2]
      rw [this]; rfl
  · show (slotP S).2.edge ≤ _
    have := h.len
    rcases Nat.lt_or_ge j sl.length with h2 | h2
    · unfold slotP at hjs ⊢
      cases hf : S.free with
      | nil =>
        rw [hf] at hjs
        dsimp only at hjs ⊢
        omega
      | cons s r => dsimp only; omega
    · omega
theorem rel_drop {N : Int} {S : St} (hI : Inv N S) {sl : List S51} (h : Rel S sl) {id : Int} {x : Ent} (hf : findP S id = some x) {j : Nat} (hj : x.slot = (j : Int)) : Rel (dropP S id) (sl.set j ⟨0, []⟩) := by
  have hm := mem_drop hI hf
  obtain ⟨x1, x2⟩ := find_some hf
  have hg : ∀ i, (sl.set j ⟨0, []⟩).getD i B.z51 = if i = j ∧ j < sl.length then ⟨0, []⟩ else sl.getD i B.z51 := fun i => by
    simp only [List.getD, List.getElem?_set]
    by_cases e : j = i
    · subst e
      by_cases h3 : j < sl.length
      · rw [if_pos rfl, if_pos h3, if_pos ⟨rfl, h3⟩]; rfl
      · rw [if_pos rfl, if_neg h3, if_neg (fun q => h3 q.2), List.getElem?_eq_none (by omega)]
    · rw [if_neg e, if_neg (fun q => e q.1.symm)]
  refine ⟨fun e he => ?_, fun i hi hn => ?_, ?_⟩
  · obtain ⟨h1, h2⟩ := (hm e).1 he
    obtain ⟨i, h3, h4, h5⟩ := h.at_ e h1
    have hne : i ≠ j := fun q => h2 (by
      have : e = x := slot_inj hI.dis h1 x1 (by omega)
      rw [this, x2])
    exact ⟨i, h3, by rw [List.length_set]; exact h4, by rw [hg, if_neg (fun q => hne q.1)]; exact h5⟩
  · rw [List.length_set] at hi
    unfold idA
    rw [hg]
    by_cases e : i = j
    · subst e; rw [if_pos ⟨rfl, hi⟩]
    · rw [if_neg (fun q => e q.1)]
      refine h.free i hi fun u hu q => ?_
      by_cases hid : u.id = id
      · have : u = x := id_inj (hI.ids.imp fun h => Int.ne_of_lt h) hu x1 (by rw [hid, x2])
        rw [this] at q; omega
      · exact hn u ((hm u).2 ⟨hu, hid⟩) q
  · rw [List.length_set]
    have h1 := h.len
    have h2 : (dropP S id).edge ≤ S.edge := by
      unfold dropP
      rw [hf]
      have hsx := hI.sl x x1
      exact (trim_spec _ _ S.edge rfl (ins_sorted x.slot S.free hI.free hsx.2.2) fun y hy => by
        rcases (mem_insAt _ _ _ _).1 hy with rfl | hy
        · exact ⟨hsx.1, hsx.2.1⟩
        · exact hI.frr y hy).2.2.2.2
    omega
theorem rel_set {N : Int} {S : St} (hI : Inv N S) {sl : List S51} (h : Rel S sl) {id : Int} {x : Ent} (hf : findP S id = some x) {j : Nat} (hj : x.slot = (j : Int)) (row : List Int) : Rel (setP S id row) (sl.set j ⟨id, row⟩) := by
  obtain ⟨x1, x2⟩ := find_some hf
  have hg : ∀ i, (sl.set j ⟨id, row⟩).getD i B.z51 = if i = j ∧ j < sl.length then ⟨id, row⟩ else sl.getD i B.z51 := fun i => by
    simp only [List.getD, List.getElem?_set]
    by_cases e : j = i
    · subst e
      by_cases h3 : j < sl.length
      · rw [if_pos rfl, if_pos h3, if_pos ⟨rfl, h3⟩]; rfl
      · rw [if_pos rfl, if_neg h3, if_neg (fun q => h3 q.2), List.getElem?_eq_none (by omega)]
    · rw [if_neg e, if_neg (fun q => e q.1.symm)]
  refine ⟨fun e he => ?_, fun i hi hn => ?_, by rw [List.length_set]; exact h.len⟩
  · obtain ⟨u, hu, rfl⟩ := List.mem_map.1 he
    obtain ⟨i, h3, h4, h5⟩ := h.at_ u hu
    by_cases e1 : u.id = id
    · rw [if_pos e1]
      have : u = x := id_inj (hI.ids.imp fun h => Int.ne_of_lt h) hu x1 (by rw [e1, x2])
      subst this
      have : i = j := by omega
      subst this
      exact ⟨i, hj, by rw [List.length_set]; exact h4, by rw [hg, if_pos ⟨rfl, h4⟩, ← e1]⟩
    · rw [if_neg e1]
      refine ⟨i, h3, by rw [List.length_set]; exact h4, ?_⟩
      rw [hg, if_neg, h5]
      rintro ⟨rfl, _⟩
      have : u = x := slot_inj hI.dis hu x1 (by omega)
      exact e1 (by rw [this, x2])
  · rw [List.length_set] at hi
    have h1 : ∀ e ∈ S.ents, e.slot ≠ (i : Int) := fun e he q => by
      refine hn (reRow id row e) (List.mem_map_of_mem he) ?_
      rw [(reRow_id id row e).2]; exact q
    unfold idA
    rw [hg, if_neg]
    · exact h.free i hi h1
    · rintro ⟨rfl, _⟩
      exact h1 x x1 hj
end Go.Proofs.Ytgbjilcfgpbcgaa
