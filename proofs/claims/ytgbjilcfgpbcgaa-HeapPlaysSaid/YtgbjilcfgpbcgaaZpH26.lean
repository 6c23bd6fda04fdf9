import Derived.Test.YtgbjilcfgpbcgaaZpH25
/- Layer 8: what the heap and the reference's heap have in common, and that the calls keep it. -/
namespace Go.Proofs.Ytgbjilcfgpbcgaa
open Go.RowKit Go.Proofs.YtgbjilcfgpbcgaaW.PrintWords
set_option linter.unusedSimpArgs false
set_option linter.unusedVariables false
/-- The last slot below the edge is taken. -/
def Trim (S : St) : Prop := S.edge - 1 ∉ S.free
theorem trim_zero : Trim S0 := by unfold Trim; simp
theorem trim_lay {N : Int} {S : St} (hI : Inv N S) (h : Trim S) (id : Int) (row : List Int) : Trim (layP S id row) := by
  unfold Trim at *
  show (slotP S).2.edge - 1 ∉ (slotP S).2.free
  unfold slotP
  cases hf : S.free with
  | nil => simp
  | cons s r =>
    rw [hf] at h
    exact fun hm => h (List.mem_cons_of_mem _ hm)
theorem trim_end : ∀ (n : Nat) (f : List Int) (e : Int), f.length = n → f.Pairwise (· < ·) → (∀ y ∈ f, y < e) → (trimN n f e).2 - 1 ∉ (trimN n f e).1
  | 0, f, e, hl, _, _ => by
    have : f = [] := List.length_eq_zero_iff.1 hl
    subst this; unfold trimN; simp
  | n + 1, f, e, hl, hp, hr => by
    unfold trimN
    have hg : f.getD n 0 = f[n] := by simp [List.getD, show n < f.length by omega]
    have hf : f = f.take n ++ [f[n]] := by
      have h1 := List.take_append_drop n f
      rw [List.drop_eq_getElem_cons (show n < f.length by omega), List.drop_eq_nil_of_le (show f.length ≤ n + 1 by omega)] at h1
      exact h1.symm
    have hlast : ∀ y ∈ f.take n, y < f[n] := fun y hy => by
      rw [hf] at hp
      exact (List.pairwise_append.1 hp).2.2 y hy _ (List.mem_singleton.2 rfl)
    by_cases h : f.getD n 0 = e - 1
    · rw [if_pos h]
      rw [hg] at h
      exact trim_end n (f.take n) (e - 1) (by rw [List.length_take]; omega) (hp.sublist (List.take_sublist _ _)) fun y hy => by have := hlast y hy; omega
    · rw [if_neg h]
      intro hm
      have hm : e - 1 ∈ f := hm
      rw [hg] at h
      rw [hf] at hm
      rcases List.mem_append.1 hm with hm | hm
      · have h1 := hlast _ hm
        have h2 := hr f[n] (List.getElem_mem _)
        omega
      · exact h (List.mem_singleton.1 hm).symm
theorem trim_drop {N : Int} {S : St} (hI : Inv N S) (h : Trim S) (id : Int) : Trim (dropP S id) := by
  cases hf : findP S id with
  | none => rw [drop_none hf]; exact h
  | some x =>
    obtain ⟨hx, hxid⟩ := find_some hf
    have hsx := hI.sl x hx
    unfold Trim dropP
    rw [hf]
    exact trim_end _ _ _ rfl (ins_sorted x.slot S.free hI.free hsx.2.2) fun y hy => by
      rcases (mem_insAt _ _ _ _).1 hy with rfl | hy
      · exact hsx.2.1
      · exact (hI.frr y hy).2
/-- Numbers below n, none twice, n of them: each is there. -/
theorem nodup_le : ∀ (n : Nat) (L : List Nat), L.Nodup → (∀ x ∈ L, x < n) → L.length ≤ n
  | 0, L, _, h => by
    cases L with
    | nil => exact Nat.le_refl _
    | cons a r => exact absurd (h a List.mem_cons_self) (by omega)
  | n + 1, L, hd, h => by
    have h1 : (L.erase n).length ≤ n := nodup_le n (L.erase n) (hd.erase n) fun x hx => by
      have h2 := (hd.mem_erase_iff).1 hx
      have := h x h2.2
      have := h2.1
      omega
    rw [List.length_erase] at h1
    split at h1 <;> omega
theorem nodup_all {n : Nat} {L : List Nat} (hd : L.Nodup) (h : ∀ x ∈ L, x < n) (hl : n ≤ L.length) {j : Nat} (hj : j < n) : j ∈ L := by
  by_cases hm : j ∈ L
  · exact hm
  · have := nodup_le n (j :: L) (List.nodup_cons.2 ⟨hm, hd⟩) fun x hx => by
      rcases List.mem_cons.1 hx with rfl | hx
      · exact hj
      · exact h x hx
    rw [List.length_cons] at this
    omega
/-- Each slot below the edge is taken or free. -/
theorem covered {N : Int} {S : St} (hI : Inv N S) {j : Int} (h0 : 0 ≤ j) (h1 : j < S.edge) : (∃ e ∈ S.ents, e.slot = j) ∨ j ∈ S.free := by
  have hnd : ((S.ents.map Ent.slot ++ S.free).map Int.toNat).Nodup := by
    have h2 : (S.ents.map Ent.slot ++ S.free).Nodup := List.nodup_append.2 ⟨hI.dis, hI.free.imp fun h => Int.ne_of_lt h, fun a ha b hb => by
      obtain ⟨e, he, rfl⟩ := List.mem_map.1 ha
      exact fun q => (hI.sl e he).2.2 (q ▸ hb)⟩
    have h3 : ∀ x ∈ S.ents.map Ent.slot ++ S.free, 0 ≤ x := fun x hx => by
      rcases List.mem_append.1 hx with hx | hx
      · obtain ⟨e, he, rfl⟩ := List.mem_map.1 hx
        exact (hI.sl e he).1
      · exact (hI.frr x hx).1
    refine List.pairwise_map.2 (h2.imp_of_mem fun {a b} ha hb hne => ?_)
    have := h3 a ha
    have := h3 b hb
    omega
  have hm : j.toNat ∈ (S.ents.map Ent.slot ++ S.free).map Int.toNat := by
    refine nodup_all (n := S.edge.toNat) hnd (fun x hx => ?_) ?_ (by omega)
    · obtain ⟨y, hy, rfl⟩ := List.mem_map.1 hx
      rcases List.mem_append.1 hy with hy | hy
      · obtain ⟨e, he, rfl⟩ := List.mem_map.1 hy
        have := hI.sl e he
        omega
      · have := hI.frr y hy
        omega
    · rw [List.length_map, List.length_append, List.length_map]
      have := hI.cnt
      omega
  obtain ⟨y, hy, hyj⟩ := List.mem_map.1 hm
  rcases List.mem_append.1 hy with hy | hy
  · obtain ⟨e, he, rfl⟩ := List.mem_map.1 hy
    have := hI.sl e he
    exact .inl ⟨e, he, by omega⟩
  · have := hI.frr y hy
    have : y = j := by omega
    exact .inr (this ▸ hy)
/-- The reference's slots sl are those of S. -/
structure Rel (S : St) (sl : List S51) : Prop where
  at_ : ∀ e ∈ S.ents, ∃ j : Nat, e.slot = (j : Int) ∧ j < sl.length ∧ sl.getD j B.z51 = ⟨e.id, e.row⟩
  free : ∀ j, j < sl.length → (∀ e ∈ S.ents, e.slot ≠ (j : Int)) → idA sl j = 0
  len : S.edge ≤ sl.length
theorem rel_zero : Rel S0 [] := ⟨fun e he => (by cases he), fun j hj => (by simp at hj), (by decide)⟩
theorem rel_id {N : Int} {S : St} (hI : Inv N S) {sl : List S51} (h : Rel S sl) (j : Nat) (hj : j < sl.length) : idA sl j = 0 ∨ ∃ e ∈ S.ents, e.slot = (j : Int) ∧ sl.getD j B.z51 = ⟨e.id, e.row⟩ := by
  by_cases he : ∃ e ∈ S.ents, e.slot = (j : Int)
  · obtain ⟨e, he, h1⟩ := he
    obtain ⟨j', h2, h3, h4⟩ := h.at_ e he
    have : j' = j := by omega
    subst this
    exact .inr ⟨e, he, h1, h4⟩
  · exact .inl (h.free j hj fun e hm hq => he ⟨e, hm, hq⟩)
theorem rel_pos {N : Int} {S : St} (hI : Inv N S) {sl : List S51} (h : Rel S sl) (j : Nat) : 0 ≤ idA sl j := by
  rcases Nat.lt_or_ge j sl.length with hj | hj
  · rcases rel_id hI h j hj with h1 | ⟨e, he, _, h2⟩
    · rw [h1]; exact Int.le_refl _
    · unfold idA; rw [h2]; have := (hI.idr e he).1; show 0 ≤ e.id; omega
  · have : sl.getD j B.z51 = B.z51 := by simp [List.getD, List.getElem?_eq_none hj]
    unfold idA; rw [this]; exact Int.le_refl 0
theorem find_rel {N : Int} {S : St} (hI : Inv N S) {sl : List S51} (h : Rel S sl) {id r : Int} (hr : FindRes sl id r) : r = (findP S id).elim (-1) Ent.slot := by
  rcases hr with ⟨j, hj, rfl, h0, h1⟩ | ⟨rfl, hr⟩
  · rcases rel_id hI h j hj with h2 | ⟨e, he, h2, h3⟩
    · rw [h2] at h1; omega
    · unfold idA at h1
      rw [h3] at h1
      have h4 : e.id = id := h1
      obtain ⟨x, hx⟩ := find_mem (S := S) (y := id) (h4 ▸ List.mem_map_of_mem he)
      obtain ⟨x1, x2⟩ := find_some hx
      have : x = e := id_inj (hI.ids.imp fun h => Int.ne_of_lt h) x1 he (x2.trans h4.symm)
      rw [hx, this]
      exact h2.symm
  · cases hf : findP S id with
    | none => rfl
    | some x =>
      obtain ⟨x1, x2⟩ := find_some hf
      obtain ⟨j, h2, h3, h4⟩ := h.at_ x x1
      have h5 := (hI.idr x x1).1
      exact absurd ⟨by omega, by unfold idA; rw [h4]; exact x2⟩ (hr j h3)
theorem beh_rel {N : Int} {S : St} (hI : Inv N S) {sl : List S51} (h : Rel S sl) {a b : Int} (hr : BehRes sl a sl.length b) : b = (behP S a).getD 0 ∧ decide (b > 0) = (behP S a).isSome := by
  have hin : ∀ y ∈ S.ids, ∃ j, j < sl.length ∧ idA sl j = y ∧ y > 0 := fun y hy => by
    obtain ⟨e, he, rfl⟩ := List.mem_map.1 hy
    obtain ⟨j, _, h3, h4⟩ := h.at_ e he
    exact ⟨j, h3, by unfold idA; rw [h4], by have := (hI.idr e he).1; omega⟩
  rcases hr with ⟨rfl, hr⟩ | ⟨h0, h1, ⟨j, hj, hjb⟩, hr⟩
  · cases hb : behP S a with
    | none => exact ⟨rfl, rfl⟩
    | some y =>
      obtain ⟨y1, y2, _⟩ := beh_some hI hb
      obtain ⟨j, h2, h3, h4⟩ := hin y y1
      exact absurd ⟨by omega, by omega⟩ (hr j h2)
  · rcases rel_id hI h j hj with h2 | ⟨e, he, h2, h3⟩
    · rw [h2] at hjb; omega
    · unfold idA at hjb
      rw [h3] at hjb
      have h4 : e.id = b := hjb
      have hm : b ∈ S.ids := h4 ▸ List.mem_map_of_mem he
      cases hb : behP S a with
      | none =>
        have := List.find?_eq_none.1 hb b hm
        simp at this; omega
      | some y =>
        obtain ⟨y1, y2, _⟩ := beh_some hI hb
        have h5 := find_least S.ids a y hI.ids hb b hm h1
        obtain ⟨j', g2, g3, g4⟩ := hin y y1
        have h6 := hr j' g2 (by omega) (by omega)
        have : b = y := by omega
        subst this
        exact ⟨rfl, by simp; exact h0⟩
theorem occ_perm {N : Int} {S : St} (hI : Inv N S) {sl : List S51} (h : Rel S sl) : (occ sl sl.length).Perm (S.ents.map fun e => e.slot.toNat) := by
  refine (List.perm_ext_iff_of_nodup ?_ ?_).2 fun k => ?_
  · unfold occ
    exact List.nodup_range.sublist List.filter_sublist
  · have h2 := List.pairwise_map.1 hI.dis
    refine List.pairwise_map.2 (h2.imp_of_mem fun {a b} ha hb hne => ?_)
    have := (hI.sl a ha).1
    have := (hI.sl b hb).1
    omega
  · rw [occ_mem, List.mem_map]
    constructor
    · rintro ⟨h1, h2⟩
      rcases rel_id hI h k h1 with h3 | ⟨e, he, h3, _⟩
      · rw [h3] at h2; omega
      · exact ⟨e, he, by omega⟩
    · rintro ⟨e, he, rfl⟩
      obtain ⟨j, h3, h4, h5⟩ := h.at_ e he
      have : e.slot.toNat = j := by omega
      rw [this]
      refine ⟨h4, ?_⟩
      unfold idA
      rw [h5]
      have := (hI.idr e he).1
      show e.id > 0
      omega
theorem len_rel {N : Int} {S : St} (hI : Inv N S) {sl : List S51} (h : Rel S sl) : (occ sl sl.length).length = S.ents.length := by
  rw [(occ_perm hI h).length_eq, List.length_map]
theorem top_edge {N : Int} {S : St} (hI : Inv N S) (ht : Trim S) {sl : List S51} (h : Rel S sl) : ∀ i : Nat, S.edge ≤ (i : Int) → i ≤ sl.length → (topP sl i : Int) = S.edge
  | 0, h1, _ => by have := hI.cnt; show (0 : Int) = S.edge; omega
  | i + 1, h1, h2 => by
    unfold topP
    by_cases he : S.edge ≤ (i : Int)
    · have : idA sl i = 0 := h.free i (by omega) fun e hm => by have := hI.sl e hm; omega
      rw [if_pos this]
      exact top_edge hI ht h i he (by omega)
    · have e1 : S.edge - 1 = (i : Int) := by omega
      rcases covered hI (j := (i : Int)) (by omega) (by omega) with ⟨e, hm, h3⟩ | h3
      · obtain ⟨j, h4, h5, h6⟩ := h.at_ e hm
        have : j = i := by omega
        subst this
        have h7 := (hI.idr e hm).1
        have : idA sl j ≠ 0 := by
          unfold idA
          rw [h6]
          show e.id ≠ 0
          omega
        rw [if_neg this]
        show ((j + 1 : Nat) : Int) = _
        omega
      · exact absurd (e1 ▸ h3) ht
theorem pages_rel {N : Int} {S : St} (hI : Inv N S) (ht : Trim S) {sl : List S51} (h : Rel S sl) : pgL sl sl.length = pagesP S := by
  have h1 := top_edge hI ht h sl.length h.len (Nat.le_refl _)
  have h2 : (topP sl sl.length + 15) / 16 = pagesN S := by unfold pagesN; omega
  unfold pgL pagesP
  rw [h2]
  refine List.map_congr_left fun j _ => ?_
  rw [(occ_perm hI h).countP_eq, List.countP_map]
  congr 1
  refine List.countP_congr fun e he => ?_
  have := (hI.sl e he).1
  simp only [Function.comp, decide_eq_true_eq]
  omega
end Go.Proofs.Ytgbjilcfgpbcgaa
