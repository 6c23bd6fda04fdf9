import Derived.Test.YtgbjilcfgpbcgaaZpH11
/- Layer 8: what the calls keep (plain law). -/
namespace Go.Proofs.Ytgbjilcfgpbcgaa
set_option linter.unusedSimpArgs false
set_option linter.unusedVariables false
theorem Inv.zero : Inv 0 S0 where
  ids := List.Pairwise.nil
  idr e he := by cases he
  free := List.Pairwise.nil
  frr e he := by cases he
  sl e he := by cases he
  dis := List.nodup_nil
  cnt := rfl
  bd := ⟨Int.le_refl _, Int.le_refl _, Int.le_refl _⟩
theorem Inv.mono {N M : Int} {S : St} (h : Inv N S) (hm : N ≤ M) : Inv M S := { h with bd := ⟨Int.le_trans h.bd.1 hm, h.bd.2.1, Int.le_trans h.bd.2.2 hm⟩ }
theorem ins_sorted (x : Int) : ∀ (xs : List Int), xs.Pairwise (· < ·) → x ∉ xs → (insAt xs (xs.countP fun y => decide (y < x)) x).Pairwise (· < ·)
  | [], _, _ => by simp [insAt]
  | a :: r, hp, hx => by
    obtain ⟨h1, h2⟩ := List.pairwise_cons.1 hp
    have hxr : x ∉ r := fun h => hx (List.mem_cons_of_mem _ h)
    by_cases h : a < x
    · rw [List.countP_cons, decide_eq_true h, if_pos rfl]
      show (a :: insAt r _ x).Pairwise _
      refine List.pairwise_cons.2 ⟨fun y hy => ?_, ins_sorted x r h2 hxr⟩
      rcases (mem_insAt _ _ _ _).1 hy with rfl | hy
      · exact h
      · exact h1 y hy
    · have hne : a ≠ x := fun e => hx (e ▸ List.mem_cons_self)
      have hc : (a :: r).countP (fun y => decide (y < x)) = 0 := List.countP_eq_zero.2 fun y hy => by
        rcases List.mem_cons.1 hy with rfl | hy
        · simpa using h
        · have := h1 y hy; simp; omega
      rw [hc]
      show (x :: a :: r).Pairwise _
      refine List.pairwise_cons.2 ⟨fun y hy => ?_, hp⟩
      rcases List.mem_cons.1 hy with rfl | hy
      · omega
      · have := h1 y hy; omega
theorem cut_sublist {α : Type} (xs : List α) (i : Nat) : (cutAt xs i).Sublist xs := by
  have h : (xs.drop (i + 1)).Sublist (xs.drop i) := by
    rw [← List.drop_drop]; exact List.drop_sublist _ _
  have := (List.Sublist.refl (xs.take i)).append h
  rwa [List.take_append_drop] at this
theorem slot_inv {N : Int} {S : St} (h : Inv N S) : 0 ≤ (slotP S).1 ∧ (slotP S).1 < (slotP S).2.edge ∧ (slotP S).1 ∉ (slotP S).2.free ∧ (∀ e ∈ S.ents, e.slot ≠ (slotP S).1) ∧ (slotP S).2.free.Pairwise (· < ·) ∧ (∀ s ∈ (slotP S).2.free, s ∈ S.free) ∧ (S.ents.length : Int) + 1 + (slotP S).2.free.length = (slotP S).2.edge ∧ S.edge ≤ (slotP S).2.edge ∧ (slotP S).2.edge ≤ S.edge + 1 := by
  have hc := h.cnt
  unfold slotP
  cases hf : S.free with
  | nil =>
    rw [hf] at hc
    dsimp only
    refine ⟨?_, by omega, by simp, fun e he => ?_, List.Pairwise.nil, fun s hs => (by cases hs), ?_, by omega, by omega⟩
    · simp at hc; omega
    · have := h.sl e he; omega
    · simp at hc ⊢; omega
  | cons s r =>
    have hp := h.free
    rw [hf] at hp hc
    obtain ⟨h1, h2⟩ := List.pairwise_cons.1 hp
    have hs := h.frr s (by rw [hf]; exact List.mem_cons_self)
    dsimp only
    refine ⟨hs.1, hs.2, fun hm => by have := h1 s hm; omega, fun e he e2 => ?_, h2, fun t ht => List.mem_cons_of_mem _ ht, by simp at hc ⊢; omega, by omega, by omega⟩
    exact (h.sl e he).2.2 (by rw [hf, e2]; exact List.mem_cons_self)
theorem layP_inv {N : Int} {S : St} (h : Inv N S) (id : Int) (row : List Int) (hid : 1 ≤ id ∧ id ≤ S.last) (hn : id ∉ S.ids) : Inv (N + 1) (layP S id row) := by
  obtain ⟨s0, s1, s2, s3, s4, s5, s6, s7, s8⟩ := slot_inv h
  have hix : idxP S id ≤ S.ents.length := by
    have : idxP S id ≤ S.ids.length := List.countP_le_length
    rwa [List.length_map] at this
  have hmem : ∀ e, e ∈ (layP S id row).ents ↔ e = ⟨id, row, (slotP S).1⟩ ∨ e ∈ S.ents := fun e => mem_insAt _ _ _ _
  refine ⟨?_, fun e he => ?_, s4, fun t ht => ?_, fun e he => ?_, ?_, ?_, ?_⟩
  · rw [lay_ids]; exact ins_sorted id S.ids h.ids hn
  · rw [lay_last]
    rcases (hmem e).1 he with rfl | he
    · exact hid
    · exact h.idr e he
  · have := h.frr t (s5 t ht)
    exact ⟨this.1, by show t < (slotP S).2.edge; omega⟩
  · show 0 ≤ e.slot ∧ e.slot < (slotP S).2.edge ∧ e.slot ∉ (slotP S).2.free
    rcases (hmem e).1 he with rfl | he
    · exact ⟨s0, s1, s2⟩
    · have := h.sl e he
      exact ⟨this.1, by omega, fun hm => this.2.2 (s5 _ hm)⟩
  · have e : (layP S id row).ents.map Ent.slot = insAt (S.ents.map Ent.slot) (idxP S id) (slotP S).1 := by
      show (insAt S.ents (idxP S id) ⟨id, row, (slotP S).1⟩).map Ent.slot = _
      unfold insAt
      rw [List.map_append, List.map_cons, List.map_take, List.map_drop]
    rw [e]
    unfold insAt
    have hp : (S.ents.map Ent.slot).take (idxP S id) ++ (slotP S).1 :: (S.ents.map Ent.slot).drop (idxP S id) |>.Perm ((slotP S).1 :: (S.ents.map Ent.slot)) := by
      refine List.perm_middle.trans ?_
      rw [List.take_append_drop]
    rw [hp.nodup_iff, List.nodup_cons]
    refine ⟨fun hm => ?_, h.dis⟩
    obtain ⟨e, he, h2⟩ := List.mem_map.1 hm
    exact s3 e he h2
  · show ((insAt S.ents (idxP S id) _).length : Int) + (slotP S).2.free.length = (slotP S).2.edge
    rw [insAt_length _ _ _ hix]
    omega
  · have := h.bd
    rw [lay_last]
    exact ⟨by show (slotP S).2.edge ≤ N + 1; omega, this.2.1, by omega⟩
theorem addP_inv {N : Int} {S : St} (h : Inv N S) (row : List Int) : Inv (N + 1) (addP S row) := by
  have hb := h.bd
  have h1 : Inv (N + 1) { S with last := S.last + 1 } := h.bump
  have := layP_inv h1 (S.last + 1) row ⟨by omega, Int.le_refl _⟩ (add_new h)
  refine { this with bd := ?_ }
  obtain ⟨s0, s1, s2, s3, s4, s5, s6, s7, s8⟩ := slot_inv h1
  refine ⟨?_, this.bd.2.1, ?_⟩
  · show (slotP { S with last := S.last + 1 }).2.edge ≤ N + 1
    have : (slotP { S with last := S.last + 1 }).2.edge ≤ S.edge + 1 := s8
    omega
  · show (layP { S with last := S.last + 1 } (S.last + 1) row).last ≤ N + 1
    rw [lay_last]
    show S.last + 1 ≤ N + 1
    omega
theorem trim_spec : ∀ (n : Nat) (f : List Int) (e : Int), f.length = n → f.Pairwise (· < ·) → (∀ y ∈ f, 0 ≤ y ∧ y < e) →
    (trimN n f e).1.Pairwise (· < ·) ∧ (∀ y ∈ (trimN n f e).1, 0 ≤ y ∧ y < (trimN n f e).2) ∧ (∀ s, s < e → s ∉ f → s < (trimN n f e).2 ∧ s ∉ (trimN n f e).1) ∧ (trimN n f e).2 - (trimN n f e).1.length = e - f.length ∧ (trimN n f e).2 ≤ e
  | 0, f, e, hl, hp, hr => ⟨hp, hr, fun s h1 h2 => ⟨h1, h2⟩, rfl, Int.le_refl _⟩
  | n + 1, f, e, hl, hp, hr => by
    unfold trimN
    have hg : f.getD n 0 = f[n] := by simp [List.getD, show n < f.length by omega]
    by_cases h : f.getD n 0 = e - 1
    · rw [if_pos h]
      have hlt : (f.take n).length = n := by rw [List.length_take]; omega
      have hf : f = f.take n ++ [f[n]] := by
        have h1 := List.take_append_drop n f
        rw [List.drop_eq_getElem_cons (show n < f.length by omega), List.drop_eq_nil_of_le (show f.length ≤ n + 1 by omega)] at h1
        exact h1.symm
      rw [hg] at h
      have hpt : (f.take n).Pairwise (· < ·) := hp.sublist (List.take_sublist _ _)
      have hb : ∀ y ∈ f.take n, 0 ≤ y ∧ y < e - 1 := fun y hy => by
        refine ⟨(hr y (List.mem_of_mem_take hy)).1, ?_⟩
        rw [hf] at hp
        have := (List.pairwise_append.1 hp).2.2 y hy _ (List.mem_singleton.2 rfl)
        omega
      obtain ⟨a1, a2, a3, a4, a5⟩ := trim_spec n (f.take n) (e - 1) hlt hpt hb
      refine ⟨a1, a2, fun s hs hn => a3 s ?_ ?_, by omega, by omega⟩
      · have : s ≠ f[n] := fun q => hn (q ▸ List.getElem_mem _)
        omega
      · exact fun hm => hn (List.mem_of_mem_take hm)
    · rw [if_neg h]
      exact ⟨hp, hr, fun s h1 h2 => ⟨h1, h2⟩, rfl, Int.le_refl _⟩
theorem drop_none {S : St} {id : Int} (h : findP S id = none) : dropP S id = S := by unfold dropP; rw [h]
theorem drop_ents {S : St} {id : Int} {x : Ent} (h : findP S id = some x) : (dropP S id).ents = cutAt S.ents (idxP S id) := by
  unfold dropP; rw [h]
theorem drop_last (S : St) (id : Int) : (dropP S id).last = S.last := by
  unfold dropP; split <;> rfl
theorem mem_drop {N : Int} {S : St} (hI : Inv N S) {id : Int} {x : Ent} (h : findP S id = some x) (y : Ent) : y ∈ (dropP S id).ents ↔ (y ∈ S.ents ∧ y.id ≠ id) := by
  obtain ⟨hi, he⟩ := find_at hI h
  rw [drop_ents h, mem_cutAt Ent.id S.ents _ hi hI.ids y, he, (find_some h).2]
theorem slot_inj : ∀ {E : List Ent}, (E.map Ent.slot).Nodup → ∀ {a b : Ent}, a ∈ E → b ∈ E → a.slot = b.slot → a = b
  | [], _, _, _, ha, _, _ => by cases ha
  | x :: r, hd, a, b, ha, hb, h => by
    rw [List.map_cons, List.nodup_cons] at hd
    rcases List.mem_cons.1 ha with rfl | ha'
    · rcases List.mem_cons.1 hb with rfl | hb'
      · rfl
      · exact absurd (h ▸ List.mem_map_of_mem hb') hd.1
    · rcases List.mem_cons.1 hb with rfl | hb'
      · exact absurd (h ▸ List.mem_map_of_mem ha') hd.1
      · exact slot_inj hd.2 ha' hb' h
theorem dropP_inv {N : Int} {S : St} (h : Inv N S) (id : Int) : Inv N (dropP S id) := by
  cases hf : findP S id with
  | none => rw [drop_none hf]; exact h
  | some x =>
    obtain ⟨hi, he⟩ := find_at h hf
    obtain ⟨hx, hxid⟩ := find_some hf
    have hsx := h.sl x hx
    have hins : (insAt S.free (S.free.countP fun y => decide (y < x.slot)) x.slot).Pairwise (· < ·) := ins_sorted x.slot S.free h.free hsx.2.2
    have hinl : (insAt S.free (S.free.countP fun y => decide (y < x.slot)) x.slot).length = S.free.length + 1 := insAt_length _ _ _ List.countP_le_length
    obtain ⟨a1, a2, a3, a4, a5⟩ := trim_spec _ _ S.edge rfl hins fun y hy => by
      rcases (mem_insAt _ _ _ _).1 hy with rfl | hy
      · exact ⟨hsx.1, hsx.2.1⟩
      · exact h.frr y hy
    have hents := drop_ents hf
    have hfree : (dropP S id).free = (trimN (insAt S.free (S.free.countP fun y => decide (y < x.slot)) x.slot).length (insAt S.free (S.free.countP fun y => decide (y < x.slot)) x.slot) S.edge).1 := by unfold dropP; rw [hf]
    have hedge : (dropP S id).edge = (trimN (insAt S.free (S.free.countP fun y => decide (y < x.slot)) x.slot).length (insAt S.free (S.free.countP fun y => decide (y < x.slot)) x.slot) S.edge).2 := by unfold dropP; rw [hf]
    have hcut := cutAt_length S.ents _ hi
    have hmem := mem_drop h hf
    have hcnt := h.cnt
    have hbd := h.bd
    refine ⟨?_, fun e he' => ?_, ?_, fun t ht => ?_, fun e he' => ?_, ?_, ?_, ?_⟩
    · show ((dropP S id).ents.map Ent.id).Pairwise _
      rw [hents]
      exact h.ids.sublist ((cut_sublist S.ents _).map Ent.id)
    · rw [drop_last]; exact h.idr e ((hmem e).1 he').1
    · rw [hfree]; exact a1
    · rw [hfree] at ht; rw [hedge]; exact a2 t ht
    · obtain ⟨h1, h2⟩ := (hmem e).1 he'
      have h3 := h.sl e h1
      have h4 := a3 e.slot h3.2.1 (fun hm => by
        rcases (mem_insAt _ _ _ _).1 hm with hm | hm
        · refine h2 ?_
          have hpw := List.pairwise_map.1 h.dis
          have : e = x := slot_inj h.dis h1 hx hm
          rw [this, hxid]
        · exact h3.2.2 hm)
      rw [hfree, hedge]
      exact ⟨h3.1, h4.1, h4.2⟩
    · rw [hents]; exact h.dis.sublist ((cut_sublist S.ents _).map Ent.slot)
    · rw [hents, hfree, hedge]; omega
    · rw [hedge, drop_last]; exact ⟨by omega, hbd.2.1, hbd.2.2⟩
theorem setP_inv {N : Int} {S : St} (h : Inv N S) (id : Int) (row : List Int) : Inv N (setP S id row) := by
  have hids : (setP S id row).ids = S.ids := reRow_ids id row S.ents
  have hsl : (setP S id row).ents.map Ent.slot = S.ents.map Ent.slot := by
    show (S.ents.map (reRow id row)).map Ent.slot = _
    rw [List.map_map]
    exact List.map_congr_left fun e _ => (reRow_id id row e).2
  refine ⟨by rw [hids]; exact h.ids, fun e he => ?_, h.free, h.frr, fun e he => ?_, by rw [hsl]; exact h.dis, ?_, h.bd⟩
  · obtain ⟨u, hu, rfl⟩ := List.mem_map.1 he
    have := h.idr u hu
    have e1 := (reRow_id id row u).1
    unfold reRow at e1
    rw [e1]; exact this
  · obtain ⟨u, hu, rfl⟩ := List.mem_map.1 he
    have := h.sl u hu
    have e1 := (reRow_id id row u).2
    unfold reRow at e1
    rw [e1]; exact this
  · have : (setP S id row).ents.length = S.ents.length := by unfold setP; simp
    rw [this]; exact h.cnt
end Go.Proofs.Ytgbjilcfgpbcgaa
