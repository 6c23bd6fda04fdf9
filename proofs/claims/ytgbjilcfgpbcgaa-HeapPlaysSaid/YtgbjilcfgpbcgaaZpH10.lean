import Derived.Test.YtgbjilcfgpbcgaaZpH9
/- Layer 8: Drop, walked. -/
namespace Go.Proofs.Ytgbjilcfgpbcgaa
open Go.RowKit Go.Proofs.YtgbjilcfgpbcgaaW.PrintWords Go.Proofs.YtgbjilcfgpbcgaaW.PrintLast Go.Proofs.YtgbjilcfgpbcgaaW.PrintMore
set_option linter.unusedSimpArgs false
set_option linter.unusedVariables false
/-- The place of a number in a rising list. -/
theorem at_count (id : Int) : ∀ (xs : List Int), xs.Pairwise (· < ·) → id ∈ xs → xs[xs.countP (fun x => decide (x < id))]? = some id
  | [], _, h => by cases h
  | x :: r, h, hm => by
    obtain ⟨h1, h2⟩ := List.pairwise_cons.1 h
    rw [List.countP_cons]
    by_cases hl : x < id
    · rw [decide_eq_true hl]
      have : id ∈ r := by
        rcases List.mem_cons.1 hm with e | e
        · omega
        · exact e
      simpa using at_count id r h2 this
    · have hx : id = x := by
        rcases List.mem_cons.1 hm with e | e
        · exact e
        · have := h1 id e; omega
      subst hx
      rw [decide_eq_false hl]
      have : r.countP (fun x => decide (x < id)) = 0 := by
        rw [List.countP_eq_zero]
        intro y hy
        have := h1 y hy
        simp; omega
      rw [this]; rfl
/-- The entries without the one at place i. -/
abbrev cutAt {α : Type} (xs : List α) (i : Nat) : List α := xs.take i ++ xs.drop (i + 1)
theorem cutAt_length {α : Type} (xs : List α) (i : Nat) (h : i < xs.length) : (cutAt xs i).length + 1 = xs.length := by
  rw [List.length_append, List.length_take, List.length_drop]; omega
theorem split_at {α : Type} (xs : List α) (i : Nat) (h : i < xs.length) : xs = xs.take i ++ xs[i] :: xs.drop (i + 1) := by
  rw [← List.drop_eq_getElem_cons h, List.take_append_drop]
theorem mem_cutAt {α : Type} (f : α → Int) (xs : List α) (i : Nat) (h : i < xs.length) (hp : (xs.map f).Pairwise (· < ·)) (y : α) : y ∈ cutAt xs i ↔ (y ∈ xs ∧ f y ≠ f xs[i]) := by
  have hs := split_at xs i h
  have hp' : ((xs.take i ++ xs[i] :: xs.drop (i + 1)).map f).Pairwise (· < ·) := by rw [← hs]; exact hp
  rw [List.map_append, List.map_cons, List.pairwise_append, List.pairwise_cons] at hp'
  obtain ⟨_, ⟨h2, _⟩, h3⟩ := hp'
  constructor
  · intro hm
    rcases List.mem_append.1 hm with hm | hm
    · exact ⟨List.mem_of_mem_take hm, fun e => by have := h3 _ (List.mem_map_of_mem hm) _ List.mem_cons_self; omega⟩
    · exact ⟨List.mem_of_mem_drop hm, fun e => by have := h2 _ (List.mem_map_of_mem hm); omega⟩
  · rintro ⟨hm, hne⟩
    rw [hs] at hm
    rcases List.mem_append.1 hm with hm | hm
    · exact List.mem_append_left _ hm
    · rcases List.mem_cons.1 hm with rfl | hm
      · exact absurd rfl hne
      · exact List.mem_append_right _ hm
/-- Where a found entry stands. -/
theorem find_at {N : Int} {S : St} (hI : Inv N S) {id : Int} {e : Ent} (h : findP S id = some e) : ∃ hi : idxP S id < S.ents.length, S.ents[idxP S id] = e := by
  obtain ⟨h1, h2⟩ := find_some h
  have hc := at_count id S.ids hI.ids (by rw [← h2]; exact List.mem_map_of_mem h1)
  obtain ⟨hi, hv⟩ := List.getElem?_eq_some_iff.1 hc
  have hi' : idxP S id < S.ents.length := by simpa [idxP] using hi
  refine ⟨hi', ?_⟩
  have hid : (S.ents[idxP S id]).id = id := by simpa [idxP] using hv
  obtain ⟨k, hk, he⟩ := List.mem_iff_getElem.1 h1
  have hkid : (S.ents[k]).id = id := by rw [he]; exact h2
  rcases Nat.lt_trichotomy k (idxP S id) with hlt | heq | hgt
  · have := List.pairwise_iff_getElem.1 hI.ids k (idxP S id) (by simpa using hk) (by simpa using hi') hlt
    simp at this; omega
  · subst heq; exact he
  · have := List.pairwise_iff_getElem.1 hI.ids (idxP S id) k (by simpa using hi') (by simpa using hk) hgt
    simp at this; omega
/-- The entry is gone from the map. -/
theorem Hq.del {base : Nat} {O : Nat → Prop} {w w4 : World} {hb : Nat} {E : List Ent} {I F : List Int} {ed la : Int} {mb : Nat} {vi vf : Value} {cb : Int → Nat} {rv : Int → Value} (h : Hq base O w hb E I F ed la mb vi vf cb rv) {i : Nat} (hi : i < E.length) (hp : (E.map Ent.id).Pairwise (· < ·))
    (hm : MapG w4 mb (cutAt E i).length (fM ((cutAt E i).map Ent.id) cb)) (hg : w.grownBy w4 (some mb)) : Hq base O w4 hb (cutAt E i) I F ed la mb vi vf cb rv := by
  have hmm : ∀ (t : TypeId) (k : Nat) (cells : Array Value), w.heap[k]? = some (.cells cells t (0, 0)) → k ≠ mb := fun t k cells hc e => by
    obtain ⟨D, ⟨es, clock, hm, _⟩, _⟩ := h.map
    rw [e, hm] at hc; cases hc
  have hal : ∀ k, k < w.heap.size → k ≠ mb → w4.heap[k]? = w.heap[k]? := fun k hk hne => hg.block k hk (fun e => by injection e with e; exact hne e)
  have rmv : ∀ {v : Value} {xs : List Int} {k : IntKind} {e : Nat} {ok : Nat → Prop} {b : Nat}, (Kd.int k).R e w b ok v xs → (Kd.int k).R e w4 b ok v xs := fun {v xs k e ok b} h => by
    refine Kd.R_mono (ok := fun k => ok k ∧ k ≠ mb) (Kd.R_step (Kd.R_mono (Kd.R_bound h) fun k hk => ⟨hk.1, ?_⟩) fun k hk hl => hal k hl hk.2) fun k hk => hk.1
    obtain ⟨_, _, _, q, _, cells, hc⟩ := hk
    exact hmm q k cells hc
  have sub : ∀ e ∈ cutAt E i, e ∈ E := fun e he => ((mem_cutAt Ent.id E i hi hp e).1 he).1
  exact ⟨(hal hb (blk_lt h.blk) h.mb_ne).trans h.blk, hm, h.own, rmv h.ids, rmv h.free, h.apart, fun e he => ⟨(hal _ (blk_lt (h.cell e (sub e he)).1) (hmm _ _ _ (h.cell e (sub e he)).1)).trans (h.cell e (sub e he)).1, (h.cell e (sub e he)).2⟩,
    fun e he e' he' => h.cinj e (sub e he) e' (sub e' he'), fun e he => rmv (h.row e (sub e he))⟩
theorem Hq.del_run {base : Nat} {O : Nat → Prop} {w : World} {hb : Nat} {S : St} {mb : Nat} {vi vf : Value} {cb : Int → Nat} {rv : Int → Value} {N : Int} (h : Hp base O w hb S mb vi vf cb rv) (hI : Inv N S) {id : Int} (hid : I64 id) {e : Ent} (hf : findP S id = some e) (ty : TypeId) :
    ∃ w4, (Builtin.delete_ #[55, 3] ty #[.map (some mb), .int .i64 id]).run Try.prog w = .ok (.tuple #[]) w4 ∧ Hq base O w4 hb (cutAt S.ents (idxP S id)) S.ids S.free S.edge S.last mb vi vf cb rv ∧ w.grownBy w4 (some mb) := by
  obtain ⟨hi, he⟩ := find_at hI hf
  obtain ⟨h1, h2⟩ := find_some hf
  have hlen := cutAt_length S.ents (idxP S id) hi
  have hmap := h.map
  rw [← hlen] at hmap
  obtain ⟨w4, hrun, hm, hg⟩ := hmap.del id hid (f' := fM ((cutAt S.ents (idxP S id)).map Ent.id) cb) (by rw [fM_int, if_pos (show id ∈ S.ents.map Ent.id by rw [← h2]; exact List.mem_map_of_mem h1)]; rfl) (by
    rw [fM_int, if_neg]
    intro hm
    obtain ⟨u, hu, hu2⟩ := List.mem_map.1 hm
    have := ((mem_cutAt Ent.id S.ents (idxP S id) hi hI.ids u).1 hu).2
    rw [he] at this
    omega) (fun kl hkl => by
    cases kl with
    | int k c =>
      cases k <;> try rfl
      have hne : c ≠ id := fun e => hkl (by rw [e])
      show fM _ cb (keyI c) = fM _ cb (keyI c)
      rw [fM_int, fM_int]
      have hiff : c ∈ (cutAt S.ents (idxP S id)).map Ent.id ↔ c ∈ S.ents.map Ent.id := by
        constructor
        · intro hm
          obtain ⟨u, hu, rfl⟩ := List.mem_map.1 hm
          exact List.mem_map_of_mem ((mem_cutAt Ent.id S.ents (idxP S id) hi hI.ids u).1 hu).1
        · intro hm
          obtain ⟨u, hu, rfl⟩ := List.mem_map.1 hm
          exact List.mem_map_of_mem ((mem_cutAt Ent.id S.ents (idxP S id) hi hI.ids u).2 ⟨hu, by rw [he, h2]; exact hne⟩)
      by_cases hc : c ∈ S.ents.map Ent.id
      · rw [if_pos hc, if_pos (hiff.2 hc)]
      · rw [if_neg hc, if_neg (fun q => hc (hiff.1 q))]
    | _ => rfl) ty
  exact ⟨w4, hrun, h.del hi hI.ids hm hg, hg⟩
end Go.Proofs.Ytgbjilcfgpbcgaa
