import Derived.Test.YtgbjilcfgpbcgaaZpH9
import Derived.Maps.RangeWalk
/- Layer 8: Pages, walked: a loop over the cells' map. -/
namespace Go.Proofs.Ytgbjilcfgpbcgaa
open Go.RowKit Go.Proofs.YtgbjilcfgpbcgaaW.PrintWords Go.Proofs.YtgbjilcfgpbcgaaW.PrintLast Go.Proofs.YtgbjilcfgpbcgaaW.PrintMore
set_option linter.unusedSimpArgs false
set_option linter.unusedVariables false
/-- How many pages. -/
abbrev pagesN (S : St) : Nat := ((S.edge + 15) / 16).toNat
/-- How many rows of a page have been met. -/
def metAt (E : List Ent) (left : Lit → Bool) (j : Nat) : Int := ((E.countP (fun e : Ent => decide (e.slot / 16 = (j : Int)) && !left (keyI e.id)) : Nat) : Int)
def metL (E : List Ent) (n : Nat) (left : Lit → Bool) : List Int := (List.range n).map (metAt E left)
def pagesP (S : St) : List Int := (List.range (pagesN S)).map fun j : Nat => ((S.ents.countP (fun e : Ent => decide (e.slot / 16 = (j : Int))) : Nat) : Int)
theorem metL_start (E : List Ent) (n : Nat) (left : Lit → Bool) (h : ∀ e ∈ E, left (keyI e.id) = true) : metL E n left = List.replicate n 0 := by
  apply List.ext_getElem
  · simp [metL]
  · intro i h1 h2
    simp only [metL, List.getElem_map, List.getElem_range, List.getElem_replicate, metAt]
    have : E.countP (fun e => decide (e.slot / 16 = (i : Int)) && !left (keyI e.id)) = 0 := List.countP_eq_zero.2 fun e he => by simp [h e he]
    rw [this]; rfl
theorem metL_end (S : St) (left : Lit → Bool) (h : ∀ kl, left kl = false) : metL S.ents (pagesN S) left = pagesP S := by
  unfold metL pagesP
  refine List.map_congr_left fun j _ => ?_
  unfold metAt
  congr 1
  refine List.countP_congr fun e he => ?_
  simp [h]
theorem key_same (a b : Int) : (keyI a).sameKey (keyI b) = decide (a = b) := by
  by_cases e : a = b
  · subst e; rw [decide_eq_true rfl]; exact WideAt.sameKey_self (isKeyI a)
  · rw [decide_eq_false e]
    cases h : (keyI a).sameKey (keyI b) with
    | false => rfl
    | true => have := WideAt.sameKey_eq h; injection this with _ h2; exact absurd h2 e
theorem count_one {E : List Ent} (hd : (E.map Ent.id).Nodup) {x : Ent} (hx : x ∈ E) (p q : Ent → Bool) (hp : ∀ e ∈ E, e.id ≠ x.id → p e = q e) (h1 : p x = true) (h0 : q x = false) : E.countP p = E.countP q + 1 := by
  induction E with
  | nil => cases hx
  | cons a r ih =>
    rw [List.map_cons, List.nodup_cons] at hd
    rcases List.mem_cons.1 hx with rfl | hx'
    · rw [List.countP_cons, List.countP_cons, h1, h0]
      have : r.countP p = r.countP q := List.countP_congr fun e he => by
        rw [hp e (List.mem_cons_of_mem _ he) (fun h => hd.1 (h ▸ List.mem_map_of_mem he))]
      rw [this]; simp
    · have hne : a.id ≠ x.id := fun h => hd.1 (h ▸ List.mem_map_of_mem hx')
      rw [List.countP_cons, List.countP_cons, hp a (List.mem_cons_self) hne, ih hd.2 hx' fun e he => hp e (List.mem_cons_of_mem _ he)]
      omega
theorem id_inj : ∀ {E : List Ent}, (E.map Ent.id).Nodup → ∀ {a b : Ent}, a ∈ E → b ∈ E → a.id = b.id → a = b
  | [], _, _, _, ha, _, _ => by cases ha
  | x :: r, hd, a, b, ha, hb, h => by
    rw [List.map_cons, List.nodup_cons] at hd
    rcases List.mem_cons.1 ha with rfl | ha'
    · rcases List.mem_cons.1 hb with rfl | hb'
      · rfl
      · exact absurd (h ▸ List.mem_map_of_mem hb') hd.1
    · rcases List.mem_cons.1 hb with rfl | hb'
      · exact absurd (h ▸ List.mem_map_of_mem ha') hd.1
      · exact id_inj hd.2 ha' hb' h
theorem metL_step {E : List Ent} (hd : (E.map Ent.id).Nodup) {x : Ent} (hx : x ∈ E) (n : Nat) (left : Lit → Bool) (hl : left (keyI x.id) = true) (h0 : 0 ≤ x.slot) (i : Nat) (hi : x.slot / 16 = (i : Int)) :
    metL E n (fun z => left z && !z.sameKey (keyI x.id)) = (metL E n left).set i (metAt E left i + 1) := by
  apply List.ext_getElem
  · simp [metL]
  · intro j h1 h2
    rw [List.getElem_set]
    simp only [metL, List.getElem_map, List.getElem_range]
    by_cases e : i = j
    · subst e
      rw [if_pos rfl]
      unfold metAt
      have := count_one hd hx (fun e => decide (e.slot / 16 = (i : Int)) && !(left (keyI e.id) && !(keyI e.id).sameKey (keyI x.id))) (fun e => decide (e.slot / 16 = (i : Int)) && !left (keyI e.id)) (fun e he hne => by simp only [key_same, decide_eq_false hne]; simp) (by simp [hi, key_same]) (by simp [hl])
      rw [this]; rfl
    · rw [if_neg e]
      unfold metAt
      congr 1
      refine List.countP_congr fun e' he' => ?_
      by_cases e2 : e'.id = x.id
      · have e3 : e' = x := id_inj hd he' hx e2
        subst e3
        have : decide (e'.slot / 16 = (j : Int)) = false := decide_eq_false (by omega)
        rw [this]; simp
      · simp only [key_same, decide_eq_false e2]; simp
theorem met_mem {E : List Ent} {cb : Int → Nat} {D : DataW Value} (hm : ∀ kl, WideAt.IsKeyLit kl → Maps.has D kl = (fM (E.map Ent.id) cb kl).isSome ∧ ∀ v, fM (E.map Ent.id) cb kl = some v → ∀ z, D.atKey kl z = .held v) {kl : Lit} (hk : WideAt.IsKeyLit kl) {c : Value} (hat : ∀ zd, D.atKey kl zd = .held c) :
    ∃ e ∈ E, kl = keyI e.id ∧ c = .pointer (some ⟨cb e.id, 0, none⟩) := by
  obtain ⟨h1, h2⟩ := hm kl hk
  have hh : Maps.has D kl = true := by
    cases h : Maps.has D kl with
    | true => rfl
    | false =>
      have a1 := hat (.lit (.bool true))
      rw [Maps.atKey_of_not_has h] at a1
      cases a1
  rw [hh] at h1
  cases hf : fM (E.map Ent.id) cb kl with
  | none => rw [hf] at h1; cases h1
  | some v =>
    have hv := h2 v hf (.held c)
    rw [hat] at hv
    injection hv with hv
    subst hv
    cases kl with
    | int k q =>
      cases k <;> simp only [fM] at hf <;> try (cases hf)
      split at hf
      · next hq =>
        obtain ⟨e, he, rfl⟩ := List.mem_map.1 hq
        exact ⟨e, he, rfl, (Option.some.inj hf).symm⟩
      · cases hf
    | _ => cases hf
theorem below_grown_none {a b : World} (h : a.grownBy b none) : Below a.heap.size a b := ⟨h.os, h.tape, h.output, h.size, fun k hk => h.block k hk (by simp)⟩
theorem has_left {D : DataW Value} {E : List Ent} {cb : Int → Nat} (hm : ∀ kl, WideAt.IsKeyLit kl → Maps.has D kl = (fM (E.map Ent.id) cb kl).isSome ∧ ∀ v, fM (E.map Ent.id) cb kl = some v → ∀ z, D.atKey kl z = .held v) : ∀ e ∈ E, Maps.has D (keyI e.id) = true := fun e he => by
  rw [(hm _ (isKeyI _)).1]
  show (if e.id ∈ E.map Ent.id then _ else _ : Option Value).isSome = true
  rw [if_pos (List.mem_map_of_mem he)]; rfl
end Go.Proofs.Ytgbjilcfgpbcgaa
