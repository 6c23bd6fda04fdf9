import Derived.Test.YtgbjilcfgpbcgaaZoH19
import Derived.Test.YtgbjilcfgpbcgaaZoH20
/- Layer 8: the map of places; the plain law of HeapOnce. -/
namespace Go.Proofs.Ytgbjilcfgpbcgaa
open Go.RowKit Go.Proofs.YtgbjilcfgpbcgaaW.PrintWords
open Go.Maps (Keyed)
set_option linter.unusedSimpArgs false
set_option linter.unusedVariables false
theorem und41 : Try.prog.underlying 41 = some (.map 3 3) := Try.underlying41
theorem zero3 (w : World) : (zeroValue 3).run Try.prog w = .ok (.int .i64 0) w := by kernel_rfl
theorem MapG.look41 {w : World} {b n : Nat} {f : Lit → Option Value} (h : MapG w b n f) (c : Int) (hc : -9223372036854775808 ≤ c ∧ c < 9223372036854775808) :
    ∀ w' : World, w'.heap[b]? = w.heap[b]? → (Instr.lookup 41 (.map (some b)) (.int .i64 c) false).run Try.prog w' = .ok ((f (keyI c)).getD (.int .i64 0)) w' := by
  intro w' hw'
  obtain ⟨D, h1, _, h2⟩ := h.blk hw'
  obtain ⟨hh, hat⟩ := h2 (keyI c) (isKeyI c)
  obtain ⟨v, ps, hrun, hv⟩ := h1.lookup keyedI und41 (zero3 w') (zd := .held (.int .i64 0)) (zp := []) rfl (keyOfI c hc)
  rw [hrun]
  have hv' : DataW.held v = D.atKey (keyI c) (.held (.int .i64 0)) := congrArg Prod.fst (Option.some.inj hv)
  cases hf : f (keyI c) with
  | none =>
    rw [hf] at hh
    rw [Maps.atKey_of_not_has hh] at hv'
    injection hv' with hv'
    rw [hv']; rfl
  | some u =>
    rw [hat u hf] at hv'
    injection hv' with hv'
    rw [hv']; rfl
theorem MapG.len41 {w : World} {b n : Nat} {f : Lit → Option Value} (h : MapG w b n f) (ty : TypeId) : (Builtin.len_ #[41] ty #[.map (some b)]).run Try.prog w = .ok (.int .i64 n) w := by
  obtain ⟨D, h1, h2, _⟩ := h
  rw [h1.len und41 ty, h2]
theorem MapG.store41 {w : World} {b n : Nat} {f f' : Lit → Option Value} (h : MapG w b n f) (c : Int) (hc : -9223372036854775808 ≤ c ∧ c < 9223372036854775808) (hn : n < 9223372036854775807) (val : Value) (hnew : f (keyI c) = none) (hs : f' (keyI c) = some val) (ho : ∀ kl, kl ≠ keyI c → f' kl = f kl) :
    ∃ w', (Instr.mapUpdate 41 (.map (some b)) (.int .i64 c) val).run Try.prog w = .ok () w' ∧ MapG w' b (n + 1) f' ∧ w.grownBy w' (some b) := by
  obtain ⟨D, h1, h0, h2⟩ := h
  have hk := isKeyI c
  obtain ⟨w', hrun, h3, h4⟩ := h1.update keyedI und41 (by unfold maxLen; omega) (val := val) (d := .held val) (ps := []) (keyOfI c hc) rfl
  refine ⟨w', hrun, ⟨_, h3, ?_, fun x hx => ?_⟩, h4⟩
  · rw [Maps.size_put (h1.tidy keyedI), (h2 (keyI c) hk).1, hnew, h0]; rfl
  · by_cases e : x = keyI c
    · subst e
      rw [hs]
      refine ⟨Maps.has_put_same h1.isMap hk _, fun v hv z => ?_⟩
      obtain rfl := Option.some.inj hv
      exact Maps.atKey_put_same h1.isMap hk _ _
    · rw [ho x e]
      refine ⟨(Maps.has_put_other e _).trans (h2 x hx).1, fun v hv z => ?_⟩
      exact (Maps.atKey_put_other e _ _).trans ((h2 x hx).2 v hv z)
/-- The places that have been met: each once. -/
def fP (L : List Int) : Lit → Option Value
  | .int .i64 c => if c ∈ L then some (.int .i64 1) else none
  | _ => none
theorem fP_int (L : List Int) (c : Int) : fP L (keyI c) = if c ∈ L then some (.int .i64 1) else none := rfl
theorem fP_nil : fP [] = fun _ => none := by
  funext kl
  cases kl with
  | int k c => cases k <;> rfl
  | _ => rfl
/-- The places of the rows up to a number. -/
def PL (S : St) (a : Int) : List Int := (S.ents.filter fun e => decide (e.id ≤ a)).map Ent.slot
theorem pl_zero {N : Int} {S : St} (hI : Inv N S) : PL S 0 = [] := by
  unfold PL
  have : S.ents.filter (fun e => decide (e.id ≤ 0)) = [] := List.filter_eq_nil_iff.2 fun e he => by
    have := (hI.idr e he).1
    simp; omega
  rw [this]; rfl
theorem find_least : ∀ (xs : List Int) (a y : Int), xs.Pairwise (· < ·) → xs.find? (fun x => decide (x > a)) = some y → ∀ z ∈ xs, a < z → y ≤ z
  | [], a, y, _, h, _, hz, _ => by cases hz
  | x :: r, a, y, hp, h, z, hz, hl => by
    obtain ⟨h1, h2⟩ := List.pairwise_cons.1 hp
    rw [List.find?_cons] at h
    by_cases hx : x > a
    · rw [decide_eq_true hx] at h
      obtain rfl : x = y := Option.some.inj h
      rcases List.mem_cons.1 hz with rfl | hz
      · exact Int.le_refl _
      · exact Int.le_of_lt (h1 z hz)
    · rw [decide_eq_false hx] at h
      rcases List.mem_cons.1 hz with rfl | hz
      · exact absurd hl hx
      · exact find_least r a y h2 h z hz hl
theorem pl_new {N : Int} {S : St} (hI : Inv N S) {a y : Int} (h : behP S a = some y) {x : Ent} (hx : findP S y = some x) : x.slot ∉ PL S a ∧ ∀ c, c ∈ PL S y ↔ c = x.slot ∨ c ∈ PL S a := by
  obtain ⟨y1, y2, _⟩ := beh_some hI h
  obtain ⟨x1, x2⟩ := find_some hx
  have hl := find_least S.ids a y hI.ids h
  refine ⟨fun hm => ?_, fun c => ⟨fun hc => ?_, fun hc => ?_⟩⟩
  · obtain ⟨e, he, h2⟩ := List.mem_map.1 hm
    obtain ⟨h3, h4⟩ := List.mem_filter.1 he
    have : e = x := slot_inj hI.dis h3 x1 h2
    rw [this, x2] at h4
    simp at h4; omega
  · obtain ⟨e, he, h2⟩ := List.mem_map.1 hc
    obtain ⟨h3, h4⟩ := List.mem_filter.1 he
    have h5 : e.id ≤ y := by simpa using h4
    by_cases h6 : e.id ≤ a
    · exact .inr (List.mem_map.2 ⟨e, List.mem_filter.2 ⟨h3, by simpa using h6⟩, h2⟩)
    · have h7 := hl e.id (List.mem_map_of_mem h3) (by omega)
      have : e = x := id_inj (hI.ids.imp fun h => Int.ne_of_lt h) h3 x1 (by omega)
      exact .inl (by rw [← h2, this])
  · rcases hc with rfl | hc
    · exact List.mem_map.2 ⟨x, List.mem_filter.2 ⟨x1, by simp [x2]⟩, rfl⟩
    · obtain ⟨e, he, h2⟩ := List.mem_map.1 hc
      obtain ⟨h3, h4⟩ := List.mem_filter.1 he
      have h5 : e.id ≤ a := by simpa using h4
      exact List.mem_map.2 ⟨e, List.mem_filter.2 ⟨h3, by simp; omega⟩, h2⟩
/-- The map of places, one row on. -/
theorem map_next {w : World} {b : Nat} {N : Int} {S : St} (hI : Inv N S) (hN : N ≤ 4000000000000) {a y : Int} (h : behP S a = some y) {x : Ent} (hx : findP S y = some x) (hm : MapG w b (metP S a) (fP (PL S a))) :
    ∃ w', (Instr.mapUpdate 41 (.map (some b)) (.int .i64 x.slot) (.int .i64 1)).run Try.prog w = .ok () w' ∧ MapG w' b (metP S y) (fP (PL S y)) ∧ w.grownBy w' (some b) ∧
      (Instr.lookup 41 (.map (some b)) (.int .i64 x.slot) false).run Try.prog w = .ok (.int .i64 0) w ∧ (Instr.lookup 41 (.map (some b)) (.int .i64 x.slot) false).run Try.prog w' = .ok (.int .i64 1) w' ∧ (Builtin.len_ #[41] 3 #[.map (some b)]).run Try.prog w' = .ok (.int .i64 (metP S y)) w' := by
  obtain ⟨p1, p2⟩ := pl_new hI h hx
  obtain ⟨y1, y2, y3⟩ := beh_some hI h
  have hs := hI.sl x (find_some hx).1
  have hb := hI.bd
  have hc : -9223372036854775808 ≤ x.slot ∧ x.slot < 9223372036854775808 := by omega
  have hl := met_le S a
  have hcn := hI.cnt
  have f0 : fP (PL S a) (keyI x.slot) = none := by rw [fP_int, if_neg p1]
  have f1 : fP (PL S y) (keyI x.slot) = some (.int .i64 1) := by rw [fP_int, if_pos ((p2 _).2 (.inl rfl))]
  obtain ⟨w', hrun, hm', hg⟩ := hm.store41 (f' := fP (PL S y)) x.slot hc (by omega) (.int .i64 1) f0 f1 fun kl hkl => by
    cases kl with
    | int k c =>
      cases k <;> try rfl
      have hne : c ≠ x.slot := fun e => hkl (by rw [e])
      show fP (PL S y) (keyI c) = fP (PL S a) (keyI c)
      rw [fP_int, fP_int]
      by_cases hc : c ∈ PL S a
      · rw [if_pos hc, if_pos ((p2 c).2 (.inr hc))]
      · rw [if_neg hc, if_neg (fun q => ((p2 c).1 q).elim hne hc)]
    | _ => rfl
  rw [← y3] at hm'
  refine ⟨w', hrun, hm', hg, ?_, ?_, hm'.len41 3⟩
  · rw [hm.look41 x.slot hc w rfl, f0]; rfl
  · rw [hm'.look41 x.slot hc w' rfl, f1]; rfl
theorem H8.grown {B : Nat} {w w' : World} {hb : Nat} {S : St} {N : Int} {O : Nat → Prop} (h : H8 B w hb S N O) {b : Nat} (hg : w.grownBy w' (some b)) (hn : ¬ O b) : H8 B w' hb S N O :=
  ⟨h.at_.keep fun k ho hl => hg.block k hl fun e => hn (by injection e with e; rw [← e]; exact ho), fun k ho => ⟨(h.own k ho).1, Nat.lt_of_lt_of_le (h.own k ho).2 hg.size⟩, Nat.le_trans h.base hg.size, h.inv, h.rows⟩
theorem back_last (S : St) (id : Int) (row : List Int) : (if backB S id = true then layP S id row else S).last = S.last := by
  split
  · exact lay_last S id row
  · rfl
end Go.Proofs.Ytgbjilcfgpbcgaa
