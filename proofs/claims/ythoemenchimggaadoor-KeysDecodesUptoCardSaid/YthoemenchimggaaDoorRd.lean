/- From what a row's argument reads as to the values' own types of the printed texts: an argument of whatever type, opened by its parts. -/
import Derived.Test.YthoemenchimggaaDoorWWords
import Derived.Lib.SmallJoins
import Derived.SizedLaws
import Derived.Carry
import Derived.ChangeOld
namespace Go.Proofs.YthoemenchimggaaDoor.Rd
open Go.ChangeShapes Go.WideShapes Go.RowKit Go.Deep Go.Joins Go.Proofs.YthoemenchimggaaDoorW.PrintWords

/-- What a reading of type t says: cells of the kind k. Q: what the reading says beside. -/
def Rds {α : Type} (P : Program) (w : World) (t : TypeId) (k : Kd α) (Q : α → Prop) : Prop :=
  ∀ {H : Type} {enc : TypeId × Value → H} {fuel : Nat} {cs : List Value} {x : DataW H × List MemPlace}, DataW.trod enc P w 0 (fun _ => true) true fuel t cs = some x → ∃ a, k.K w a cs ∧ Q a
section
variable {P : Program} {w : World} {t e : TypeId} {α β γ : Type}

theorem rds_int {k : IntKind} (ht : P.underlying t = some (.int k)) : Rds P w t (Kd.int k) (fun n => (Lit.int k n).wf = true) := by
  intro H enc fuel cs x h
  obtain ⟨n, rfl, _, hw⟩ := DataW.trod_int ht h
  exact ⟨n, rfl, hw⟩
theorem rds_bool (ht : P.underlying t = some .bool) : Rds P w t Kd.bool (fun _ => True) := by
  intro H enc fuel cs x h
  obtain ⟨b, rfl, _⟩ := DataW.trod_bool ht h
  exact ⟨b, rfl, trivial⟩
theorem rds_string (ht : P.underlying t = some .string) : Rds P w t Kd.string (fun s => s.size ≤ maxLen) := by
  intro H enc fuel cs x h
  obtain ⟨s, rfl, _, hs⟩ := DataW.trod_string ht h
  exact ⟨s, rfl, hs⟩
theorem rds_slice {k : Kd α} {Q : α → Prop} (ht : P.underlying t = some (.slice e)) (hc : P.cellsOf e = k.sz) (he : Rds P w e k Q) : Rds P w t (Kd.slice e k) (fun l => ∀ a ∈ l, Q a) := by
  intro H enc fuel cs x h
  rcases open_slice ht h with ⟨rfl, _⟩ | ⟨a, len, cap, m, n, D, Pl, rfl, _, hl, hm, hmm, _, hx⟩
  · exact ⟨[], ⟨none, 0, rfl, Nat.le_refl _, rfl, by simp, fun h => absurd h (Nat.lt_irrefl 0)⟩, by simp⟩
  · have hlm : len ≤ m := by rw [hmm]; split <;> omega
    have key : ∀ i : Nat, i < len → ∃ b : α, (∃ c, c.length = k.sz ∧ k.K w b c ∧ ∀ j u, c[j]? = some u → w.cell? (a.add (i * k.sz + j)) = some u) ∧ Q b := by
      intro i hi
      obtain ⟨cs', h1, h2⟩ := hx i (by omega)
      obtain ⟨b, hb, hq⟩ := he h2
      refine ⟨b, ⟨cs', k.K_len hb, hb, fun j u hu => ?_⟩, hq⟩
      rw [hc] at h1
      have hj : j < k.sz := by
        have := k.K_len hb
        rw [← this]
        exact (List.getElem?_eq_some_iff.1 hu).1
      have h3 := (World.cells?_some h1).2.2 j hj
      rw [hu, Deep.add_add] at h3
      exact h3
    have hf : ∀ m, m ≤ len → ∃ l : List α, l.length = m ∧ ∀ i b, l[i]? = some b → (∃ c, c.length = k.sz ∧ k.K w b c ∧ ∀ j u, c[j]? = some u → w.cell? (a.add (i * k.sz + j)) = some u) ∧ Q b := by
      intro m
      induction m with
      | zero => exact fun _ => ⟨[], rfl, fun i b h => by simp at h⟩
      | succ m ih =>
        intro hm
        obtain ⟨l, hl, hp⟩ := ih (by omega)
        obtain ⟨b, hb⟩ := key m (by omega)
        refine ⟨l ++ [b], by simp [hl], fun i c hi => ?_⟩
        rcases Nat.lt_or_ge i l.length with h | h
        · rw [List.getElem?_append_left h] at hi; exact hp i c hi
        · rw [List.getElem?_append_right h] at hi
          have h0 : i - l.length = 0 := by
            by_cases h0 : i - l.length = 0
            · exact h0
            · rw [List.getElem?_eq_none (by simp; omega)] at hi; cases hi
          rw [h0] at hi
          obtain rfl : b = c := by simpa using hi
          obtain rfl : i = m := by omega
          exact hb
    obtain ⟨l, hll, hp⟩ := hf len (Nat.le_refl _)
    refine ⟨l, ⟨some a, cap, by rw [hll], by omega, rfl, ?_, fun _ => ⟨a, rfl, fun j p hj => (hp j p hj).1⟩⟩, fun b hb => ?_⟩
    · have : maxLen ≤ 9223372036854775807 := by decide
      omega
    · obtain ⟨i, hi⟩ := List.getElem?_of_mem hb
      exact (hp i b hi).2
theorem rds_iso {k : Kd α} {Q : α → Prop} (f : β → α) (g : α → β) (hf : ∀ a, f (g a) = a) (h : Rds P w t k Q) : Rds P w t (Kd.iso k f) (fun b => Q (f b)) := by
  intro H enc fuel cs x hx
  obtain ⟨a, ha, hq⟩ := h hx
  exact ⟨g a, show k.K w (f (g a)) cs by rwa [hf], show Q (f (g a)) by rwa [hf]⟩
theorem rds_struct2 {f0 f1 : Field} {k0 : Kd α} {k1 : Kd β} {Q0 : α → Prop} {Q1 : β → Prop} (ht : P.underlying t = some (.struct #[f0, f1])) (hc : P.cellsOf t = P.cellsOf f0.type + P.cellsOf f1.type) (o0 : f0.offset = 0) (o1 : f1.offset = P.cellsOf f0.type)
    (h0 : Rds P w f0.type k0 Q0) (h1 : Rds P w f1.type k1 Q1) : Rds P w t (Kd.pair k0 k1) (fun a => Q0 a.1 ∧ Q1 a.2) := by
  intro H enc fuel cs x h
  obtain ⟨y0, y1, n, _, hl, g0, g1⟩ := trod_struct2 ht h
  obtain ⟨a0, e0, q0⟩ := h0 g0
  obtain ⟨a1, e1, q1⟩ := h1 g1
  refine ⟨(a0, a1), ⟨_, _, ?_, e0, e1⟩, q0, q1⟩
  rw [o0, o1, List.drop_zero, List.take_of_length_le (l := cs.drop _) (by simp; omega), List.take_append_drop]
theorem rds_struct3 {f0 f1 f2 : Field} {k0 : Kd α} {k1 : Kd β} {k2 : Kd γ} {Q0 : α → Prop} {Q1 : β → Prop} {Q2 : γ → Prop} (ht : P.underlying t = some (.struct #[f0, f1, f2])) (hc : P.cellsOf t = P.cellsOf f0.type + (P.cellsOf f1.type + P.cellsOf f2.type)) (o0 : f0.offset = 0) (o1 : f1.offset = P.cellsOf f0.type) (o2 : f2.offset = P.cellsOf f0.type + P.cellsOf f1.type)
    (h0 : Rds P w f0.type k0 Q0) (h1 : Rds P w f1.type k1 Q1) (h2 : Rds P w f2.type k2 Q2) : Rds P w t (Kd.pair k0 (Kd.pair k1 k2)) (fun a => Q0 a.1 ∧ Q1 a.2.1 ∧ Q2 a.2.2) := by
  intro H enc fuel cs x h
  obtain ⟨y0, y1, y2, n, _, hl, g0, g1, g2⟩ := trod_struct3 ht h
  obtain ⟨a0, e0, q0⟩ := h0 g0
  obtain ⟨a1, e1, q1⟩ := h1 g1
  obtain ⟨a2, e2, q2⟩ := h2 g2
  refine ⟨(a0, a1, a2), ⟨_, _, ?_, e0, _, _, rfl, e1, e2⟩, q0, q1, q2⟩
  rw [o0, o1, o2, List.drop_zero, List.take_of_length_le (l := cs.drop (P.cellsOf f0.type + _)) (by simp; omega), ← List.drop_drop, List.take_append_drop, List.take_append_drop]

/-- A row's slice is no longer than its weight allows. -/
theorem sized {H : Type} {enc : TypeId × Value → H} {a : Option Addr} {len cap : Nat} {d : DataW H} {ps : List MemPlace} {ts : List TypeId} {ds : List (DataW H)} {j : Nat}
    (hsz : (DataW.weightsEach P ts ds).all (· ≤ reachBytes) = true) (ht : ts[j]? = some t) (hd : ds[j]? = some d) (hu : P.underlying t = some (.slice e)) {B : Nat} (hB : P.bytesOf e = B)
    (h : DataW.Trod enc P w 0 (fun _ => true) true t (.slice a len cap) d ps) : len * B ≤ 140737488351232 := by
  obtain ⟨fuel, hf⟩ := h
  rcases open_slice hu hf with ⟨hcs, _⟩ | ⟨x, l, c, m, n, D, Pl, hcs, _, hl, _, hm, hx, _⟩
  · simp [Value.cells] at hcs
    obtain ⟨rfl, rfl, rfl⟩ := hcs
    simp
  · simp [Value.cells] at hcs
    obtain ⟨rfl, rfl, rfl⟩ := hcs
    obtain ⟨hx, _⟩ := Prod.mk.inj hx
    subst hx
    have z := sized_slice hsz ht hd hu
    rw [hB] at z
    refine Nat.le_trans (Nat.mul_le_mul_right _ ?_) (show _ ≤ 140737488351232 from z)
    simp
/-- The places of an argument lie in the heap. -/
theorem places_lt {H : Type} {enc : TypeId × Value → H} {v : Value} {d : DataW H} {ps : List MemPlace} (h : DataW.Trod enc P w 0 (fun _ => true) true t v d ps) : ∀ x ∈ ps, x.block < w.heap.size := by
  obtain ⟨fuel, hf⟩ := h
  exact DataW.trod_lt fuel t _ _ hf
/-- A slice argument: its cells, its numbers. -/
theorem open_sl {H : Type} {enc : TypeId × Value → H} {k : Kd α} {Q : α → Prop} {A : Option Addr} {n c : Nat} {d : DataW H} {ps : List MemPlace} (hr : Rds P w t (Kd.slice e k) (fun l => ∀ a ∈ l, Q a)) (h : DataW.Trod enc P w 0 (fun _ => true) true t (.slice A n c) d ps) :
    ∃ l : List α, n = l.length ∧ l.length ≤ c ∧ k.C w A l.length l ∧ ∀ a ∈ l, Q a := by
  obtain ⟨fuel, hf⟩ := h
  obtain ⟨l, ⟨A0, c0, hv, hl, hC⟩, hq⟩ := hr hf
  simp only [Value.cells, List.cons.injEq, Value.slice.injEq, and_true] at hv
  obtain ⟨rfl, rfl, rfl⟩ := hv
  exact ⟨l, rfl, hl, hC, hq⟩
/-- A struct argument. -/
theorem open_ag {H : Type} {enc : TypeId × Value → H} {k : Kd α} {Q : α → Prop} {cs : Array Value} {d : DataW H} {ps : List MemPlace} (hr : Rds P w t k Q) (h : DataW.Trod enc P w 0 (fun _ => true) true t (.agg cs) d ps) : ∃ a : α, k.K w a cs.toList ∧ Q a := by
  obtain ⟨fuel, hf⟩ := h
  obtain ⟨a, ha, hq⟩ := hr hf
  exact ⟨a, by simpa [Value.cells] using ha, hq⟩
end
end Go.Proofs.YthoemenchimggaaDoor.Rd
