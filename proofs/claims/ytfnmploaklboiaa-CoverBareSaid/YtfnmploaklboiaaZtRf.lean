import Derived.Test.YtfnmploaklboiaaZtWWords
import Derived.Lib.SmallJoins
import Derived.SizedLaws
import Derived.Carry
import Derived.ChangeOld
/- From what a row's argument reads as to the values' own types of the printed texts: structs of any number of fields, and a struct that is nested in itself (by the reading's fuel). -/
namespace Go.Proofs.Ytfnmploaklboiaa.Rd
open Go.ChangeShapes Go.WideShapes Go.RowKit Go.Deep Go.Joins Go.Proofs.YtfnmploaklboiaaW.PrintWords
/-- What a reading of type t with at most m steps says: cells of the kind k. Q: what the reading says beside. -/
def RdsF {α : Type} (P : Program) (w : World) (t : TypeId) (k : Kd α) (Q : α → Prop) (m : Nat) : Prop :=
  ∀ (H : Type) (enc : TypeId × Value → H) (fuel : Nat) (cs : List Value) (x : DataW H × List MemPlace), fuel ≤ m → DataW.trod enc P w 0 (fun _ => true) true fuel t cs = some x → ∃ a, k.K w a cs ∧ Q a
section
variable {P : Program} {w : World} {t e : TypeId} {α β γ : Type}
theorem rdsF_weak {k : Kd α} {Q R : α → Prop} {m : Nat} (h : RdsF P w t k Q m) (hq : ∀ a, Q a → R a) : RdsF P w t k R m := by
  intro H enc fuel cs x hf hx
  obtain ⟨a, b, c⟩ := h _ _ _ _ _ hf hx
  exact ⟨a, b, hq a c⟩
theorem rdsF_less {k : Kd α} {Q : α → Prop} {m n : Nat} (hn : n ≤ m) (h : RdsF P w t k Q m) : RdsF P w t k Q n := fun _ _ _ _ _ hf hx => h _ _ _ _ _ (Nat.le_trans hf hn) hx
theorem rdsF_int {k : IntKind} (m : Nat) (ht : P.underlying t = some (.int k)) : RdsF P w t (Kd.int k) (fun n => (Lit.int k n).wf = true) m := by
  intro H enc fuel cs x _ h
  obtain ⟨n, rfl, _, hw⟩ := DataW.trod_int ht h
  exact ⟨n, rfl, hw⟩
theorem rdsF_bool (m : Nat) (ht : P.underlying t = some .bool) : RdsF P w t Kd.bool (fun _ => True) m := by
  intro H enc fuel cs x _ h
  obtain ⟨b, rfl, _⟩ := DataW.trod_bool ht h
  exact ⟨b, rfl, trivial⟩
theorem rdsF_string (m : Nat) (ht : P.underlying t = some .string) : RdsF P w t Kd.string (fun s => s.size ≤ maxLen) m := by
  intro H enc fuel cs x _ h
  obtain ⟨s, rfl, _, hs⟩ := DataW.trod_string ht h
  exact ⟨s, rfl, hs⟩
theorem rdsF_slice {k : Kd α} {Q : α → Prop} {m : Nat} (ht : P.underlying t = some (.slice e)) (hc : P.cellsOf e = k.sz) (he : RdsF P w e k Q m) : RdsF P w t (Kd.slice e k) (fun l => ∀ a ∈ l, Q a) (m + 1) := by
  intro H enc fuel cs x hfu h
  rcases DataW.trod_slice ht h with ⟨rfl, _⟩ | ⟨a, len, cap, elems, rest, n, hn, rfl, _, _, hl, hm, hlen, hx, _⟩
  · exact ⟨[], ⟨none, 0, rfl, Nat.le_refl _, rfl, by simp, fun h => absurd h (Nat.lt_irrefl 0)⟩, by simp⟩
  · have key : ∀ i : Nat, i < len → ∃ b : α, (∃ c, c.length = k.sz ∧ k.K w b c ∧ ∀ j u, c[j]? = some u → w.cell? (a.add (i * k.sz + j)) = some u) ∧ Q b := by
      intro i hi
      have hxi := hx i hi
      rw [List.getElem?_eq_getElem (by omega)] at hxi
      obtain ⟨cs', h1, h2⟩ := Option.bind_eq_some_iff.1 hxi
      obtain ⟨b, hb, hq⟩ := he _ _ _ _ _ (show n ≤ m by omega) h2
      refine ⟨b, ⟨cs', k.K_len hb, hb, fun j u hu => ?_⟩, hq⟩
      rw [hc] at h1
      have hj : j < k.sz := by
        have := k.K_len hb
        rw [← this]
        exact (List.getElem?_eq_some_iff.1 hu).1
      have h3 := (World.cells?_some h1).2.2 j hj
      rw [hu, Deep.add_add] at h3
      exact h3
    have hf : ∀ m, m ≤ len → ∃ l : List α, l.length = m ∧ ∀ i b, l[i]? = some b → (∃ c, c.length = k.sz ∧ k.K w b c ∧ ∀ j u, c[j]? = some u → w.cell? (a.add (i * k.sz + j)) = some u) ∧ Q b := by
      intro m
      induction m with
      | zero => exact fun _ => ⟨[], rfl, fun i b h => by simp at h⟩
      | succ m ih =>
        intro hm
        obtain ⟨l, hl, hp⟩ := ih (by omega)
        obtain ⟨b, hb⟩ := key m (by omega)
        refine ⟨l ++ [b], by simp [hl], fun i c hi => ?_⟩
        rcases Nat.lt_or_ge i l.length with h | h
        · rw [List.getElem?_append_left h] at hi; exact hp i c hi
        · rw [List.getElem?_append_right h] at hi
          have h0 : i - l.length = 0 := by
            by_cases h0 : i - l.length = 0
            · exact h0
            · rw [List.getElem?_eq_none (by simp; omega)] at hi; cases hi
          rw [h0] at hi
          obtain rfl : b = c := by simpa using hi
          obtain rfl : i = m := by omega
          exact hb
    obtain ⟨l, hll, hp⟩ := hf len (Nat.le_refl _)
    refine ⟨l, ⟨some a, cap, by rw [hll], by omega, rfl, ?_, fun _ => ⟨a, rfl, fun j p hj => (hp j p hj).1⟩⟩, fun b hb => ?_⟩
    · have : maxLen ≤ 9223372036854775807 := by decide
      omega
    · obtain ⟨i, hi⟩ := List.getElem?_of_mem hb
      exact (hp i b hi).2
theorem rdsF_iso {k : Kd α} {Q : α → Prop} {m : Nat} (f : β → α) (g : α → β) (hf : ∀ a, f (g a) = a) (h : RdsF P w t k Q m) : RdsF P w t (Kd.iso k f) (fun b => Q (f b)) m := by
  intro H enc fuel cs x hfu hx
  obtain ⟨a, ha, hq⟩ := h _ _ _ _ _ hfu hx
  exact ⟨g a, show k.K w (f (g a)) cs by rwa [hf], show Q (f (g a)) by rwa [hf]⟩
/-- The fields of a struct from the cell off on, read with at most m steps each. -/
def Flds {α : Type} (P : Program) (w : World) (fs : List Field) (off tot : Nat) (k : Kd α) (Q : α → Prop) (m : Nat) : Prop :=
  ∀ (H : Type) (enc : TypeId × Value → H) (fuel : Nat) (cs : List Value), fuel ≤ m → cs.length = tot →
    (∀ f ∈ fs, ∃ y, DataW.trod enc P w 0 (fun _ => true) true fuel f.type ((cs.drop f.offset).take (P.cellsOf f.type)) = some y) → ∃ a, k.K w a (cs.drop off) ∧ Q a
theorem flds_one {f : Field} {tot : Nat} {k : Kd α} {Q : α → Prop} {m off : Nat} (ho : f.offset = off) (hc : tot = off + P.cellsOf f.type) (h : RdsF P w f.type k Q m) : Flds P w [f] off tot k Q m := by
  intro H enc fuel cs hf hl hy
  obtain ⟨y, hy⟩ := hy f List.mem_cons_self
  obtain ⟨a, ha, hq⟩ := h _ _ _ _ _ hf hy
  rw [ho, List.take_of_length_le (by simp; omega)] at ha
  exact ⟨a, ha, hq⟩
theorem flds_cons {f : Field} {fs : List Field} {tot : Nat} {k0 : Kd α} {k1 : Kd β} {Q0 : α → Prop} {Q1 : β → Prop} {m off off' : Nat} (ho : f.offset = off) (hc : off' = off + P.cellsOf f.type) (h : RdsF P w f.type k0 Q0 m) (hs : Flds P w fs off' tot k1 Q1 m) :
    Flds P w (f :: fs) off tot (Kd.pair k0 k1) (fun a => Q0 a.1 ∧ Q1 a.2) m := by
  intro H enc fuel cs hf hl hy
  obtain ⟨y, hy0⟩ := hy f List.mem_cons_self
  obtain ⟨a, ha, hq⟩ := h _ _ _ _ _ hf hy0
  obtain ⟨b, hb, hr⟩ := hs _ _ _ _ hf hl (fun g hg => hy g (List.mem_cons_of_mem _ hg))
  refine ⟨(a, b), ⟨_, _, ?_, ha, hb⟩, hq, hr⟩
  rw [ho, hc, ← List.drop_drop, List.take_append_drop]
theorem rdsF_struct {fs : Array Field} {tot : Nat} {k : Kd α} {Q : α → Prop} {m : Nat} (ht : P.underlying t = some (.struct fs)) (hc : P.cellsOf t = tot) (h : Flds P w fs.toList 0 tot k Q m) : RdsF P w t k Q (m + 1) := by
  intro H enc fuel cs x hf hx
  obtain ⟨xs, n, rfl, _, hl, hlen, hg⟩ := DataW.trod_struct ht hx
  have := h _ enc n cs (by omega) (by omega) (fun f hm => by
    obtain ⟨i, hi⟩ := List.getElem?_of_mem hm
    have hlt : i < fs.size := by
      have := (List.getElem?_eq_some_iff.1 hi).1
      simpa using this
    have := hg i f (by simpa using hi)
    rw [List.getElem?_eq_getElem (by omega)] at this
    exact ⟨_, this⟩)
  rwa [List.drop_zero] at this
/-- A struct that is nested in itself: read by induction on the reading's fuel. -/
theorem rdsF_fix {F : Kd α → Kd α} {sz : Nat} {E : List Nat} (hs : ∀ n, (Kd.upto F sz E n).sz = sz) (hE : ∀ n q, q ∈ (Kd.upto F sz E n).E → q ∈ E)
    (step : ∀ n (d : Kd α), d.sz = sz → RdsF P w t d (fun _ => True) n → RdsF P w t (F d) (fun _ => True) (n + 1)) (m : Nat) : RdsF P w t (Kd.fix F sz E hs hE) (fun _ => True) m := by
  have key : ∀ n, RdsF P w t (Kd.upto F sz E n) (fun _ => True) n := by
    intro n
    induction n with
    | zero => intro H enc fuel cs x hf hx; obtain rfl : fuel = 0 := by omega
              rw [DataW.trod] at hx; cases hx
    | succ n ih => exact step n _ (hs n) ih
  intro H enc fuel cs x hf hx
  obtain ⟨a, ha, hq⟩ := key fuel _ _ _ _ _ (Nat.le_refl _) hx
  exact ⟨a, ⟨fuel, ha⟩, hq⟩
/-- The places of an argument lie in the heap. -/
theorem places_lt {H : Type} {enc : TypeId × Value → H} {v : Value} {d : DataW H} {ps : List MemPlace} (h : DataW.Trod enc P w 0 (fun _ => true) true t v d ps) : ∀ x ∈ ps, x.block < w.heap.size := by
  obtain ⟨fuel, hf⟩ := h
  exact DataW.trod_lt fuel t _ _ hf
end
end Go.Proofs.Ytfnmploaklboiaa.Rd
