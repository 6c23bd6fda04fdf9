import Derived.Test.YtgbjilcfgpbcgaaZpWWords
import Derived.Lib.SmallJoins
import Derived.SizedLaws
import Derived.Carry
import Derived.ChangeOld
/- From what a row's argument reads as to the values' own types, with how long its slices may be, at whatever depth. -/
namespace Go.Proofs.Ytgbjilcfgpbcgaa.Rd
open Go.ChangeShapes Go.WideShapes Go.RowKit Go.Deep Go.Joins Go.Proofs.YtgbjilcfgpbcgaaW.PrintWords
/-- What a reading of type t says, no weight of which is too great: cells of the kind k. Q: what the reading says beside. -/
def RdsW {α : Type} (P : Program) (w : World) (t : TypeId) (k : Kd α) (Q : α → Prop) : Prop :=
  ∀ (H : Type) (enc : TypeId × Value → H) (fuel : Nat) (cs : List Value) (x : DataW H × List MemPlace), DataW.trod enc P w 0 (fun _ => true) true fuel t cs = some x → (∀ n ∈ x.1.weights P t, n ≤ reachBytes) → ∃ a, k.K w a cs ∧ Q a
section
variable {P : Program} {w : World} {t e : TypeId} {α β γ : Type}
theorem rdsW_int {k : IntKind} (ht : P.underlying t = some (.int k)) : RdsW P w t (Kd.int k) (fun n => (Lit.int k n).wf = true) := by
  intro H enc fuel cs x h _
  obtain ⟨n, rfl, _, hw⟩ := DataW.trod_int ht h
  exact ⟨n, rfl, hw⟩
theorem weights_all {H : Type} {P : Program} {e : TypeId} : ∀ {l : List (DataW H)} {d : DataW H}, d ∈ l → ∀ n ∈ d.weights P e, n ∈ DataW.weightsAll P e l
  | a :: r, d, h, n, hn => by
    simp only [DataW.weightsAll, List.mem_append]
    rcases List.mem_cons.1 h with rfl | h
    · exact .inl hn
    · exact .inr (weights_all h n hn)
theorem rdsW_slice {k : Kd α} {Q : α → Prop} (ht : P.underlying t = some (.slice e)) (hc : P.cellsOf e = k.sz) (he : RdsW P w e k Q) : RdsW P w t (Kd.slice e k) (fun l => l.length * P.bytesOf e ≤ reachBytes ∧ ∀ a ∈ l, Q a) := by
  intro H enc fuel cs x h hw
  rcases DataW.trod_slice ht h with ⟨rfl, _⟩ | ⟨a, len, cap, elems, rest, n, hn, rfl, hx1, _, hl, hm, hlen, hx, _⟩
  · exact ⟨[], ⟨none, 0, rfl, Nat.le_refl _, rfl, by simp, fun h => absurd h (Nat.lt_irrefl 0)⟩, by simp, by simp⟩
  · have hy1 : x.1 = .slice (elems.map (·.1)) (rest.map (·.1)) := by
      have := congrArg Prod.fst hx1
      simpa using this
    have hwt : x.1.weights P t = (elems.length + rest.length) * P.bytesOf e :: (DataW.weightsAll P e (elems.map (·.1)) ++ DataW.weightsAll P e (rest.map (·.1))) := by
      rw [hy1]; simp [DataW.weights, ht]
    have hbound : (elems.length + rest.length) * P.bytesOf e ≤ reachBytes := hw _ (by rw [hwt]; exact List.mem_cons_self)
    have helem : ∀ y ∈ elems, ∀ n ∈ y.1.weights P e, n ≤ reachBytes := fun y hy n hn => hw n (by
      rw [hwt]
      exact List.mem_cons_of_mem _ (List.mem_append_left _ (weights_all (List.mem_map_of_mem hy) n hn)))
    have key : ∀ i : Nat, i < len → ∃ b : α, (∃ c, c.length = k.sz ∧ k.K w b c ∧ ∀ j u, c[j]? = some u → w.cell? (a.add (i * k.sz + j)) = some u) ∧ Q b := by
      intro i hi
      have hxi := hx i hi
      rw [List.getElem?_eq_getElem (by omega)] at hxi
      obtain ⟨cs', h1, h2⟩ := Option.bind_eq_some_iff.1 hxi
      obtain ⟨b, hb, hq⟩ := he _ _ _ _ _ h2 (helem _ (List.getElem_mem _))
      refine ⟨b, ⟨cs', k.K_len hb, hb, fun j u hu => ?_⟩, hq⟩
      rw [hc] at h1
      have hj : j < k.sz := by
        have := k.K_len hb
        rw [← this]
        exact (List.getElem?_eq_some_iff.1 hu).1
      have h3 := (World.cells?_some h1).2.2 j hj
      rw [hu, Deep.add_add] at h3
      exact h3
    have hf : ∀ m, m ≤ len → ∃ l : List α, l.length = m ∧ ∀ i b, l[i]? = some b → (∃ c, c.length = k.sz ∧ k.K w b c ∧ ∀ j u, c[j]? = some u → w.cell? (a.add (i * k.sz + j)) = some u) ∧ Q b := by
      intro m
      induction m with
      | zero => exact fun _ => ⟨[], rfl, fun i b h => by simp at h⟩
      | succ m ih =>
        intro hm
        obtain ⟨l, hl, hp⟩ := ih (by omega)
        obtain ⟨b, hb⟩ := key m (by omega)
        refine ⟨l ++ [b], by simp [hl], fun i c hi => ?_⟩
        rcases Nat.lt_or_ge i l.length with h | h
        · rw [List.getElem?_append_left h] at hi; exact hp i c hi
        · rw [List.getElem?_append_right h] at hi
          have h0 : i - l.length = 0 := by
            by_cases h0 : i - l.length = 0
            · exact h0
            · rw [List.getElem?_eq_none (by simp; omega)] at hi; cases hi
          rw [h0] at hi
          obtain rfl : b = c := by simpa using hi
          obtain rfl : i = m := by omega
          exact hb
    obtain ⟨l, hll, hp⟩ := hf len (Nat.le_refl _)
    refine ⟨l, ⟨some a, cap, by rw [hll], by omega, rfl, ?_, fun _ => ⟨a, rfl, fun j p hj => (hp j p hj).1⟩⟩, ?_, fun b hb => ?_⟩
    · have : maxLen ≤ 9223372036854775807 := by decide
      omega
    · rw [hll, ← hlen]
      exact Nat.le_trans (Nat.mul_le_mul_right _ (Nat.le_add_right _ _)) hbound
    · obtain ⟨i, hi⟩ := List.getElem?_of_mem hb
      exact (hp i b hi).2
theorem rdsW_iso {k : Kd α} {Q : α → Prop} (f : β → α) (g : α → β) (hf : ∀ a, f (g a) = a) (h : RdsW P w t k Q) : RdsW P w t (Kd.iso k f) (fun b => Q (f b)) := by
  intro H enc fuel cs x hx hw
  obtain ⟨a, ha, hq⟩ := h _ _ _ _ _ hx hw
  exact ⟨g a, show k.K w (f (g a)) cs by rwa [hf], show Q (f (g a)) by rwa [hf]⟩
/-- The fields of a struct from the cell off on. -/
def FldsW {α : Type} (P : Program) (w : World) (fs : List Field) (off tot : Nat) (k : Kd α) (Q : α → Prop) : Prop :=
  ∀ (H : Type) (enc : TypeId × Value → H) (fuel : Nat) (cs : List Value), cs.length = tot →
    (∀ f ∈ fs, ∃ y, DataW.trod enc P w 0 (fun _ => true) true fuel f.type ((cs.drop f.offset).take (P.cellsOf f.type)) = some y ∧ ∀ n ∈ y.1.weights P f.type, n ≤ reachBytes) → ∃ a, k.K w a (cs.drop off) ∧ Q a
theorem fldsW_one {f : Field} {tot : Nat} {k : Kd α} {Q : α → Prop} {off : Nat} (ho : f.offset = off) (hc : tot = off + P.cellsOf f.type) (h : RdsW P w f.type k Q) : FldsW P w [f] off tot k Q := by
  intro H enc fuel cs hl hy
  obtain ⟨y, hy, hw⟩ := hy f List.mem_cons_self
  obtain ⟨a, ha, hq⟩ := h _ _ _ _ _ hy hw
  rw [ho, List.take_of_length_le (by simp; omega)] at ha
  exact ⟨a, ha, hq⟩
theorem fldsW_cons {f : Field} {fs : List Field} {tot : Nat} {k0 : Kd α} {k1 : Kd β} {Q0 : α → Prop} {Q1 : β → Prop} {off off' : Nat} (ho : f.offset = off) (hc : off' = off + P.cellsOf f.type) (h : RdsW P w f.type k0 Q0) (hs : FldsW P w fs off' tot k1 Q1) :
    FldsW P w (f :: fs) off tot (Kd.pair k0 k1) (fun a => Q0 a.1 ∧ Q1 a.2) := by
  intro H enc fuel cs hl hy
  obtain ⟨y, hy0, hw⟩ := hy f List.mem_cons_self
  obtain ⟨a, ha, hq⟩ := h _ _ _ _ _ hy0 hw
  obtain ⟨b, hb, hr⟩ := hs _ _ _ _ hl (fun g hg => hy g (List.mem_cons_of_mem _ hg))
  refine ⟨(a, b), ⟨_, _, ?_, ha, hb⟩, hq, hr⟩
  rw [ho, hc, ← List.drop_drop, List.take_append_drop]
theorem rdsW_struct {fs : Array Field} {tot : Nat} {k : Kd α} {Q : α → Prop} (ht : P.underlying t = some (.struct fs)) (hc : P.cellsOf t = tot) (h : FldsW P w fs.toList 0 tot k Q) : RdsW P w t k Q := by
  intro H enc fuel cs x hx hw
  obtain ⟨xs, n, rfl, hx1, hl, hlen, hg⟩ := DataW.trod_struct ht hx
  have hy1 : x.1 = .agg (xs.map (·.1)) := by
    have := congrArg Prod.fst hx1
    simpa using this
  have hwt : x.1.weights P t = DataW.weightsEach P (fs.toList.map (·.type)) (xs.map (·.1)) := by
    rw [hy1]; simp [DataW.weights, ht]
  have := h _ enc n cs (by omega) (fun f hm => by
    obtain ⟨i, hi⟩ := List.getElem?_of_mem hm
    have hlt : i < fs.size := by
      have := (List.getElem?_eq_some_iff.1 hi).1
      simpa using this
    have hgi := hg i f (by simpa using hi)
    rw [List.getElem?_eq_getElem (by omega)] at hgi
    refine ⟨_, hgi, fun n hn => hw n ?_⟩
    rw [hwt]
    exact DataW.weights_mem_each (j := i) (t := f.type) (d := (xs[i]'(by omega)).1) (by rw [List.getElem?_map, hi]; rfl) (by rw [List.getElem?_map, List.getElem?_eq_getElem (by omega)]; rfl) n hn)
  rwa [List.drop_zero] at this
end
/-- The places of an argument lie in the heap. -/
theorem places_lt {P : Program} {w : World} {t : TypeId} {H : Type} {enc : TypeId × Value → H} {v : Value} {d : DataW H} {ps : List MemPlace} (h : DataW.Trod enc P w 0 (fun _ => true) true t v d ps) : ∀ x ∈ ps, x.block < w.heap.size := by
  obtain ⟨fuel, hf⟩ := h
  exact DataW.trod_lt fuel t _ _ hf
/-- An argument that is a slice. -/
theorem open_slW {P : Program} {w : World} {t e : TypeId} {α : Type} {k : Kd α} {Q : List α → Prop} (hrd : RdsW P w t (Kd.slice e k) Q) {H : Type} {enc : TypeId × Value → H} {A : Option Addr} {n c : Nat} {d : DataW H} {ps : List MemPlace} {ts : List TypeId} {ds : List (DataW H)} {j : Nat}
    (hsz : (DataW.weightsEach P ts ds).all (· ≤ reachBytes) = true) (ht : ts[j]? = some t) (hd : ds[j]? = some d) (h : DataW.Trod enc P w 0 (fun _ => true) true t (.slice A n c) d ps) : ∃ l, l.length = n ∧ n ≤ c ∧ k.C w A n l ∧ Q l := by
  obtain ⟨fuel, hf⟩ := h
  obtain ⟨l, ⟨A', c', hv, hc, hC⟩, hq⟩ := hrd _ _ _ _ _ hf (fun m hm => of_decide_eq_true (List.all_eq_true.1 hsz m (DataW.weights_mem_each ht hd m hm)))
  have hv' : (Value.slice A n c) = .slice A' l.length c' := by
    have : [Value.slice A n c] = [.slice A' l.length c'] := hv
    injection this
  injection hv' with h1 h2 h3
  subst h1 h2 h3
  exact ⟨l, rfl, hc, hC, hq⟩
end Go.Proofs.Ytgbjilcfgpbcgaa.Rd
