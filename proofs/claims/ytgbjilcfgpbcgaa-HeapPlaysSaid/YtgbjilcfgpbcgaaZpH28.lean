import Derived.Test.YtgbjilcfgpbcgaaZpH27
import Derived.Test.YtgbjilcfgpbcgaaZpH23
/- Layer 8: the reference's heap in memory; lay, walked. -/
namespace Go.Proofs.Ytgbjilcfgpbcgaa
open Go.RowKit Go.Proofs.YtgbjilcfgpbcgaaW.PrintWords Go.Proofs.YtgbjilcfgpbcgaaW.PrintLast Go.Proofs.YtgbjilcfgpbcgaaW.PrintMore
set_option linter.unusedSimpArgs false
set_option linter.unusedVariables false
/-- The reference's heap at block g: its slots vs, all its blocks in O. -/
structure RefAt (B : Nat) (O : Nat → Prop) (w : World) (g : Nat) (sl : List S51) (la : Int) (vs : Value) : Prop where
  blk : w.heap[g]? = some (.cells #[vs, .int .i64 la] 48 (0, 0))
  own : B ≤ g ∧ O g
  slots : k51.R 51 w B O vs sl
structure R8 (B : Nat) (w : World) (g : Nat) (sl : List S51) (la : Int) (O : Nat → Prop) : Prop where
  at_ : ∃ vs, RefAt B O w g sl la vs
  own : ∀ k, O k → B ≤ k ∧ k < w.heap.size
  base : B ≤ w.heap.size
  bd : sl.length ≤ 4000000000000
/-- What a call on it leaves behind. -/
structure Nr (B : Nat) (w : World) (g : Nat) (O : Nat → Prop) (sl : List S51) (la : Int) (w' : World) (O' : Nat → Prop) : Prop where
  heap : R8 B w' g sl la O'
  fr : Fr B O w w'
  old : ∀ k, k < w.heap.size → O' k → O k
theorem RefAt.keep {B : Nat} {O : Nat → Prop} {w w' : World} {g : Nat} {sl : List S51} {la : Int} {vs : Value} (h : RefAt B O w g sl la vs) (hk : ∀ k, O k → k < w.heap.size → w'.heap[k]? = w.heap[k]?) : RefAt B O w' g sl la vs :=
  ⟨(hk g h.own.2 (blk_lt h.blk)).trans h.blk, h.own, Kd.R_step h.slots hk⟩
theorem R8.below {B : Nat} {w w' : World} {g : Nat} {sl : List S51} {la : Int} {O : Nat → Prop} (h : R8 B w g sl la O) (hk : Below w.heap.size w w') : R8 B w' g sl la O := by
  obtain ⟨⟨vs, ha⟩, ho, hb, hd⟩ := h
  exact ⟨⟨vs, ha.keep fun k _ hl => hk.block k hl⟩, fun k hk' => ⟨(ho k hk').1, Nat.lt_of_lt_of_le (ho k hk').2 hk.size⟩, Nat.le_trans hb hk.size, hd⟩
theorem R8.kept {B : Nat} {w w' : World} {g : Nat} {sl : List S51} {la : Int} {O : Nat → Prop} (h : R8 B w g sl la O) {S : Nat → Prop} (hk : Kept w w' S) (hn : ∀ k, O k → ¬ S k) : R8 B w' g sl la O := by
  obtain ⟨⟨vs, ha⟩, ho, hb, hd⟩ := h
  exact ⟨⟨vs, ha.keep fun k hk' hl => hk.2 k hl (hn k hk')⟩, fun k hk' => ⟨(ho k hk').1, Nat.lt_of_lt_of_le (ho k hk').2 hk.1⟩, Nat.le_trans hb hk.1, hd⟩
theorem R8.is48 {B : Nat} {w : World} {g : Nat} {sl : List S51} {la : Int} {O : Nat → Prop} (h : R8 B w g sl la O) : Go.Proofs.Ytgbjilcfgpbcgaa.B.IsS48 w w g sl la := by
  obtain ⟨⟨vs, ha⟩, _⟩ := h
  obtain ⟨A, c, rfl, hl, hC⟩ := Kd.R_reads ha.slots
  exact ⟨A, c, ha.blk, Nat.zero_le _, hC⟩
/-- Find, Behind, Len, Pages. -/
theorem R8.find {B : Nat} {w : World} {g : Nat} {sl : List S51} {la : Int} {O : Nat → Prop} (h : R8 B w g sl la O) (id : Int) : Calls Try.prog 21 #[.pointer (some ⟨g, 0, none⟩), .int .i64 id] w fun e w' => ∃ r, e = .returned (.int .i64 r) ∧ FindRes sl id r ∧ Below w.heap.size w w' := by
  obtain ⟨r, h1, h2⟩ := find_l sl la id h.bd sl.length 0 (by omega) (fun j hj => by omega)
  exact (Go.Proofs.Ytgbjilcfgpbcgaa.B.haspref08_Heap_Find.calls (sl.length + 1) g sl la id r la w w h.is48 (Below.refl _ _) h1).mono fun e w' ⟨he, _, hb, _⟩ => ⟨r, he, h2, hb⟩
theorem R8.behind {B : Nat} {w : World} {g : Nat} {sl : List S51} {la : Int} {O : Nat → Prop} (h : R8 B w g sl la O) (a : Int) : Calls Try.prog 23 #[.pointer (some ⟨g, 0, none⟩), .int .i64 a] w fun e w' => ∃ r, e = .returned (.tuple #[.int .i64 r, .bool (decide (r > 0))]) ∧ BehRes sl a sl.length r ∧ Below w.heap.size w w' := by
  obtain ⟨r, h1, h2⟩ := beh_l sl la a h.bd sl.length 0 0 (by omega) (.inl ⟨rfl, fun j hj => by omega⟩)
  exact (Go.Proofs.Ytgbjilcfgpbcgaa.B.haspref08_Heap_Behind.calls (sl.length + 1) g sl la a r _ la w w h.is48 (Below.refl _ _) h1).mono fun e w' ⟨he, _, hb, _⟩ => ⟨r, he, h2, hb⟩
theorem R8.len {B : Nat} {w : World} {g : Nat} {sl : List S51} {la : Int} {O : Nat → Prop} (h : R8 B w g sl la O) : Calls Try.prog 33 #[.pointer (some ⟨g, 0, none⟩)] w fun e w' => e = .returned (.int .i64 (occ sl sl.length).length) ∧ Below w.heap.size w w' :=
  (Go.Proofs.Ytgbjilcfgpbcgaa.B.haspref08_Heap_Len.calls (sl.length + 1) g sl la _ la w w h.is48 (Below.refl _ _) (len_l sl la h.bd sl.length 0 (by omega))).mono fun e w' ⟨he, _, hb, _⟩ => ⟨he, hb⟩
theorem R8.pages {B : Nat} {w : World} {g : Nat} {sl : List S51} {la : Int} {O : Nat → Prop} (h : R8 B w g sl la O) (hid : ∀ j, 0 ≤ idA sl j) : Calls Try.prog 34 #[.pointer (some ⟨g, 0, none⟩)] w fun e w' => ∃ v, e = .returned v ∧ ki.R 3 w' w.heap.size (fun _ => True) v (pgL sl sl.length) ∧ Below w.heap.size w w' := by
  obtain ⟨k, hk⟩ := pages_l sl la h.bd hid sl.length 0 (by omega)
  have e0 : pgL sl 0 = [] := by simp [pgL, topP]
  rw [e0] at hk
  exact (Go.Proofs.Ytgbjilcfgpbcgaa.B.haspref08_Heap_Pages.calls k g sl la _ la w w h.is48 (Below.refl _ _) hk).mono fun e w' ⟨v, he, hr, _, hb, _⟩ => ⟨v, he, hr, hb⟩
end Go.Proofs.Ytgbjilcfgpbcgaa
