import Derived.Test.YtfnmploaklboiaaZsVx1
/- Layer 22: CoverStronger and CoverBare: what is common to their walks. -/
namespace Go.Proofs.Ytfnmploaklboiaa
open Go.RowKit Go.Proofs.YtfnmploaklboiaaW.PrintWords A V
set_option linter.unusedSimpArgs false
set_option linter.unusedVariables false
theorem info33 : (Try.prog.info? 33).map (fun i => (i.zero, i.size, i.bytes)) = some (some z33v, 14, 176) := by kernel_rfl
/-- Every mode of a lock or a move becomes X. -/
def toX (x : S33) : S33 := if x.f0 = 1 ∨ x.f0 = 3 then { x with f3 := 6, f4 := 6 } else x
/-- A jump's aim, where a lock more stands ahead. -/
def bump (x : S33) : S33 := if x.f0 = 3 ∨ x.f0 = 4 ∨ x.f0 = 8 then { x with f2 := wrap64 (x.f2 + 1) } else x
def lockI (tab : ByteArray) (m : Int) : S33 := ⟨1, 0, 0, m, 0, tab, 0, [], [], false, false, [], 0, []⟩
/-- An element's cells, and what is made of them. -/
theorem elem_full {w0 W : World} {A : Option Addr} {l : List S33} (hR : Kd.C k33 w0 A l.length l) (hB : Below w0.heap.size w0 W) (i : Int) (h0 : 0 ≤ i) (h1 : i < l.length) : ∃ ad A7 A8 A11 A13 c7 c8 c11 c13, A = some ad ∧
    W.cell? (ad.add (i.toNat * 14)) = some (.int .i64 (rd_T33 l i).f0) ∧ W.cell? ⟨(ad.add (i.toNat * 14)).block, (ad.add (i.toNat * 14)).off + 1, none⟩ = some (.int .i64 (rd_T33 l i).f1) ∧ W.cell? ⟨(ad.add (i.toNat * 14)).block, (ad.add (i.toNat * 14)).off + 2, none⟩ = some (.int .i64 (rd_T33 l i).f2) ∧
    W.cell? ⟨(ad.add (i.toNat * 14)).block, (ad.add (i.toNat * 14)).off + 3, none⟩ = some (.int .i64 (rd_T33 l i).f3) ∧ W.cell? ⟨(ad.add (i.toNat * 14)).block, (ad.add (i.toNat * 14)).off + 4, none⟩ = some (.int .i64 (rd_T33 l i).f4) ∧ W.cell? ⟨(ad.add (i.toNat * 14)).block, (ad.add (i.toNat * 14)).off + 5, none⟩ = some (.string (rd_T33 l i).f5) ∧
    W.cell? ⟨(ad.add (i.toNat * 14)).block, (ad.add (i.toNat * 14)).off + 6, none⟩ = some (.int .i64 (rd_T33 l i).f6) ∧ W.cell? ⟨(ad.add (i.toNat * 14)).block, (ad.add (i.toNat * 14)).off + 7, none⟩ = some (.slice A7 (rd_T33 l i).f7.length c7) ∧ W.cell? ⟨(ad.add (i.toNat * 14)).block, (ad.add (i.toNat * 14)).off + 8, none⟩ = some (.slice A8 (rd_T33 l i).f8.length c8) ∧
    W.cell? ⟨(ad.add (i.toNat * 14)).block, (ad.add (i.toNat * 14)).off + 9, none⟩ = some (.bool (rd_T33 l i).f9) ∧ W.cell? ⟨(ad.add (i.toNat * 14)).block, (ad.add (i.toNat * 14)).off + 10, none⟩ = some (.bool (rd_T33 l i).f10) ∧ W.cell? ⟨(ad.add (i.toNat * 14)).block, (ad.add (i.toNat * 14)).off + 11, none⟩ = some (.slice A11 (rd_T33 l i).f11.length c11) ∧
    W.cell? ⟨(ad.add (i.toNat * 14)).block, (ad.add (i.toNat * 14)).off + 12, none⟩ = some (.int .i64 (rd_T33 l i).f12) ∧ W.cell? ⟨(ad.add (i.toNat * 14)).block, (ad.add (i.toNat * 14)).off + 13, none⟩ = some (.slice A13 (rd_T33 l i).f13.length c13) ∧
    (∀ z : S33, z.f7 = (rd_T33 l i).f7 → z.f8 = (rd_T33 l i).f8 → z.f11 = (rd_T33 l i).f11 → z.f13 = (rd_T33 l i).f13 → k33.K w0 z (iv z A7 A8 A11 A13 c7 c8 c11 c13).toList) := by
  obtain ⟨ad, A7, c7, A8, c8, A11, c11, A13, c13, e, x0, x1, x2, x3, x4, x5, x6, x7, x8, x9, x10, x11, x12, x13, l7, g7, l8, g8, l11, g11, l13, g13⟩ := at_T33 hR i h0 h1
  have T : ∀ {a : Addr} {v : Value}, w0.cell? a = some v → W.cell? a = some v := fun h => (hB.cell (World.block_lt_of_cell? w0 _ h)).trans h
  refine ⟨ad, A7, A8, A11, A13, c7, c8, c11, c13, e, T x0, T x1, T x2, T x3, T x4, T x5, T x6, T x7, T x8, T x9, T x10, T x11, T x12, T x13, fun z h7 h8 h11 h13 => ?_⟩
  rw [← h7] at l7 g7
  rw [← h8] at l8 g8
  rw [← h11] at l11 g11
  rw [← h13] at l13 g13
  exact k33_mk w0 z l7 g7 l8 g8 l11 g11 l13 g13
/-- The argument's box gp, and the plan gq that is made: its code so far is li. -/
def Cv (w W : World) (gp gq : Nat) (t : ByteArray) (A : Option Addr) (n c : Nat) (li : List S33) : Prop :=
  ∃ v, W.heap[gp]? = some (.cells #[.string t, .slice A n c] 25 (0, 0)) ∧ W.heap[gq]? = some (.cells #[.string t, v] 25 (0, 0)) ∧ (Kd.fixed k33 w).R 33 W w.heap.size (fun _ => True) v li ∧ Below w.heap.size w W
theorem Cv.keep {w W W2 : World} {gp gq : Nat} {t : ByteArray} {A : Option Addr} {n c : Nat} {li : List S33} (h : Cv w W gp gq t A n c li) (hb : Below W.heap.size W W2) : Cv w W2 gp gq t A n c li := by
  obtain ⟨v, h1, h2, h3, h4⟩ := h
  exact ⟨v, (hb.block gp (blk_lt h1)).trans h1, (hb.block gq (blk_lt h2)).trans h2, Kd.R_below h3 hb, below_step h4 hb⟩
theorem Cv.push {w W w1 : World} {gp gq : Nat} {t : ByteArray} {A : Option Addr} {n c : Nat} {li : List S33} {v v1 : Value} {p : S33}
    (h1 : W.heap[gp]? = some (.cells #[.string t, .slice A n c] 25 (0, 0))) (h2 : W.heap[gq]? = some (.cells #[.string t, v] 25 (0, 0))) (h3 : (Kd.fixed k33 w).R 33 W w.heap.size (fun _ => True) v li) (hne : gp ≠ gq) (hgq : w.heap.size ≤ gq)
    (ho : (Kd.fixed k33 w).R 33 w1 w.heap.size (fun _ => True) v1 (li ++ [p])) (hb : Below w.heap.size w w1) (hg : W.grownBy w1 v.ownBlock) : Cv w (w1.setCell ⟨gq, 1, none⟩ v1) gp gq t A n c (li ++ [p]) := by
  have n1 := Kd.R_ne h3 h1 (by decide)
  have n2 := Kd.R_ne h3 h2 (by decide)
  have e1 := (hg.block gp (blk_lt h1) n1).trans h1
  have e2 := (hg.block gq (blk_lt h2) n2).trans h2
  refine ⟨v1, (Below.heap_setCell w1 ⟨gq, 1, none⟩ v1 gp hne).trans e1, ?_, Kd.R_set ho e2 (fun q hq => ?_) 1 v1, hb.setCell hgq v1⟩
  · exact (heap_setCell_same w1 gq 1 _ 25 v1 e2).trans rfl
  · have : q = 33 := by simpa [Kd.fixed] using hq
    omega
/-- The made plan's code, read. -/
theorem Cv.reads {w W : World} {li : List S33} {v : Value} (h : (Kd.fixed k33 w).R 33 W w.heap.size (fun _ => True) v li) (hb : Below w.heap.size w W) : ∃ Aq cq, v = .slice Aq li.length cq ∧ li.length ≤ cq ∧ Kd.C k33 W Aq li.length li := by
  obtain ⟨Aq, cq, e, hc, hC⟩ := Kd.R_reads h
  refine ⟨Aq, cq, e, hc, ?_⟩
  exact ReadsRow.imp_ hC (Below.refl _ _) (fun x cs hp => k33.K_below hb hp)
theorem nil_C81 (w : World) : k81.C w none ([] : List S81).length ([] : List S81) := ⟨rfl, by simp, fun h => absurd h (Nat.lt_irrefl 0)⟩
theorem nil_Cb (w : World) : Kd.bool.C w none ([] : List Bool).length ([] : List Bool) := ⟨rfl, by simp, fun h => absurd h (Nat.lt_irrefl 0)⟩
abbrev lockC (tab : ByteArray) (m : Int) : List Value := [.int .i64 1, .int .i64 0, .int .i64 0, .int .i64 m, .int .i64 0, .string tab, .int .i64 0, .slice none 0 0, .slice none 0 0, .bool false, .bool false, .slice none 0 0, .int .i64 0, .slice none 0 0]
theorem lock_K (w : World) (tab : ByteArray) (m : Int) : k33.K w (lockI tab m) (lockC tab m) :=
  k33_mk w (lockI tab m) (Nat.le_refl 0) (nil_C81 w) (Nat.le_refl 0) (nil_C81 w) (Nat.le_refl 0) (nil_C81 w) (Nat.le_refl 0) (nil_Cb w)
/-- The second plan, as it is made: one lock. -/
theorem Cv.lock {w W : World} {gp : Nat} {t tab : ByteArray} {m : Int} {A : Option Addr} {n c : Nat} (hb : Below w.heap.size w W) (h1 : W.heap[gp]? = some (.cells #[.string t, .slice A n c] 25 (0, 0))) :
    Cv w ((W.alloc (.cells (lockC tab m).toArray 33)).alloc (.cells #[.string t, .slice (some ⟨W.heap.size, 0, none⟩) 1 1] 25)) gp (W.heap.size + 1) t A n c [lockI tab m] := by
  have hs : (W.alloc (.cells (lockC tab m).toArray 33)).heap.size = W.heap.size + 1 := by simp
  refine ⟨.slice (some ⟨W.heap.size, 0, none⟩) 1 1, blk_alloc (blk_alloc h1 _) _, ?_, ?_, below_alloc (below_alloc hb _) _⟩
  · have := heap_alloc_new (W.alloc (.cells (lockC tab m).toArray 33)) (.cells #[.string t, .slice (some ⟨W.heap.size, 0, none⟩) 1 1] 25)
    rwa [hs] at this
  · refine Kd.R_alloc ?_ _
    refine ⟨fun _ _ => trivial, lockC tab m, ?_, ?_⟩
    · have h2 := World.ownsRow_lit (base := w.heap.size) (e := 33) (size := 14) W (lockC tab m).toArray 1 hb.size (by decide) rfl
      exact (by simpa using h2 : (W.alloc (.cells (lockC tab m).toArray 33)).ownsRow w.heap.size 33 14 (.slice (some ⟨W.heap.size, 0, none⟩) 1 1) 1 (lockC tab m))
    · have := (Reps.none (fun (p : S33) cs => k33.K w p cs) 14).snoc (lock_K w tab m) rfl
      exact this
end Go.Proofs.Ytfnmploaklboiaa
