import Derived.Test.YtfnmploaklboiaaZtVx1
/- Layer 22: CoverStronger and CoverBare: what is common to their walks. -/
namespace Go.Proofs.Ytfnmploaklboiaa
open Go.RowKit Go.Proofs.YtfnmploaklboiaaW.PrintWords A V
set_option linter.unusedSimpArgs false
set_option linter.unusedVariables false
theorem info33 : (Try.prog.info? 33).map (fun i => (i.zero, i.size, i.bytes)) = some (some z33v, 14, 176) := by kernel_rfl
/-- An element's cells, and what is made of them. -/
theorem elem_full {w0 W : World} {A : Option Addr} {l : List S33} (hR : Kd.C k33 w0 A l.length l) (hB : Below w0.heap.size w0 W) (i : Int) (h0 : 0 ≤ i) (h1 : i < l.length) : ∃ ad A7 A8 A11 A13 c7 c8 c11 c13, A = some ad ∧
    W.cell? (ad.add (i.toNat * 14)) = some (.int .i64 (rd_T33 l i).f0) ∧ W.cell? ⟨(ad.add (i.toNat * 14)).block, (ad.add (i.toNat * 14)).off + 1, none⟩ = some (.int .i64 (rd_T33 l i).f1) ∧ W.cell? ⟨(ad.add (i.toNat * 14)).block, (ad.add (i.toNat * 14)).off + 2, none⟩ = some (.int .i64 (rd_T33 l i).f2) ∧
    W.cell? ⟨(ad.add (i.toNat * 14)).block, (ad.add (i.toNat * 14)).off + 3, none⟩ = some (.int .i64 (rd_T33 l i).f3) ∧ W.cell? ⟨(ad.add (i.toNat * 14)).block, (ad.add (i.toNat * 14)).off + 4, none⟩ = some (.int .i64 (rd_T33 l i).f4) ∧ W.cell? ⟨(ad.add (i.toNat * 14)).block, (ad.add (i.toNat * 14)).off + 5, none⟩ = some (.string (rd_T33 l i).f5) ∧
    W.cell? ⟨(ad.add (i.toNat * 14)).block, (ad.add (i.toNat * 14)).off + 6, none⟩ = some (.int .i64 (rd_T33 l i).f6) ∧ W.cell? ⟨(ad.add (i.toNat * 14)).block, (ad.add (i.toNat * 14)).off + 7, none⟩ = some (.slice A7 (rd_T33 l i).f7.length c7) ∧ W.cell? ⟨(ad.add (i.toNat * 14)).block, (ad.add (i.toNat * 14)).off + 8, none⟩ = some (.slice A8 (rd_T33 l i).f8.length c8) ∧
    W.cell? ⟨(ad.add (i.toNat * 14)).block, (ad.add (i.toNat * 14)).off + 9, none⟩ = some (.bool (rd_T33 l i).f9) ∧ W.cell? ⟨(ad.add (i.toNat * 14)).block, (ad.add (i.toNat * 14)).off + 10, none⟩ = some (.bool (rd_T33 l i).f10) ∧ W.cell? ⟨(ad.add (i.toNat * 14)).block, (ad.add (i.toNat * 14)).off + 11, none⟩ = some (.slice A11 (rd_T33 l i).f11.length c11) ∧
    W.cell? ⟨(ad.add (i.toNat * 14)).block, (ad.add (i.toNat * 14)).off + 12, none⟩ = some (.int .i64 (rd_T33 l i).f12) ∧ W.cell? ⟨(ad.add (i.toNat * 14)).block, (ad.add (i.toNat * 14)).off + 13, none⟩ = some (.slice A13 (rd_T33 l i).f13.length c13) ∧
    (∀ z : S33, z.f7 = (rd_T33 l i).f7 → z.f8 = (rd_T33 l i).f8 → z.f11 = (rd_T33 l i).f11 → z.f13 = (rd_T33 l i).f13 → k33.K w0 z (iv z A7 A8 A11 A13 c7 c8 c11 c13).toList) := by
  obtain ⟨ad, A7, c7, A8, c8, A11, c11, A13, c13, e, x0, x1, x2, x3, x4, x5, x6, x7, x8, x9, x10, x11, x12, x13, l7, g7, l8, g8, l11, g11, l13, g13⟩ := at_T33 hR i h0 h1
  have T : ∀ {a : Addr} {v : Value}, w0.cell? a = some v → W.cell? a = some v := fun h => (hB.cell (World.block_lt_of_cell? w0 _ h)).trans h
  refine ⟨ad, A7, A8, A11, A13, c7, c8, c11, c13, e, T x0, T x1, T x2, T x3, T x4, T x5, T x6, T x7, T x8, T x9, T x10, T x11, T x12, T x13, fun z h7 h8 h11 h13 => ?_⟩
  rw [← h7] at l7 g7
  rw [← h8] at l8 g8
  rw [← h11] at l11 g11
  rw [← h13] at l13 g13
  exact k33_mk w0 z l7 g7 l8 g8 l11 g11 l13 g13
/-- The argument's box gp, and the plan gq that is made: its code so far is li. -/
def Cv (w W : World) (gp gq : Nat) (t : ByteArray) (A : Option Addr) (n c : Nat) (li : List S33) : Prop :=
  ∃ v, W.heap[gp]? = some (.cells #[.string t, .slice A n c] 25 (0, 0)) ∧ W.heap[gq]? = some (.cells #[.string t, v] 25 (0, 0)) ∧ (Kd.fixed k33 w).R 33 W w.heap.size (fun _ => True) v li ∧ Below w.heap.size w W
theorem Cv.keep {w W W2 : World} {gp gq : Nat} {t : ByteArray} {A : Option Addr} {n c : Nat} {li : List S33} (h : Cv w W gp gq t A n c li) (hb : Below W.heap.size W W2) : Cv w W2 gp gq t A n c li := by
  obtain ⟨v, h1, h2, h3, h4⟩ := h
  exact ⟨v, (hb.block gp (blk_lt h1)).trans h1, (hb.block gq (blk_lt h2)).trans h2, Kd.R_below h3 hb, below_step h4 hb⟩
theorem Cv.push {w W w1 : World} {gp gq : Nat} {t : ByteArray} {A : Option Addr} {n c : Nat} {li : List S33} {v v1 : Value} {p : S33}
    (h1 : W.heap[gp]? = some (.cells #[.string t, .slice A n c] 25 (0, 0))) (h2 : W.heap[gq]? = some (.cells #[.string t, v] 25 (0, 0))) (h3 : (Kd.fixed k33 w).R 33 W w.heap.size (fun _ => True) v li) (hne : gp ≠ gq) (hgq : w.heap.size ≤ gq)
    (ho : (Kd.fixed k33 w).R 33 w1 w.heap.size (fun _ => True) v1 (li ++ [p])) (hb : Below w.heap.size w w1) (hg : W.grownBy w1 v.ownBlock) : Cv w (w1.setCell ⟨gq, 1, none⟩ v1) gp gq t A n c (li ++ [p]) := by
  have n1 := Kd.R_ne h3 h1 (by decide)
  have n2 := Kd.R_ne h3 h2 (by decide)
  have e1 := (hg.block gp (blk_lt h1) n1).trans h1
  have e2 := (hg.block gq (blk_lt h2) n2).trans h2
  refine ⟨v1, (Below.heap_setCell w1 ⟨gq, 1, none⟩ v1 gp hne).trans e1, ?_, Kd.R_set ho e2 (fun q hq => ?_) 1 v1, hb.setCell hgq v1⟩
  · exact (heap_setCell_same w1 gq 1 _ 25 v1 e2).trans rfl
  · have : q = 33 := by simpa [Kd.fixed] using hq
    omega
/-- The made plan's code, read. -/
theorem Cv.reads {w W : World} {li : List S33} {v : Value} (h : (Kd.fixed k33 w).R 33 W w.heap.size (fun _ => True) v li) (hb : Below w.heap.size w W) : ∃ Aq cq, v = .slice Aq li.length cq ∧ li.length ≤ cq ∧ Kd.C k33 W Aq li.length li := by
  obtain ⟨Aq, cq, e, hc, hC⟩ := Kd.R_reads h
  refine ⟨Aq, cq, e, hc, ?_⟩
  exact ReadsRow.imp_ hC (Below.refl _ _) (fun x cs hp => k33.K_below hb hp)
end Go.Proofs.Ytfnmploaklboiaa
