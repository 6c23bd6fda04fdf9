/- The three package variables of package logic: what they hold when a call begins, and that they keep it. -/
import Derived.Test.YtblbdepklmlcoaaDoorRows
import Derived.ProofKit
import Derived.LaidMore
import Derived.LaidLaws
import Derived.MakeChecks
import Derived.ChangeSame
import Derived.Below
import Derived.FnData
namespace Go.Proofs.YtblbdepklmlcoaaDoor
open Go.ChangeShapes Go.WideShapes Go.ChangeAt Go.RowKit
set_option linter.unusedVariables false

structure LaidW (w : World) : Prop where
  size : 3 ≤ w.heap.size
  n0 : w.cell? ⟨0, 0, none⟩ = some (.int .i64 0)
  n1 : w.cell? ⟨0, 1, none⟩ = some (.int .i64 0)
  y0 : w.cell? ⟨1, 0, none⟩ = some (.int .i64 1)
  y1 : w.cell? ⟨1, 1, none⟩ = some (.int .i64 0)
  u0 : w.cell? ⟨2, 0, none⟩ = some (.int .i64 2)
  u1 : w.cell? ⟨2, 1, none⟩ = some (.int .i64 0)
theorem LaidW.below {w w' : World} (h : LaidW w) (b : Below w.heap.size w w') : LaidW w' := by
  have hs := h.size
  exact ⟨Nat.le_trans hs b.size, (b.cell (p := ⟨0, 0, none⟩) (by show 0 < _; omega)).trans h.n0, (b.cell (p := ⟨0, 1, none⟩) (by show 0 < _; omega)).trans h.n1,
    (b.cell (p := ⟨1, 0, none⟩) (by show 1 < _; omega)).trans h.y0, (b.cell (p := ⟨1, 1, none⟩) (by show 1 < _; omega)).trans h.y1,
    (b.cell (p := ⟨2, 0, none⟩) (by show 2 < _; omega)).trans h.u0, (b.cell (p := ⟨2, 1, none⟩) (by show 2 < _; omega)).trans h.u1⟩
theorem gNo : Tryd.prog.globalNamed "hasp/logic.no" = some 0 := by kernel_rfl
theorem gYes : Tryd.prog.globalNamed "hasp/logic.yes" = some 1 := by kernel_rfl
theorem gUnsure : Tryd.prog.globalNamed "hasp/logic.unsure" = some 2 := by kernel_rfl
theorem tNo : (Tryd.prog.globals[0]?).map (·.type) = some 24 := by kernel_rfl
theorem tYes : (Tryd.prog.globals[1]?).map (·.type) = some 24 := by kernel_rfl
theorem tUnsure : (Tryd.prog.globals[2]?).map (·.type) = some 24 := by kernel_rfl
theorem laid_two {w : World} {fuel : Nat} {cs : Array Value} {a b : Int} {p : List MemPlace}
    (h : DataW.trod (fun _ => ()) Tryd.prog w 0 (fun _ => true) false fuel 24 cs.toList = some (.agg [.lit (.int .i64 a), .lit (.int .i64 b)], p)) : cs = #[.int .i64 a, .int .i64 b] := by
  obtain ⟨y0, y1, n, hx, hl, g0, g1⟩ := trod_struct2 Tryd.underlying24 h
  obtain ⟨m0, e0, f0, _⟩ := DataW.trod_int Tryd.underlying3 g0
  obtain ⟨m1, e1, f1, _⟩ := DataW.trod_int Tryd.underlying22 g1
  have hc : Tryd.prog.cellsOf 24 = 2 := by kernel_rfl
  have c3 : Tryd.prog.cellsOf 3 = 1 := by kernel_rfl
  have c22 : Tryd.prog.cellsOf 22 = 1 := by kernel_rfl
  simp only [hc] at hl
  obtain ⟨l⟩ := cs
  subst f0 f1
  simp only [Prod.mk.injEq, DataW.agg.injEq, List.cons.injEq, DataW.lit.injEq, Lit.int.injEq, and_true, true_and] at hx
  obtain ⟨⟨rfl, rfl⟩, _⟩ := hx
  simp only [c3, c22] at e0 e1
  match l, hl with
  | [x, y], _ =>
    simp at e0 e1
    subst e0 e1
    rfl
theorem lt_of_cell {w : World} {b o : Nat} {v : Value} (h : w.cell? ⟨b, o, none⟩ = some v) : b < w.heap.size := by
  by_cases hb : b < w.heap.size
  · exact hb
  · exfalso
    have : w.heap[b]? = none := by rw [Array.getElem?_eq_none]; omega
    simp [World.cell?, this] at h
theorem of_laid {w : World} (h : laidMetH Tryd.prog [("hasp/logic.yes", Rows.laid_hasp_logic_yes), ("hasp/logic.no", Rows.laid_hasp_logic_no), ("hasp/logic.unsure", Rows.laid_hasp_logic_unsure)] w) : LaidW w := by
  rw [MakeChecks.laidMetH_plain _ _ _ (by kernel_rfl)] at h
  obtain ⟨ps, ⟨g0, t0, cs0, f0, p0, q0, hg0, ht0, hv0, hd0, ⟨g1, t1, cs1, f1, p1, q1, hg1, ht1, hv1, hd1, ⟨g2, t2, cs2, f2, p2, q2, hg2, ht2, hv2, hd2, _, _⟩, _⟩, _⟩, _, _⟩ := h
  obtain rfl := Option.some.inj (gYes.symm.trans hg0)
  obtain rfl := Option.some.inj (gNo.symm.trans hg1)
  obtain rfl := Option.some.inj (gUnsure.symm.trans hg2)
  obtain rfl := Option.some.inj (tYes.symm.trans ht0)
  obtain rfl := Option.some.inj (tNo.symm.trans ht1)
  obtain rfl := Option.some.inj (tUnsure.symm.trans ht2)
  obtain rfl := laid_two hd0
  obtain rfl := laid_two hd1
  obtain rfl := laid_two hd2
  have y := fun i => World.var?_cell hg0 hv0 i
  have n := fun i => World.var?_cell hg1 hv1 i
  have u := fun i => World.var?_cell hg2 hv2 i
  exact ⟨lt_of_cell (u 0), n 0, n 1, y 0, y 1, u 0, u 1⟩
end Go.Proofs.YtblbdepklmlcoaaDoor
