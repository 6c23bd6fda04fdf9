/- Package keys: Decode's deferred function. -/
import Derived.Test.YthoemenchimggaaDoorK4
import Derived.Defers
import Derived.Recover
namespace Go.Proofs.YthoemenchimggaaDoor
open Go.RowKit Go.Proofs.YthoemenchimggaaDoorW.PrintWords Go.Proofs.YthoemenchimggaaDoorW.PrintLast Go.Proofs.YthoemenchimggaaDoorW.PrintMore A Fl
set_option linter.unusedVariables false
set_option linter.unusedSimpArgs false
theorem catch_idle (pl pe : Addr) (w : World) :
    CallsD Tryd.prog 29 #[.pointer (some pl), .pointer (some pe)] .returning w fun e u' w' => e = .returned (.tuple #[]) ∧ u' = .returning ∧ w' = w := by
  refine callsD_of_wpS Tryd.func29 rfl fun c₀ cs hu => ?_
  apply wpS_seq
  apply wpS_region
  simp [wpOpsS, go_sem, recoverD, hu, Tryd.ntmps29, Exit.thenS]
  apply wpS_seq
  apply wpS_region
  simp [wpOpsS, go_sem, Exit.thenS]
  refine wpS_cond (t := false) (by simp [Act.eval, Array.replicate]) ?_
  simp only [Bool.false_eq_true, if_false]
  refine wpS_of_wp (wp_skip ?_)
  cases c₀
  simp_all [bodyPostS, results, Tryd.results29]
theorem ta50 (c : Int) (W : World) : (Instr.typeAssert (.iface 50 (.agg #[.int .i64 c])) 20 50 true).run Tryd.prog W = .ok (.tuple #[.agg #[.int .i64 c], .bool true]) W := by kernel_rfl
set_option maxHeartbeats 1000000 in
theorem catch_panicking (pl pe : Addr) (x : Value) (y : Int) (c : Int) (older : List PanicEntry) (w : World) (hl : w.cell? pl = some x) (he : w.cell? pe = some (.int .i64 y)) (fl : w.frozen? pl = false) (fe : w.frozen? pe = false) (hne : pl ≠ pe) (b : Nat) (hbl : b ≤ pl.block) (hbe : b ≤ pe.block) (hbw : b ≤ w.heap.size) :
    CallsD Tryd.prog 29 #[.pointer (some pl), .pointer (some pe)] (.panicking ({ v := .iface 50 (.agg #[.int .i64 c]), recovered := false } :: older)) w fun e u' w' =>
      e = .returned (.tuple #[]) ∧ u' = .panicking ({ v := .iface 50 (.agg #[.int .i64 c]), recovered := true } :: older) ∧ w'.cell? pl = some (.slice none 0 0) ∧ w'.cell? pe = some (.int .i64 c) ∧ Below b w w' := by
  have hb : Below w.heap.size w (w.alloc (.cells #[.int .i64 c] 50)) := below_alloc (Below.refl _ _) _
  have hl1 := (hb.cell (World.block_lt_of_cell? w _ hl)).trans hl
  have he1 := (hb.cell (World.block_lt_of_cell? w _ he)).trans he
  have fl1 := (hb.frozen (World.block_lt_of_cell? w _ hl)).trans fl
  have fe1 := (hb.frozen (World.block_lt_of_cell? w _ he)).trans fe
  have hnew : (w.alloc (.cells #[.int .i64 c] 50)).cell? ⟨w.heap.size, 0, none⟩ = some (.int .i64 c) := (blk_cell (heap_alloc_new w (.cells #[.int .i64 c] 50)) 0).trans rfl
  have hne2 : pl ≠ ⟨w.heap.size, 0, none⟩ := fun h => by have := World.block_lt_of_cell? w _ hl; rw [h] at this; exact Nat.lt_irrefl _ this
  have hn1 : ((w.alloc (.cells #[.int .i64 c] 50)).setCell pl (.slice none 0 0)).cell? ⟨w.heap.size, 0, none⟩ = some (.int .i64 c) := (World.cell?_setCell_other _ _ _ _ hne2).trans hnew
  have he2 : ((w.alloc (.cells #[.int .i64 c] 50)).setCell pl (.slice none 0 0)).cell? pe = some (.int .i64 y) := (World.cell?_setCell_other _ _ _ _ hne).trans he1
  refine callsD_of_wpS Tryd.func29 rfl fun c₀ cs hu => ?_
  apply wpS_seq
  apply wpS_region
  simp [wpOpsS, go_sem, recoverD, hu, Tryd.ntmps29, Exit.thenS]
  obtain ⟨I, hI⟩ : ∃ I, I = Value.iface 50 (Value.agg #[Value.int IntKind.i64 c]) := ⟨_, rfl⟩
  generalize hQ : bodyPostS Tryd.prog Tryd.f29 c₀ cs _ = Q
  obtain ⟨cs', hcs⟩ : ∃ cs', cs' = ({ fn := c₀.fn, tmps := c₀.tmps, todo := c₀.todo, defers := c₀.defers, mode := FrameMode.panicking ({ v := Value.iface 50 (Value.agg #[Value.int IntKind.i64 c]), recovered := true } :: older), kind := c₀.kind, roundOf := c₀.roundOf } :: cs) := ⟨_, rfl⟩
  rw [← hcs]
  have HQ := Aside0.mk hQ
  have HCS := Aside0.mk hcs
  clear hQ hcs hu
  refine wpS_of_wp ?_
  change Code.wp _ _ _ { tmps := #[.pointer (some pl), .pointer (some pe), .iface 50 (.agg #[.int .i64 c]), undef, undef, .iface 50 (.agg #[.int .i64 c]), undef, undef, undef, undef, undef, undef, undef, undef, undef, undef, undef, undef], defers := [] } _
  clear I hI
  have hta := ta50 c
  go_wp2_with fail
  go_region
  show Q _ _ cs' _
  rw [← HQ.out, HCS.out]
  have hb2 : Below b w (((w.alloc (.cells #[.int .i64 c] 50)).setCell pl (.slice none 0 0)).setCell pe (.int .i64 c)) := ((hb.mono hbw).setCell hbl _).setCell hbe _
  refine ⟨rfl, _, rfl, _, results_none rfl _ _ _, rfl, rfl, ?_, ?_, below_drew1 hb2⟩
  · show World.cell? (((w.alloc (.cells #[.int .i64 c] 50)).setCell pl (.slice none 0 0)).setCell pe (.int .i64 c)) pl = _
    rw [World.cell?_setCell_other _ _ _ _ (Ne.symm hne)]
    exact World.cell?_setCell_same _ _ _ (by rw [hl1])
  · show World.cell? (((w.alloc (.cells #[.int .i64 c] 50)).setCell pl (.slice none 0 0)).setCell pe (.int .i64 c)) pe = _
    exact World.cell?_setCell_same _ _ _ (by rw [he2])
end Go.Proofs.YthoemenchimggaaDoor
