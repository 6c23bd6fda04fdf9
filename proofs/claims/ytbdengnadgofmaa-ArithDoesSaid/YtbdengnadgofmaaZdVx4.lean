import Derived.Test.YtbdengnadgofmaaZdVx0
import Derived.Test.YtbdengnadgofmaaZdVx2
import Derived.Test.YtbdengnadgofmaaZdVx3
namespace Go.Proofs.Ytbdengnadgofmaa.V
open Go.RowKit Go.Proofs.YtbdengnadgofmaaW.PrintWords Go.Proofs.YtbdengnadgofmaaW.PrintLast Go.Proofs.YtbdengnadgofmaaW.PrintMore
attribute [local go_sem] max2_int min2_int max_two min_two max_three min_three max_four min_four   -- for this text's walks alone
set_option linter.unusedVariables false
set_option linter.unusedSimpArgs false
/-! ### arith_Do: function 12 -/
mutual
def arith_Do.j0 : Nat → Int → List (S25) → Bool → Option (Int × Int × ByteArray × Int)
  | 0, _, _, _ => none
  | k + 1, x0, x1, x20 => if x20 = true then (some (0, 0, (⟨#[]⟩ : ByteArray), 30)) else (if 0 < (x1.length : Int) then (if 0 ≤ (wrap64 ((x1.length : Int) - 1)) then (if (wrap64 ((x1.length : Int) - 1)) < (x1.length : Int) then (if ((rd_T25 x1 0).f0) = 0 then (arith_Do.j1 k x0 true ((rd_T25 x1 0).f0) ((rd_T25 x1 0).f1) ((rd_T25 x1 0).f2) ((rd_T25 x1 (wrap64 ((x1.length : Int) - 1))).f0) ((rd_T25 x1 (wrap64 ((x1.length : Int) - 1))).f1) ((rd_T25 x1 (wrap64 ((x1.length : Int) - 1))).f2)) else (arith_Do.j1 k x0 (((rd_T25 x1 (wrap64 ((x1.length : Int) - 1))).f0) == 0) ((rd_T25 x1 0).f0) ((rd_T25 x1 0).f1) ((rd_T25 x1 0).f2) ((rd_T25 x1 (wrap64 ((x1.length : Int) - 1))).f0) ((rd_T25 x1 (wrap64 ((x1.length : Int) - 1))).f1) ((rd_T25 x1 (wrap64 ((x1.length : Int) - 1))).f2))) else (none)) else (none)) else (none))
def arith_Do.j1 : Nat → Int → Bool → Int → Int → ByteArray → Int → Int → ByteArray → Option (Int × Int × ByteArray × Int)
  | 0, _, _, _, _, _, _, _, _ => none
  | k + 1, x0, x41, x118000, x118001, x118002, x118003, x118004, x118005 => if x41 = true then (some (0, 0, (⟨#[]⟩ : ByteArray), 0)) else ((arith_answer.f k x0 x118000).bind fun t118 => (if x118000 = x118003 then (arith_Do.j2 k x0 t118 (t118 == 0) x118000 x118001 x118002 x118003 x118004 x118005) else (arith_Do.j2 k x0 t118 true x118000 x118001 x118002 x118003 x118004 x118005)))
def arith_Do.j2 : Nat → Int → Int → Bool → Int → Int → ByteArray → Int → Int → ByteArray → Option (Int × Int × ByteArray × Int)
  | 0, _, _, _, _, _, _, _, _, _ => none
  | k + 1, x0, x8, x58, x118000, x118001, x118002, x118003, x118004, x118005 => if x58 = true then (some (0, 0, (⟨#[]⟩ : ByteArray), 30)) else (if x0 = 12 then (if x118002.size + x118005.size ≤ 9223372036854775807 then (if ((x118002 ++ x118005).size : Int) > 200 then (if 1 = 0 then (some (x8, 0, x118002 ++ x118005, 0)) else (some (0, 0, (⟨#[]⟩ : ByteArray), 1))) else (if 0 = 0 then (some (x8, 0, x118002 ++ x118005, 0)) else (some (0, 0, (⟨#[]⟩ : ByteArray), 0)))) else (none)) else (if x0 = 14 then (arith_Do.j3 k x0 x8 0 true x118000 x118001 x118002 x118003 x118004 x118005 x8 0 (⟨#[]⟩ : ByteArray)) else (arith_Do.j3 k x0 x8 0 (x0 == 15) x118000 x118001 x118002 x118003 x118004 x118005 x8 0 (⟨#[]⟩ : ByteArray))))
def arith_Do.j3 : Nat → Int → Int → Int → Bool → Int → Int → ByteArray → Int → Int → ByteArray → Int → Int → ByteArray → Option (Int × Int × ByteArray × Int)
  | 0, _, _, _, _, _, _, _, _, _, _, _, _, _ => none
  | k + 1, x0, x8, x10, x81, x118000, x118001, x118002, x118003, x118004, x118005, x120000, x120001, x120002 => if x81 = true then ((arith_turned.f k x8 x118000 x118001 x118002).bind fun bt120 => (if bt120.2 = 0 then (some (x120000, bt120.1, x120002, 0)) else (some (0, 0, (⟨#[]⟩ : ByteArray), bt120.2)))) else (if x8 = 2 then ((arith_pair_whole.f x118000 x118001 x118002 x118003 x118004 x118005 x0).bind fun bt122 => (if bt122.2 = 0 then (some (x120000, bt122.1, x120002, 0)) else (some (0, 0, (⟨#[]⟩ : ByteArray), bt122.2)))) else ((arith_pair_point.f x118000 x118001 x118002 x118003 x118004 x118005 x0).bind fun t124 => (if x10 = 0 then (some (x120000, t124, x120002, 0)) else (some (0, 0, (⟨#[]⟩ : ByteArray), x10)))))
end
def arith_Do.f (k : Nat) (a0 : Int) (l1 : List (S25)) : Option (Int × Int × ByteArray × Int) := (arith_operands.f k a0).bind fun t114 => (if t114 = 0 then (arith_Do.j0 k a0 l1 true) else (arith_Do.j0 k a0 l1 (t114 != (l1.length : Int))))
def arith_Do.T4 : Bool × List (List Nat × List Nat) := (true, [([], []), ([0], [0]), ([1], [1]), ([], []), ([], []), ([4], [4]), ([5], [5]), ([3, 6], [3, 6]), ([7], [7]), ([2, 8], [2, 8]), ([], []), ([10, 9, 0, 1, 2, 3, 4, 5, 6, 7, 8, 9, 10], [9, 10])])
def arith_Do.B4 : List Nat := [0, 1, 3, 0, 0, 16, 48, 120, 248, 511, 0, 2047]
theorem arith_Do.tab4 : rtab .any (opsOf Try.f12 4) = arith_Do.T4 := by kernel_rfl
theorem arith_Do.bits4 : waitsOk arith_Do.T4.2 arith_Do.B4 = true := by kernel_rfl
set_option maxHeartbeats 8000000 in
set_option maxRecDepth 100000 in
theorem arith_Do.calls (k : Nat) (a0 : Int) (A1 : Option Addr) (c1 : Nat) (l1 : List (S25)) (r1 : Int) (r2 : Int) (r3 : ByteArray) (r4 : Int) (w : World) (hr1 : Kd.C k25 w A1 l1.length l1) (hc1 : l1.length ≤ c1) (h : arith_Do.f k a0 l1 = some (r1, r2, r3, r4)) :
    Calls Try.prog 12 #[.int .i64 a0, .slice A1 l1.length c1] w fun e w' => e = .returned (.tuple #[.agg #[.int .i64 r1, .int .i64 r2, .string r3], .int .i64 r4]) ∧ Below w.heap.size w w' := by
  have hu25 := Try.underlying25
  have hu45 := Try.underlying45
  have HR1 := Aside0.mk hr1
  have HC1 := Aside0.mk hc1
  clear hr1 hc1
  have HB := Aside0.mk (Below.refl w.heap.size w)
  have H : ((arith_operands.f k a0).bind fun t114 => (if t114 = 0 then (arith_Do.j0 k a0 l1 true) else (arith_Do.j0 k a0 l1 (t114 != (l1.length : Int))))) = some (r1, r2, r3, r4) := h
  clear h
  replace H := Option.bind_eq_some_iff.mp H
  obtain ⟨t114, A30, H⟩ := H
  replace H : (if t114 = 0 then (arith_Do.j0 k a0 l1 true) else (arith_Do.j0 k a0 l1 (t114 != (l1.length : Int)))) = some (r1, r2, r3, r4) := H
  have A3 := Aside0.mk A30
  clear A30
  have HC4 := Aside0.mk H
  clear H
  go_enter Try.func12, Try.ntmps12
  go_upto_region 2 with (first | ((with_reducible refine gate_dst (N := 4) rfl ?_); (try (refine gate_guard (by rfl) ?_; dsimp only)); refine box_event ?hg (N := 4) ?hd (cs := #[.int .i64 0, .int .i64 0, .string (⟨#[]⟩ : ByteArray)]) (t := 25) ?hr ?_; (case hd => rfl); (case hg => rfl); (case hr => first | (go_simp; done) | (go_simp; rfl)); intro gb113 hg w5 hbox hb; have n0_ := Aside0.mk (below_step (by repeat (first | (with_reducible first | exact HB.out | apply below_alloc | apply pw_below_drewN | apply below_drew1) | exact HB.out)) hb); have n1_ := Aside0.mk (hbox); have n2_ := Aside0.mk ((by rw [hg]; exact (below_size (by repeat (first | (with_reducible first | exact HB.out | apply below_alloc | apply pw_below_drewN | apply below_drew1) | exact HB.out))) : w.heap.size ≤ gb113)); have n3_ := Aside0.mk ((by rw [hg]; exact (below_size (by repeat (first | (with_reducible first | exact HB.out | apply below_alloc | apply pw_below_drewN | apply below_drew1) | exact HB.out))) : w.heap.size ≤ gb113)); clear HB; have HB := n0_; have BK113 := n1_; have GW113 := n2_; have GE113 := n3_; clear n0_ n1_ n2_ n3_; clear hb hbox hg) | ((with_reducible refine gate_callee (f := 19) rfl ?_); refine goesL_ (some 12) rfl rfl Try.func19 (by kernel_rfl) rfl #[.int .i64 a0] rfl (by (try simp only [List.map_toArray, List.map_cons, List.map_nil]); first | done | rfl | (simp only [List.length_drop, List.length_take]; rfl)) ?_; (with_reducible refine (arith_operands.calls k a0 t114 _ A3.out).mono ?_); rintro e w' ⟨rfl, ⟨nd, rfl⟩⟩; refine ⟨_, rfl, ?_⟩))
  (try simp only [Act.put, List.setIfInBounds_toArray, List.set_cons_zero, List.set_cons_succ])
  go_cut [20] (fun v20 wc => ∃ (kq : Nat) (x20_3 : Bool), v20 = .bool x20_3 ∧ Aside0 (arith_Do.j0 kq a0 l1 x20_3 = some (r1, r2, r3, r4)) ∧ Aside0 (kq ≤ k) ∧ Aside0 (wc.heap[gb113]? = some (.cells #[.int .i64 0, .int .i64 0, .string (⟨#[]⟩ : ByteArray)] 25 (0, 0))) ∧ Aside0 (Below w.heap.size w wc))
  case first =>
    have H := HC4.out
    clear HC4
    by_cases c6 : t114 = 0
    · rw [if_pos c6] at H
      have c6b0 : (t114 == 0) = true := beq_iff_eq.mpr c6
      have c6b1 : (t114 != 0) = false := bne_eq_false_iff_eq.mpr c6
      clear c6
      (first | rw [c6b0] | (simp only [i64_w, i32_w]; rw [c6b0]) | skip)
      have H' := Aside0.mk H
      clear H
      go_wp2
      go_meet
      case rel => exact ⟨_, (true), (by first | rfl | (simp; done) | (simp [*]; done) | (simp; exact isEmpty_bne _) | (simp [*]; exact isEmpty_bne _)), H', ⟨by first | omega | exact Nat.le_refl _⟩, ⟨by (with_reducible repeat (first | refine blk_drewN ?_ _ | refine blk_drew ?_ | refine blk_alloc ?_ _)); exact BK113.out⟩, ⟨by repeat (first | (with_reducible first | exact HB.out | apply below_alloc | apply pw_below_drewN | apply below_drew1 | refine below_set ?_ GE113.out) | exact HB.out)⟩⟩
    · rw [if_neg c6] at H
      have c6b0 : (t114 == 0) = false := beq_eq_false_iff_ne.mpr c6
      have c6b1 : (t114 != 0) = true := bne_iff_ne.mpr c6
      (first | rw [c6b0] | (simp only [i64_w, i32_w]; rw [c6b0]) | skip)
      have H' := Aside0.mk H
      clear H
      go_wp2
      go_meet
      case rel => exact ⟨_, ((t114 != (l1.length : Int))), (by first | rfl | (simp; done) | (simp [*]; done) | (simp; exact isEmpty_bne _) | (simp [*]; exact isEmpty_bne _)), H', ⟨by first | omega | exact Nat.le_refl _⟩, ⟨by (with_reducible repeat (first | refine blk_drewN ?_ _ | refine blk_drew ?_ | refine blk_alloc ?_ _)); exact BK113.out⟩, ⟨by repeat (first | (with_reducible first | exact HB.out | apply below_alloc | apply pw_below_drewN | apply below_drew1 | refine below_set ?_ GE113.out) | exact HB.out)⟩⟩
  case rest =>
    clear HC4
    try clear c1
    try clear p2
    try clear c6
    try clear c6b0
    try clear c6b1
    obtain ⟨kq, x20_3, rfl, HA, HJ3, BK113, HB⟩ := hcut
    cases kq with
    | zero => exact absurd HA.out (by simp [arith_Do.j0])
    | succ kj3 =>
      have H := HA.out
      clear HA
      simp only [arith_Do.j0] at H
      by_cases c7 : x20_3 = true
      · subst c7
        have H1 : (some (0, 0, (⟨#[]⟩ : ByteArray), 30)) = some (r1, r2, r3, r4) := by rw [if_pos rfl] at H; exact H
        clear H
        have H := H1
        clear H1
        simp only [Option.some.injEq, Prod.mk.injEq] at H
        obtain ⟨rfl, rfl, rfl, rfl⟩ := H
        have hcz8_0 : wc.cell? ⟨gb113, 0, none⟩ = some (.int .i64 0) := (blk_cell BK113.out 0).trans rfl
        have hcz8_1 : wc.cell? ⟨gb113, 1, none⟩ = some (.int .i64 0) := (blk_cell BK113.out 1).trans rfl
        have hcz8_2 : wc.cell? ⟨gb113, 2, none⟩ = some (.string (⟨#[]⟩ : ByteArray)) := (blk_cell BK113.out 2).trans rfl
        have hfz8_0 := blk_frozen BK113.out 0
        have hfz8_1 := blk_frozen BK113.out 1
        have hfz8_2 := blk_frozen BK113.out 2
        go_wp2
        refine bodyPost_ret (results_ct rfl _ _ gb113 25 #[.int .i64 0, .int .i64 0, .string (⟨#[]⟩ : ByteArray)] (0, 0) _ rfl (by (with_reducible repeat (first | refine blk_drewN ?_ _ | refine blk_drew ?_ | refine blk_alloc ?_ _)); refine blk_put (cs := #[.int .i64 0, .int .i64 0, .string (⟨#[]⟩ : ByteArray)]) ?_ 2 _ rfl; (with_reducible repeat (first | refine blk_drewN ?_ _ | refine blk_drew ?_ | refine blk_alloc ?_ _)); refine blk_put (cs := #[.int .i64 0, .int .i64 0, .string (⟨#[]⟩ : ByteArray)]) ?_ 1 _ rfl; (with_reducible repeat (first | refine blk_drewN ?_ _ | refine blk_drew ?_ | refine blk_alloc ?_ _)); refine blk_put (cs := #[.int .i64 0, .int .i64 0, .string (⟨#[]⟩ : ByteArray)]) ?_ 0 _ rfl; (with_reducible repeat (first | refine blk_drewN ?_ _ | refine blk_drew ?_ | refine blk_alloc ?_ _)); exact BK113.out) Try.underlying25 rfl (by kernel_rfl)) rfl ?_
        exact ⟨by first | rfl | (simp [errW_none, errW_some] <;> rfl) | (simp [*, errW_none, errW_some] <;> rfl), by repeat (first | (with_reducible first | exact HB.out | apply below_alloc | apply pw_below_drewN | apply below_drew1 | refine below_set ?_ GE113.out) | exact HB.out)⟩
      · replace c7 := Bool.eq_false_iff.mpr c7
        subst c7
        have H1 : (if 0 < (l1.length : Int) then (if 0 ≤ (wrap64 ((l1.length : Int) - 1)) then (if (wrap64 ((l1.length : Int) - 1)) < (l1.length : Int) then (if ((rd_T25 l1 0).f0) = 0 then (arith_Do.j1 kj3 a0 true ((rd_T25 l1 0).f0) ((rd_T25 l1 0).f1) ((rd_T25 l1 0).f2) ((rd_T25 l1 (wrap64 ((l1.length : Int) - 1))).f0) ((rd_T25 l1 (wrap64 ((l1.length : Int) - 1))).f1) ((rd_T25 l1 (wrap64 ((l1.length : Int) - 1))).f2)) else (arith_Do.j1 kj3 a0 (((rd_T25 l1 (wrap64 ((l1.length : Int) - 1))).f0) == 0) ((rd_T25 l1 0).f0) ((rd_T25 l1 0).f1) ((rd_T25 l1 0).f2) ((rd_T25 l1 (wrap64 ((l1.length : Int) - 1))).f0) ((rd_T25 l1 (wrap64 ((l1.length : Int) - 1))).f1) ((rd_T25 l1 (wrap64 ((l1.length : Int) - 1))).f2))) else (none)) else (none)) else (none)) = some (r1, r2, r3, r4) := by rw [if_neg (show ¬ (false = true) by decide)] at H; exact H
        clear H
        have H := H1
        clear H1
        by_cases c9 : 0 < (l1.length : Int)
        · rw [if_pos c9] at H
          have c9b0 : decide (0 < (l1.length : Int)) = true := decide_eq_true c9
          have c9b1 : decide (0 < l1.length) = true := decide_eq_true (by omega)
          clear c9
          obtain ⟨ji10, hji10⟩ : ∃ j_ : Int, (wrap64 ((l1.length : Int) - 1)) = j_ := ⟨_, rfl⟩
          replace H : (if 0 ≤ (ji10) then (if (ji10) < (l1.length : Int) then (if ((rd_T25 l1 0).f0) = 0 then (arith_Do.j1 kj3 a0 true ((rd_T25 l1 0).f0) ((rd_T25 l1 0).f1) ((rd_T25 l1 0).f2) ((rd_T25 l1 (ji10)).f0) ((rd_T25 l1 (ji10)).f1) ((rd_T25 l1 (ji10)).f2)) else (arith_Do.j1 kj3 a0 (((rd_T25 l1 (ji10)).f0) == 0) ((rd_T25 l1 0).f0) ((rd_T25 l1 0).f1) ((rd_T25 l1 0).f2) ((rd_T25 l1 (ji10)).f0) ((rd_T25 l1 (ji10)).f1) ((rd_T25 l1 (ji10)).f2))) else (none)) else (none)) = some (r1, r2, r3, r4) := by first | (rw [hji10] at H; exact H) | (simp only [hji10] at H ⊢; exact H)
          have hji10w : (IntKind.i64.wrap ((l1.length : Int) - 1)) = ji10 := (i64_w _).trans hji10
          by_cases c11 : 0 ≤ (ji10)
          · rw [if_pos c11] at H
            have c11b0 : decide (0 ≤ (ji10)) = true := decide_eq_true c11
            clear c11
            by_cases c12 : (ji10) < (l1.length : Int)
            · rw [if_pos c12] at H
              have c12b0 : decide ((ji10) < (l1.length : Int)) = true := decide_eq_true c12
              clear c12
              have HC13 := Aside0.mk H
              clear H
              try go_wp2
              have n0_ := Aside0.mk (blk_drew BK113.out)
              have n1_ := Aside0.mk (below_drew1 HB.out)
              clear BK113
              clear HB
              have BK113 := n0_
              have HB := n1_
              clear n0_ n1_
              have p115 : 0 ≤ (0 : Int) := (by omega)
              have q115 : 0 < (l1.length : Int) := of_decide_eq_true (by first | (with_reducible assumption) | assumption)
              obtain ⟨ad115, e115, hx115_0, hx115_1, hx115_2⟩ := at_T25 HR1.out 0 p115 q115
              have hw115_2 := hx115_2
              (try rw [show ((0 : Int)).toNat = 0 from rfl] at hw115_2)
              (try rw [show 0 * 3 = 0 from rfl] at hw115_2)
              (try rw [Addr.add_zero'] at hw115_2)
              have hw115_1 := hx115_1
              (try rw [show ((0 : Int)).toNat = 0 from rfl] at hw115_1)
              (try rw [show 0 * 3 = 0 from rfl] at hw115_1)
              (try rw [Addr.add_zero'] at hw115_1)
              have hw115_0 := hx115_0
              (try rw [show ((0 : Int)).toNat = 0 from rfl] at hw115_0)
              (try rw [show 0 * 3 = 0 from rfl] at hw115_0)
              (try rw [Addr.add_zero'] at hw115_0)
              cases e115
              have qi115 : (0 < l1.length) = True := eq_true (by omega)
              (try rw [show ((0 : Int)).toNat = 0 from rfl] at hx115_0)
              (try rw [show 0 * 3 = 0 from rfl] at hx115_0)
              (try rw [Addr.add_zero'] at hx115_0)
              (try rw [show ((0 : Int)).toNat = 0 from rfl] at hx115_1)
              (try rw [show 0 * 3 = 0 from rfl] at hx115_1)
              (try rw [Addr.add_zero'] at hx115_1)
              (try rw [show ((0 : Int)).toNat = 0 from rfl] at hx115_2)
              (try rw [show 0 * 3 = 0 from rfl] at hx115_2)
              (try rw [Addr.add_zero'] at hx115_2)
              replace hx115_0 := (HB.out.cell (World.block_lt_of_cell? w _ hx115_0)).trans hx115_0
              replace hx115_1 := (HB.out.cell (World.block_lt_of_cell? w _ hx115_1)).trans hx115_1
              replace hx115_2 := (HB.out.cell (World.block_lt_of_cell? w _ hx115_2)).trans hx115_2
              replace p115 := eq_true p115
              replace q115 := eq_true q115
              have p116 : 0 ≤ ((ji10) : Int) := of_decide_eq_true (by first | (with_reducible assumption) | assumption)
              have q116 : (ji10) < (l1.length : Int) := of_decide_eq_true (by first | (with_reducible assumption) | assumption)
              obtain ⟨ad116, e116, hx116_0, hx116_1, hx116_2⟩ := at_T25 HR1.out (ji10) p116 q116
              have hw116_2 := hx116_2
              have hw116_1 := hx116_1
              have hw116_0 := hx116_0
              obtain rfl : ad115 = ad116 := (by injection e116)
              replace hx116_0 := (HB.out.cell (World.block_lt_of_cell? w _ hx116_0)).trans hx116_0
              replace hx116_1 := (HB.out.cell (World.block_lt_of_cell? w _ hx116_1)).trans hx116_1
              replace hx116_2 := (HB.out.cell (World.block_lt_of_cell? w _ hx116_2)).trans hx116_2
              replace p116 := eq_true p116
              replace q116 := eq_true q116
              refine start_ (n := 12) (S := fun w' => w'.cell? ad115 = some (.int .i64 ((rd_T25 l1 0).f0)) ∧ w'.cell? ⟨ad115.block, ad115.off + 1, none⟩ = some (.int .i64 ((rd_T25 l1 0).f1)) ∧ w'.cell? ⟨ad115.block, ad115.off + 2, none⟩ = some (.string ((rd_T25 l1 0).f2)) ∧ w'.cell? (ad115.add (((ji10)).toNat * 3)) = some (.int .i64 ((rd_T25 l1 (ji10)).f0)) ∧ w'.cell? ⟨(ad115.add (((ji10)).toNat * 3)).block, (ad115.add (((ji10)).toNat * 3)).off + 1, none⟩ = some (.int .i64 ((rd_T25 l1 (ji10)).f1)) ∧ w'.cell? ⟨(ad115.add (((ji10)).toNat * 3)).block, (ad115.add (((ji10)).toNat * 3)).off + 2, none⟩ = some (.string ((rd_T25 l1 (ji10)).f2))) (ds := []) #[false, false, false, false, false, false, false, false, false, false, false, false] (by kernel_rfl) rfl rfl ⟨((HB.out.cell (World.block_lt_of_cell? w _ hw115_0)).trans hw115_0), ((HB.out.cell (World.block_lt_of_cell? w _ hw115_1)).trans hw115_1), ((HB.out.cell (World.block_lt_of_cell? w _ hw115_2)).trans hw115_2), ((HB.out.cell (World.block_lt_of_cell? w _ hw116_0)).trans hw116_0), ((HB.out.cell (World.block_lt_of_cell? w _ hw116_1)).trans hw116_1), ((HB.out.cell (World.block_lt_of_cell? w _ hw116_2)).trans hw116_2)⟩ (fun hHeld => ?_); refine with_tabW arith_Do.tab4 arith_Do.bits4 (fun HT_ HW_ => ?_)
              generalize wc.drew = w14 at BK113 HB hx115_0 hx115_1 hx115_2 hx116_0 hx116_1 hx116_2 hHeld ⊢
              refine pure_ (i := 0) (N := some 22) (v := ?_) (a' := ?_) #[true, false, false, false, false, false, false, false, false, false, false, false] rfl rfl (any_of HT_.out (by kernel_rfl)) (fun _ _ _ h => h) (Or.inl ⟨by rfl, ?_⟩) ?_ ?_
              rotate_left
              · intro w'
                go_simp
                with_reducible rfl
              rotate_left
              · simp only [Act.put, List.setIfInBounds_toArray, List.set_cons_zero, List.set_cons_succ, i64_w, i32_w]
                rfl
              refine pure_ (i := 1) (N := some 23) (v := ?_) (a' := ?_) #[true, true, false, false, false, false, false, false, false, false, false, false] rfl rfl (any_of HT_.out (by kernel_rfl)) (fun _ _ _ h => h) (Or.inl ⟨by rfl, ?_⟩) ?_ ?_
              rotate_left
              · intro w'
                go_simp
                with_reducible rfl
              rotate_left
              · simp only [Act.put, List.setIfInBounds_toArray, List.set_cons_zero, List.set_cons_succ, i64_w, i32_w]
                rfl
              refine pure_ (i := 3) (N := some 25) (v := ?_) (a' := ?_) #[true, true, false, true, false, false, false, false, false, false, false, false] rfl rfl (any_of HT_.out (by kernel_rfl)) (fun _ _ _ h => h) (Or.inl ⟨by rfl, ?_⟩) ?_ ?_
              rotate_left
              · intro w'
                go_simp
                with_reducible rfl
              rotate_left
              · simp only [Act.put, List.setIfInBounds_toArray, List.set_cons_zero, List.set_cons_succ, i64_w, i32_w]
                rfl
              refine pure_ (i := 4) (N := some 26) (v := ?_) (a' := ?_) #[true, true, false, true, true, false, false, false, false, false, false, false] rfl rfl (any_of HT_.out (by kernel_rfl)) (fun _ _ _ h => h) (Or.inl ⟨by rfl, ?_⟩) ?_ ?_
              rotate_left
              · intro w'
                go_simp
                with_reducible rfl
              rotate_left
              · simp only [Act.put, List.setIfInBounds_toArray, List.set_cons_zero, List.set_cons_succ, i64_w, i32_w]
                rfl
              refine pure_ (i := 5) (N := some 27) (v := ?_) (a' := ?_) #[true, true, false, true, true, true, false, false, false, false, false, false] rfl rfl (any_of HT_.out (by kernel_rfl)) (fun _ _ _ h => h) (Or.inl ⟨by rfl, ?_⟩) ?_ ?_
              rotate_left
              · intro w'
                go_simp
                with_reducible rfl
              rotate_left
              · simp only [Act.put, List.setIfInBounds_toArray, List.set_cons_zero, List.set_cons_succ, i64_w, i32_w]
                rfl
              refine pure_ (i := 6) (N := some 28) (v := ?_) (a' := ?_) #[true, true, false, true, true, true, true, false, false, false, false, false] rfl rfl (any_of HT_.out (by kernel_rfl)) (fun _ _ _ h => h) (Or.inl ⟨by rfl, ?_⟩) ?_ ?_
              rotate_left
              · intro w'
                go_simp
                with_reducible rfl
              rotate_left
              · simp only [Act.put, List.setIfInBounds_toArray, List.set_cons_zero, List.set_cons_succ, i64_w, i32_w]
                rfl
              refine pure_ (i := 7) (N := some 29) (v := ?_) (a' := ?_) #[true, true, false, true, true, true, true, true, false, false, false, false] rfl rfl (any_of HT_.out (by kernel_rfl)) (fun _ _ _ h => h) (Or.inl ⟨by rfl, ?_⟩) ?_ ?_
              rotate_left
              · intro w'
                go_simp
                with_reducible rfl
              rotate_left
              · simp only [Act.put, List.setIfInBounds_toArray, List.set_cons_zero, List.set_cons_succ, i64_w, i32_w]
                rfl
              refine take_ (i := 2) (N := some 24) (v := ?_) (a' := ?_) #[true, true, true, true, true, true, true, true, false, false, false, false] rfl rfl (take_ofW HT_.out HW_.out (by kernel_rfl)) (fun _ _ _ h => h) (Or.inl ⟨by rfl, ?_⟩) hHeld ?_ ?_
              rotate_left
              · rintro w' ⟨s0, s1, s2, s3, s4, s5⟩
                go_simp
                with_reducible rfl
              rotate_left
              · simp only [Act.put, List.setIfInBounds_toArray, List.set_cons_zero, List.set_cons_succ, i64_w, i32_w]
                rfl
              refine take_ (i := 8) (N := some 30) (v := ?_) (a' := ?_) #[true, true, true, true, true, true, true, true, true, false, false, false] rfl rfl (take_ofW HT_.out HW_.out (by kernel_rfl)) (fun _ _ _ h => h) (Or.inl ⟨by rfl, ?_⟩) hHeld ?_ ?_
              rotate_left
              · rintro w' ⟨s0, s1, s2, s3, s4, s5⟩
                go_simp
                with_reducible rfl
              rotate_left
              · simp only [Act.put, List.setIfInBounds_toArray, List.set_cons_zero, List.set_cons_succ, i64_w, i32_w]
                rfl
              refine pure_ (i := 9) (N := some 31) (v := ?_) (a' := ?_) #[true, true, true, true, true, true, true, true, true, true, false, false] rfl rfl (any_of HT_.out (by kernel_rfl)) (fun _ _ _ h => h) (Or.inl ⟨by rfl, ?_⟩) ?_ ?_
              rotate_left
              · intro w'
                go_simp
                with_reducible rfl
              rotate_left
              · simp only [Act.put, List.setIfInBounds_toArray, List.set_cons_zero, List.set_cons_succ, i64_w, i32_w]
                rfl
              refine one_ (i := 10) (N := some 7) #[true, true, true, true, true, true, true, true, true, true, true, false] rfl rfl (one_of HT_.out (by kernel_rfl)) (by decide) (fun K hK => ?_)
              refine box_step ?hg (N := 7) ?hd (cs := #[.int .i64 0, .int .i64 0, .string (⟨#[]⟩ : ByteArray), .int .i64 0, .int .i64 0, .string (⟨#[]⟩ : ByteArray)]) (t := 45) ?hr ?_; (case hd => rfl); (case hg => rfl); (case hr => first | (go_simp; done) | (go_simp; rfl))
              intro gb117 hg w15 hbox hb
              have n0_ := Aside0.mk (blk_below (g := gb113) (o := .cells #[.int .i64 0, .int .i64 0, .string (⟨#[]⟩ : ByteArray)] 25 (0, 0)) (by (with_reducible repeat (first | refine blk_drewN ?_ _ | refine blk_drew ?_ | refine blk_alloc ?_ _)); exact BK113.out) hb)
              have n1_ := Aside0.mk (below_step (by repeat (first | (with_reducible first | exact HB.out | apply below_alloc | apply pw_below_drewN | apply below_drew1 | refine below_set ?_ GE113.out) | exact HB.out)) hb)
              have n2_ := Aside0.mk (hbox)
              have n3_ := Aside0.mk ((by rw [hg]; exact (below_size (by repeat (first | (with_reducible first | exact HB.out | apply below_alloc | apply pw_below_drewN | apply below_drew1 | refine below_set ?_ GE113.out) | exact HB.out))) : w.heap.size ≤ gb117))
              have n4_ := Aside0.mk ((by rw [hg]; exact (below_size (by repeat (first | (with_reducible first | exact HB.out | apply below_alloc | apply pw_below_drewN | apply below_drew1 | refine below_set ?_ GE113.out) | exact HB.out))) : w.heap.size ≤ gb117))
              have n5_ := Aside0.mk ((by rw [hg]; exact Nat.ne_of_lt (blk_lt (g := gb113) (o := .cells #[.int .i64 0, .int .i64 0, .string (⟨#[]⟩ : ByteArray)] 25 (0, 0)) (by (with_reducible repeat (first | refine blk_drewN ?_ _ | refine blk_drew ?_ | refine blk_alloc ?_ _)); exact BK113.out)) : gb113 ≠ gb117))
              have n6_ := Aside0.mk ((by rw [hg]; exact Nat.ne_of_gt (blk_lt (g := gb113) (o := .cells #[.int .i64 0, .int .i64 0, .string (⟨#[]⟩ : ByteArray)] 25 (0, 0)) (by (with_reducible repeat (first | refine blk_drewN ?_ _ | refine blk_drew ?_ | refine blk_alloc ?_ _)); exact BK113.out)) : gb117 ≠ gb113))
              clear BK113
              clear HB
              have BK113 := n0_
              have HB := n1_
              have BK117 := n2_
              have GW117 := n3_
              have GE117 := n4_
              have NB113_117 := n5_
              have NB117_113 := n6_
              clear n0_ n1_ n2_ n3_ n4_ n5_ n6_
              clear hb hbox hg
              refine hK.out _ _ ⟨((HB.out.cell (World.block_lt_of_cell? w _ hw115_0)).trans hw115_0), ((HB.out.cell (World.block_lt_of_cell? w _ hw115_1)).trans hw115_1), ((HB.out.cell (World.block_lt_of_cell? w _ hw115_2)).trans hw115_2), ((HB.out.cell (World.block_lt_of_cell? w _ hw116_0)).trans hw116_0), ((HB.out.cell (World.block_lt_of_cell? w _ hw116_1)).trans hw116_1), ((HB.out.cell (World.block_lt_of_cell? w _ hw116_2)).trans hw116_2)⟩ (fun hHeld => ?_)
              clear hK K
              refine norm_ (a' := ?_) ?_ ?_
              rotate_left
              · show Act.put _ (some 7) _ = _
                simp only [Act.put, List.setIfInBounds_toArray, List.set_cons_zero, List.set_cons_succ, i64_w, i32_w]
                rfl
              refine one_ (i := 11) (N := none) #[true, true, true, true, true, true, true, true, true, true, true, true] rfl rfl (one_of HT_.out (by kernel_rfl)) (by decide) (fun K hK => ?_)
              have hs16 : w15.cell? ⟨gb117, 0, none⟩ = some (.int .i64 0) := (blk_cell BK117.out 0).trans rfl
              have hfs16 := blk_frozen BK117.out 0
              have hns16_0 := NB113_117.out
              have hms16_0 := NB117_113.out
              have hs17 : w15.cell? ⟨gb117, 1, none⟩ = some (.int .i64 0) := (blk_cell BK117.out 1).trans rfl
              have hfs17 := blk_frozen BK117.out 1
              have hns17_0 := NB113_117.out
              have hms17_0 := NB117_113.out
              have hs18 : w15.cell? ⟨gb117, 2, none⟩ = some (.string (⟨#[]⟩ : ByteArray)) := (blk_cell BK117.out 2).trans rfl
              have hfs18 := blk_frozen BK117.out 2
              have hns18_0 := NB113_117.out
              have hms18_0 := NB117_113.out
              have hs19 : w15.cell? ⟨gb117, 3, none⟩ = some (.int .i64 0) := (blk_cell BK117.out 3).trans rfl
              have hfs19 := blk_frozen BK117.out 3
              have hns19_0 := NB113_117.out
              have hms19_0 := NB117_113.out
              have hs20 : w15.cell? ⟨gb117, 4, none⟩ = some (.int .i64 0) := (blk_cell BK117.out 4).trans rfl
              have hfs20 := blk_frozen BK117.out 4
              have hns20_0 := NB113_117.out
              have hms20_0 := NB117_113.out
              have hs21 : w15.cell? ⟨gb117, 5, none⟩ = some (.string (⟨#[]⟩ : ByteArray)) := (blk_cell BK117.out 5).trans rfl
              have hfs21 := blk_frozen BK117.out 5
              have hns21_0 := NB113_117.out
              have hms21_0 := NB117_113.out
              refine skip_ (w1 := ?_) (by rfl) rfl ?_ ?_
              rotate_left
              · go_simp
                rfl
              refine hK.out _ _ ⟨((cell_far (p := ⟨gb117, _, none⟩) (by first | exact Nat.ne_of_lt (Nat.lt_of_lt_of_le (by have := World.block_lt_of_cell? _ _ hw115_0; first | rwa [add_block] at this | exact this) GW117.out) | (rw [add_block]; exact Nat.ne_of_lt (Nat.lt_of_lt_of_le (by have := World.block_lt_of_cell? _ _ hw115_0; first | rwa [add_block] at this | exact this) GW117.out)) | (show (Addr.add _ _).block ≠ _; rw [add_block]; exact Nat.ne_of_lt (Nat.lt_of_lt_of_le (by have := World.block_lt_of_cell? _ _ hw115_0; first | rwa [add_block] at this | exact this) GW117.out)) | (dsimp only; exact Nat.ne_of_lt (Nat.lt_of_lt_of_le (by have := World.block_lt_of_cell? _ _ hw115_0; first | rwa [add_block] at this | exact this) GW117.out))) _).trans (((cell_far (p := ⟨gb117, _, none⟩) (by first | exact Nat.ne_of_lt (Nat.lt_of_lt_of_le (by have := World.block_lt_of_cell? _ _ hw115_0; first | rwa [add_block] at this | exact this) GW117.out) | (rw [add_block]; exact Nat.ne_of_lt (Nat.lt_of_lt_of_le (by have := World.block_lt_of_cell? _ _ hw115_0; first | rwa [add_block] at this | exact this) GW117.out)) | (show (Addr.add _ _).block ≠ _; rw [add_block]; exact Nat.ne_of_lt (Nat.lt_of_lt_of_le (by have := World.block_lt_of_cell? _ _ hw115_0; first | rwa [add_block] at this | exact this) GW117.out)) | (dsimp only; exact Nat.ne_of_lt (Nat.lt_of_lt_of_le (by have := World.block_lt_of_cell? _ _ hw115_0; first | rwa [add_block] at this | exact this) GW117.out))) _).trans (((cell_far (p := ⟨gb117, _, none⟩) (by first | exact Nat.ne_of_lt (Nat.lt_of_lt_of_le (by have := World.block_lt_of_cell? _ _ hw115_0; first | rwa [add_block] at this | exact this) GW117.out) | (rw [add_block]; exact Nat.ne_of_lt (Nat.lt_of_lt_of_le (by have := World.block_lt_of_cell? _ _ hw115_0; first | rwa [add_block] at this | exact this) GW117.out)) | (show (Addr.add _ _).block ≠ _; rw [add_block]; exact Nat.ne_of_lt (Nat.lt_of_lt_of_le (by have := World.block_lt_of_cell? _ _ hw115_0; first | rwa [add_block] at this | exact this) GW117.out)) | (dsimp only; exact Nat.ne_of_lt (Nat.lt_of_lt_of_le (by have := World.block_lt_of_cell? _ _ hw115_0; first | rwa [add_block] at this | exact this) GW117.out))) _).trans (((cell_far (p := ⟨gb117, _, none⟩) (by first | exact Nat.ne_of_lt (Nat.lt_of_lt_of_le (by have := World.block_lt_of_cell? _ _ hw115_0; first | rwa [add_block] at this | exact this) GW117.out) | (rw [add_block]; exact Nat.ne_of_lt (Nat.lt_of_lt_of_le (by have := World.block_lt_of_cell? _ _ hw115_0; first | rwa [add_block] at this | exact this) GW117.out)) | (show (Addr.add _ _).block ≠ _; rw [add_block]; exact Nat.ne_of_lt (Nat.lt_of_lt_of_le (by have := World.block_lt_of_cell? _ _ hw115_0; first | rwa [add_block] at this | exact this) GW117.out)) | (dsimp only; exact Nat.ne_of_lt (Nat.lt_of_lt_of_le (by have := World.block_lt_of_cell? _ _ hw115_0; first | rwa [add_block] at this | exact this) GW117.out))) _).trans (((cell_far (p := ⟨gb117, _, none⟩) (by first | exact Nat.ne_of_lt (Nat.lt_of_lt_of_le (by have := World.block_lt_of_cell? _ _ hw115_0; first | rwa [add_block] at this | exact this) GW117.out) | (rw [add_block]; exact Nat.ne_of_lt (Nat.lt_of_lt_of_le (by have := World.block_lt_of_cell? _ _ hw115_0; first | rwa [add_block] at this | exact this) GW117.out)) | (show (Addr.add _ _).block ≠ _; rw [add_block]; exact Nat.ne_of_lt (Nat.lt_of_lt_of_le (by have := World.block_lt_of_cell? _ _ hw115_0; first | rwa [add_block] at this | exact this) GW117.out)) | (dsimp only; exact Nat.ne_of_lt (Nat.lt_of_lt_of_le (by have := World.block_lt_of_cell? _ _ hw115_0; first | rwa [add_block] at this | exact this) GW117.out))) _).trans (((cell_far (p := ⟨gb117, _, none⟩) (by first | exact Nat.ne_of_lt (Nat.lt_of_lt_of_le (by have := World.block_lt_of_cell? _ _ hw115_0; first | rwa [add_block] at this | exact this) GW117.out) | (rw [add_block]; exact Nat.ne_of_lt (Nat.lt_of_lt_of_le (by have := World.block_lt_of_cell? _ _ hw115_0; first | rwa [add_block] at this | exact this) GW117.out)) | (show (Addr.add _ _).block ≠ _; rw [add_block]; exact Nat.ne_of_lt (Nat.lt_of_lt_of_le (by have := World.block_lt_of_cell? _ _ hw115_0; first | rwa [add_block] at this | exact this) GW117.out)) | (dsimp only; exact Nat.ne_of_lt (Nat.lt_of_lt_of_le (by have := World.block_lt_of_cell? _ _ hw115_0; first | rwa [add_block] at this | exact this) GW117.out))) _).trans (hHeld.1)))))))))))), ((cell_far (p := ⟨gb117, _, none⟩) (by first | exact Nat.ne_of_lt (Nat.lt_of_lt_of_le (by have := World.block_lt_of_cell? _ _ hw115_1; first | rwa [add_block] at this | exact this) GW117.out) | (rw [add_block]; exact Nat.ne_of_lt (Nat.lt_of_lt_of_le (by have := World.block_lt_of_cell? _ _ hw115_1; first | rwa [add_block] at this | exact this) GW117.out)) | (show (Addr.add _ _).block ≠ _; rw [add_block]; exact Nat.ne_of_lt (Nat.lt_of_lt_of_le (by have := World.block_lt_of_cell? _ _ hw115_1; first | rwa [add_block] at this | exact this) GW117.out)) | (dsimp only; exact Nat.ne_of_lt (Nat.lt_of_lt_of_le (by have := World.block_lt_of_cell? _ _ hw115_1; first | rwa [add_block] at this | exact this) GW117.out))) _).trans (((cell_far (p := ⟨gb117, _, none⟩) (by first | exact Nat.ne_of_lt (Nat.lt_of_lt_of_le (by have := World.block_lt_of_cell? _ _ hw115_1; first | rwa [add_block] at this | exact this) GW117.out) | (rw [add_block]; exact Nat.ne_of_lt (Nat.lt_of_lt_of_le (by have := World.block_lt_of_cell? _ _ hw115_1; first | rwa [add_block] at this | exact this) GW117.out)) | (show (Addr.add _ _).block ≠ _; rw [add_block]; exact Nat.ne_of_lt (Nat.lt_of_lt_of_le (by have := World.block_lt_of_cell? _ _ hw115_1; first | rwa [add_block] at this | exact this) GW117.out)) | (dsimp only; exact Nat.ne_of_lt (Nat.lt_of_lt_of_le (by have := World.block_lt_of_cell? _ _ hw115_1; first | rwa [add_block] at this | exact this) GW117.out))) _).trans (((cell_far (p := ⟨gb117, _, none⟩) (by first | exact Nat.ne_of_lt (Nat.lt_of_lt_of_le (by have := World.block_lt_of_cell? _ _ hw115_1; first | rwa [add_block] at this | exact this) GW117.out) | (rw [add_block]; exact Nat.ne_of_lt (Nat.lt_of_lt_of_le (by have := World.block_lt_of_cell? _ _ hw115_1; first | rwa [add_block] at this | exact this) GW117.out)) | (show (Addr.add _ _).block ≠ _; rw [add_block]; exact Nat.ne_of_lt (Nat.lt_of_lt_of_le (by have := World.block_lt_of_cell? _ _ hw115_1; first | rwa [add_block] at this | exact this) GW117.out)) | (dsimp only; exact Nat.ne_of_lt (Nat.lt_of_lt_of_le (by have := World.block_lt_of_cell? _ _ hw115_1; first | rwa [add_block] at this | exact this) GW117.out))) _).trans (((cell_far (p := ⟨gb117, _, none⟩) (by first | exact Nat.ne_of_lt (Nat.lt_of_lt_of_le (by have := World.block_lt_of_cell? _ _ hw115_1; first | rwa [add_block] at this | exact this) GW117.out) | (rw [add_block]; exact Nat.ne_of_lt (Nat.lt_of_lt_of_le (by have := World.block_lt_of_cell? _ _ hw115_1; first | rwa [add_block] at this | exact this) GW117.out)) | (show (Addr.add _ _).block ≠ _; rw [add_block]; exact Nat.ne_of_lt (Nat.lt_of_lt_of_le (by have := World.block_lt_of_cell? _ _ hw115_1; first | rwa [add_block] at this | exact this) GW117.out)) | (dsimp only; exact Nat.ne_of_lt (Nat.lt_of_lt_of_le (by have := World.block_lt_of_cell? _ _ hw115_1; first | rwa [add_block] at this | exact this) GW117.out))) _).trans (((cell_far (p := ⟨gb117, _, none⟩) (by first | exact Nat.ne_of_lt (Nat.lt_of_lt_of_le (by have := World.block_lt_of_cell? _ _ hw115_1; first | rwa [add_block] at this | exact this) GW117.out) | (rw [add_block]; exact Nat.ne_of_lt (Nat.lt_of_lt_of_le (by have := World.block_lt_of_cell? _ _ hw115_1; first | rwa [add_block] at this | exact this) GW117.out)) | (show (Addr.add _ _).block ≠ _; rw [add_block]; exact Nat.ne_of_lt (Nat.lt_of_lt_of_le (by have := World.block_lt_of_cell? _ _ hw115_1; first | rwa [add_block] at this | exact this) GW117.out)) | (dsimp only; exact Nat.ne_of_lt (Nat.lt_of_lt_of_le (by have := World.block_lt_of_cell? _ _ hw115_1; first | rwa [add_block] at this | exact this) GW117.out))) _).trans (((cell_far (p := ⟨gb117, _, none⟩) (by first | exact Nat.ne_of_lt (Nat.lt_of_lt_of_le (by have := World.block_lt_of_cell? _ _ hw115_1; first | rwa [add_block] at this | exact this) GW117.out) | (rw [add_block]; exact Nat.ne_of_lt (Nat.lt_of_lt_of_le (by have := World.block_lt_of_cell? _ _ hw115_1; first | rwa [add_block] at this | exact this) GW117.out)) | (show (Addr.add _ _).block ≠ _; rw [add_block]; exact Nat.ne_of_lt (Nat.lt_of_lt_of_le (by have := World.block_lt_of_cell? _ _ hw115_1; first | rwa [add_block] at this | exact this) GW117.out)) | (dsimp only; exact Nat.ne_of_lt (Nat.lt_of_lt_of_le (by have := World.block_lt_of_cell? _ _ hw115_1; first | rwa [add_block] at this | exact this) GW117.out))) _).trans (hHeld.2.1)))))))))))), ((cell_far (p := ⟨gb117, _, none⟩) (by first | exact Nat.ne_of_lt (Nat.lt_of_lt_of_le (by have := World.block_lt_of_cell? _ _ hw115_2; first | rwa [add_block] at this | exact this) GW117.out) | (rw [add_block]; exact Nat.ne_of_lt (Nat.lt_of_lt_of_le (by have := World.block_lt_of_cell? _ _ hw115_2; first | rwa [add_block] at this | exact this) GW117.out)) | (show (Addr.add _ _).block ≠ _; rw [add_block]; exact Nat.ne_of_lt (Nat.lt_of_lt_of_le (by have := World.block_lt_of_cell? _ _ hw115_2; first | rwa [add_block] at this | exact this) GW117.out)) | (dsimp only; exact Nat.ne_of_lt (Nat.lt_of_lt_of_le (by have := World.block_lt_of_cell? _ _ hw115_2; first | rwa [add_block] at this | exact this) GW117.out))) _).trans (((cell_far (p := ⟨gb117, _, none⟩) (by first | exact Nat.ne_of_lt (Nat.lt_of_lt_of_le (by have := World.block_lt_of_cell? _ _ hw115_2; first | rwa [add_block] at this | exact this) GW117.out) | (rw [add_block]; exact Nat.ne_of_lt (Nat.lt_of_lt_of_le (by have := World.block_lt_of_cell? _ _ hw115_2; first | rwa [add_block] at this | exact this) GW117.out)) | (show (Addr.add _ _).block ≠ _; rw [add_block]; exact Nat.ne_of_lt (Nat.lt_of_lt_of_le (by have := World.block_lt_of_cell? _ _ hw115_2; first | rwa [add_block] at this | exact this) GW117.out)) | (dsimp only; exact Nat.ne_of_lt (Nat.lt_of_lt_of_le (by have := World.block_lt_of_cell? _ _ hw115_2; first | rwa [add_block] at this | exact this) GW117.out))) _).trans (((cell_far (p := ⟨gb117, _, none⟩) (by first | exact Nat.ne_of_lt (Nat.lt_of_lt_of_le (by have := World.block_lt_of_cell? _ _ hw115_2; first | rwa [add_block] at this | exact this) GW117.out) | (rw [add_block]; exact Nat.ne_of_lt (Nat.lt_of_lt_of_le (by have := World.block_lt_of_cell? _ _ hw115_2; first | rwa [add_block] at this | exact this) GW117.out)) | (show (Addr.add _ _).block ≠ _; rw [add_block]; exact Nat.ne_of_lt (Nat.lt_of_lt_of_le (by have := World.block_lt_of_cell? _ _ hw115_2; first | rwa [add_block] at this | exact this) GW117.out)) | (dsimp only; exact Nat.ne_of_lt (Nat.lt_of_lt_of_le (by have := World.block_lt_of_cell? _ _ hw115_2; first | rwa [add_block] at this | exact this) GW117.out))) _).trans (((cell_far (p := ⟨gb117, _, none⟩) (by first | exact Nat.ne_of_lt (Nat.lt_of_lt_of_le (by have := World.block_lt_of_cell? _ _ hw115_2; first | rwa [add_block] at this | exact this) GW117.out) | (rw [add_block]; exact Nat.ne_of_lt (Nat.lt_of_lt_of_le (by have := World.block_lt_of_cell? _ _ hw115_2; first | rwa [add_block] at this | exact this) GW117.out)) | (show (Addr.add _ _).block ≠ _; rw [add_block]; exact Nat.ne_of_lt (Nat.lt_of_lt_of_le (by have := World.block_lt_of_cell? _ _ hw115_2; first | rwa [add_block] at this | exact this) GW117.out)) | (dsimp only; exact Nat.ne_of_lt (Nat.lt_of_lt_of_le (by have := World.block_lt_of_cell? _ _ hw115_2; first | rwa [add_block] at this | exact this) GW117.out))) _).trans (((cell_far (p := ⟨gb117, _, none⟩) (by first | exact Nat.ne_of_lt (Nat.lt_of_lt_of_le (by have := World.block_lt_of_cell? _ _ hw115_2; first | rwa [add_block] at this | exact this) GW117.out) | (rw [add_block]; exact Nat.ne_of_lt (Nat.lt_of_lt_of_le (by have := World.block_lt_of_cell? _ _ hw115_2; first | rwa [add_block] at this | exact this) GW117.out)) | (show (Addr.add _ _).block ≠ _; rw [add_block]; exact Nat.ne_of_lt (Nat.lt_of_lt_of_le (by have := World.block_lt_of_cell? _ _ hw115_2; first | rwa [add_block] at this | exact this) GW117.out)) | (dsimp only; exact Nat.ne_of_lt (Nat.lt_of_lt_of_le (by have := World.block_lt_of_cell? _ _ hw115_2; first | rwa [add_block] at this | exact this) GW117.out))) _).trans (((cell_far (p := ⟨gb117, _, none⟩) (by first | exact Nat.ne_of_lt (Nat.lt_of_lt_of_le (by have := World.block_lt_of_cell? _ _ hw115_2; first | rwa [add_block] at this | exact this) GW117.out) | (rw [add_block]; exact Nat.ne_of_lt (Nat.lt_of_lt_of_le (by have := World.block_lt_of_cell? _ _ hw115_2; first | rwa [add_block] at this | exact this) GW117.out)) | (show (Addr.add _ _).block ≠ _; rw [add_block]; exact Nat.ne_of_lt (Nat.lt_of_lt_of_le (by have := World.block_lt_of_cell? _ _ hw115_2; first | rwa [add_block] at this | exact this) GW117.out)) | (dsimp only; exact Nat.ne_of_lt (Nat.lt_of_lt_of_le (by have := World.block_lt_of_cell? _ _ hw115_2; first | rwa [add_block] at this | exact this) GW117.out))) _).trans (hHeld.2.2.1)))))))))))), ((cell_far (p := ⟨gb117, _, none⟩) (by first | exact Nat.ne_of_lt (Nat.lt_of_lt_of_le (by have := World.block_lt_of_cell? _ _ hw116_0; first | rwa [add_block] at this | exact this) GW117.out) | (rw [add_block]; exact Nat.ne_of_lt (Nat.lt_of_lt_of_le (by have := World.block_lt_of_cell? _ _ hw116_0; first | rwa [add_block] at this | exact this) GW117.out)) | (show (Addr.add _ _).block ≠ _; rw [add_block]; exact Nat.ne_of_lt (Nat.lt_of_lt_of_le (by have := World.block_lt_of_cell? _ _ hw116_0; first | rwa [add_block] at this | exact this) GW117.out)) | (dsimp only; exact Nat.ne_of_lt (Nat.lt_of_lt_of_le (by have := World.block_lt_of_cell? _ _ hw116_0; first | rwa [add_block] at this | exact this) GW117.out))) _).trans (((cell_far (p := ⟨gb117, _, none⟩) (by first | exact Nat.ne_of_lt (Nat.lt_of_lt_of_le (by have := World.block_lt_of_cell? _ _ hw116_0; first | rwa [add_block] at this | exact this) GW117.out) | (rw [add_block]; exact Nat.ne_of_lt (Nat.lt_of_lt_of_le (by have := World.block_lt_of_cell? _ _ hw116_0; first | rwa [add_block] at this | exact this) GW117.out)) | (show (Addr.add _ _).block ≠ _; rw [add_block]; exact Nat.ne_of_lt (Nat.lt_of_lt_of_le (by have := World.block_lt_of_cell? _ _ hw116_0; first | rwa [add_block] at this | exact this) GW117.out)) | (dsimp only; exact Nat.ne_of_lt (Nat.lt_of_lt_of_le (by have := World.block_lt_of_cell? _ _ hw116_0; first | rwa [add_block] at this | exact this) GW117.out))) _).trans (((cell_far (p := ⟨gb117, _, none⟩) (by first | exact Nat.ne_of_lt (Nat.lt_of_lt_of_le (by have := World.block_lt_of_cell? _ _ hw116_0; first | rwa [add_block] at this | exact this) GW117.out) | (rw [add_block]; exact Nat.ne_of_lt (Nat.lt_of_lt_of_le (by have := World.block_lt_of_cell? _ _ hw116_0; first | rwa [add_block] at this | exact this) GW117.out)) | (show (Addr.add _ _).block ≠ _; rw [add_block]; exact Nat.ne_of_lt (Nat.lt_of_lt_of_le (by have := World.block_lt_of_cell? _ _ hw116_0; first | rwa [add_block] at this | exact this) GW117.out)) | (dsimp only; exact Nat.ne_of_lt (Nat.lt_of_lt_of_le (by have := World.block_lt_of_cell? _ _ hw116_0; first | rwa [add_block] at this | exact this) GW117.out))) _).trans (((cell_far (p := ⟨gb117, _, none⟩) (by first | exact Nat.ne_of_lt (Nat.lt_of_lt_of_le (by have := World.block_lt_of_cell? _ _ hw116_0; first | rwa [add_block] at this | exact this) GW117.out) | (rw [add_block]; exact Nat.ne_of_lt (Nat.lt_of_lt_of_le (by have := World.block_lt_of_cell? _ _ hw116_0; first | rwa [add_block] at this | exact this) GW117.out)) | (show (Addr.add _ _).block ≠ _; rw [add_block]; exact Nat.ne_of_lt (Nat.lt_of_lt_of_le (by have := World.block_lt_of_cell? _ _ hw116_0; first | rwa [add_block] at this | exact this) GW117.out)) | (dsimp only; exact Nat.ne_of_lt (Nat.lt_of_lt_of_le (by have := World.block_lt_of_cell? _ _ hw116_0; first | rwa [add_block] at this | exact this) GW117.out))) _).trans (((cell_far (p := ⟨gb117, _, none⟩) (by first | exact Nat.ne_of_lt (Nat.lt_of_lt_of_le (by have := World.block_lt_of_cell? _ _ hw116_0; first | rwa [add_block] at this | exact this) GW117.out) | (rw [add_block]; exact Nat.ne_of_lt (Nat.lt_of_lt_of_le (by have := World.block_lt_of_cell? _ _ hw116_0; first | rwa [add_block] at this | exact this) GW117.out)) | (show (Addr.add _ _).block ≠ _; rw [add_block]; exact Nat.ne_of_lt (Nat.lt_of_lt_of_le (by have := World.block_lt_of_cell? _ _ hw116_0; first | rwa [add_block] at this | exact this) GW117.out)) | (dsimp only; exact Nat.ne_of_lt (Nat.lt_of_lt_of_le (by have := World.block_lt_of_cell? _ _ hw116_0; first | rwa [add_block] at this | exact this) GW117.out))) _).trans (((cell_far (p := ⟨gb117, _, none⟩) (by first | exact Nat.ne_of_lt (Nat.lt_of_lt_of_le (by have := World.block_lt_of_cell? _ _ hw116_0; first | rwa [add_block] at this | exact this) GW117.out) | (rw [add_block]; exact Nat.ne_of_lt (Nat.lt_of_lt_of_le (by have := World.block_lt_of_cell? _ _ hw116_0; first | rwa [add_block] at this | exact this) GW117.out)) | (show (Addr.add _ _).block ≠ _; rw [add_block]; exact Nat.ne_of_lt (Nat.lt_of_lt_of_le (by have := World.block_lt_of_cell? _ _ hw116_0; first | rwa [add_block] at this | exact this) GW117.out)) | (dsimp only; exact Nat.ne_of_lt (Nat.lt_of_lt_of_le (by have := World.block_lt_of_cell? _ _ hw116_0; first | rwa [add_block] at this | exact this) GW117.out))) _).trans (hHeld.2.2.2.1)))))))))))), ((cell_far (p := ⟨gb117, _, none⟩) (by first | exact Nat.ne_of_lt (Nat.lt_of_lt_of_le (by have := World.block_lt_of_cell? _ _ hw116_1; first | rwa [add_block] at this | exact this) GW117.out) | (rw [add_block]; exact Nat.ne_of_lt (Nat.lt_of_lt_of_le (by have := World.block_lt_of_cell? _ _ hw116_1; first | rwa [add_block] at this | exact this) GW117.out)) | (show (Addr.add _ _).block ≠ _; rw [add_block]; exact Nat.ne_of_lt (Nat.lt_of_lt_of_le (by have := World.block_lt_of_cell? _ _ hw116_1; first | rwa [add_block] at this | exact this) GW117.out)) | (dsimp only; exact Nat.ne_of_lt (Nat.lt_of_lt_of_le (by have := World.block_lt_of_cell? _ _ hw116_1; first | rwa [add_block] at this | exact this) GW117.out))) _).trans (((cell_far (p := ⟨gb117, _, none⟩) (by first | exact Nat.ne_of_lt (Nat.lt_of_lt_of_le (by have := World.block_lt_of_cell? _ _ hw116_1; first | rwa [add_block] at this | exact this) GW117.out) | (rw [add_block]; exact Nat.ne_of_lt (Nat.lt_of_lt_of_le (by have := World.block_lt_of_cell? _ _ hw116_1; first | rwa [add_block] at this | exact this) GW117.out)) | (show (Addr.add _ _).block ≠ _; rw [add_block]; exact Nat.ne_of_lt (Nat.lt_of_lt_of_le (by have := World.block_lt_of_cell? _ _ hw116_1; first | rwa [add_block] at this | exact this) GW117.out)) | (dsimp only; exact Nat.ne_of_lt (Nat.lt_of_lt_of_le (by have := World.block_lt_of_cell? _ _ hw116_1; first | rwa [add_block] at this | exact this) GW117.out))) _).trans (((cell_far (p := ⟨gb117, _, none⟩) (by first | exact Nat.ne_of_lt (Nat.lt_of_lt_of_le (by have := World.block_lt_of_cell? _ _ hw116_1; first | rwa [add_block] at this | exact this) GW117.out) | (rw [add_block]; exact Nat.ne_of_lt (Nat.lt_of_lt_of_le (by have := World.block_lt_of_cell? _ _ hw116_1; first | rwa [add_block] at this | exact this) GW117.out)) | (show (Addr.add _ _).block ≠ _; rw [add_block]; exact Nat.ne_of_lt (Nat.lt_of_lt_of_le (by have := World.block_lt_of_cell? _ _ hw116_1; first | rwa [add_block] at this | exact this) GW117.out)) | (dsimp only; exact Nat.ne_of_lt (Nat.lt_of_lt_of_le (by have := World.block_lt_of_cell? _ _ hw116_1; first | rwa [add_block] at this | exact this) GW117.out))) _).trans (((cell_far (p := ⟨gb117, _, none⟩) (by first | exact Nat.ne_of_lt (Nat.lt_of_lt_of_le (by have := World.block_lt_of_cell? _ _ hw116_1; first | rwa [add_block] at this | exact this) GW117.out) | (rw [add_block]; exact Nat.ne_of_lt (Nat.lt_of_lt_of_le (by have := World.block_lt_of_cell? _ _ hw116_1; first | rwa [add_block] at this | exact this) GW117.out)) | (show (Addr.add _ _).block ≠ _; rw [add_block]; exact Nat.ne_of_lt (Nat.lt_of_lt_of_le (by have := World.block_lt_of_cell? _ _ hw116_1; first | rwa [add_block] at this | exact this) GW117.out)) | (dsimp only; exact Nat.ne_of_lt (Nat.lt_of_lt_of_le (by have := World.block_lt_of_cell? _ _ hw116_1; first | rwa [add_block] at this | exact this) GW117.out))) _).trans (((cell_far (p := ⟨gb117, _, none⟩) (by first | exact Nat.ne_of_lt (Nat.lt_of_lt_of_le (by have := World.block_lt_of_cell? _ _ hw116_1; first | rwa [add_block] at this | exact this) GW117.out) | (rw [add_block]; exact Nat.ne_of_lt (Nat.lt_of_lt_of_le (by have := World.block_lt_of_cell? _ _ hw116_1; first | rwa [add_block] at this | exact this) GW117.out)) | (show (Addr.add _ _).block ≠ _; rw [add_block]; exact Nat.ne_of_lt (Nat.lt_of_lt_of_le (by have := World.block_lt_of_cell? _ _ hw116_1; first | rwa [add_block] at this | exact this) GW117.out)) | (dsimp only; exact Nat.ne_of_lt (Nat.lt_of_lt_of_le (by have := World.block_lt_of_cell? _ _ hw116_1; first | rwa [add_block] at this | exact this) GW117.out))) _).trans (((cell_far (p := ⟨gb117, _, none⟩) (by first | exact Nat.ne_of_lt (Nat.lt_of_lt_of_le (by have := World.block_lt_of_cell? _ _ hw116_1; first | rwa [add_block] at this | exact this) GW117.out) | (rw [add_block]; exact Nat.ne_of_lt (Nat.lt_of_lt_of_le (by have := World.block_lt_of_cell? _ _ hw116_1; first | rwa [add_block] at this | exact this) GW117.out)) | (show (Addr.add _ _).block ≠ _; rw [add_block]; exact Nat.ne_of_lt (Nat.lt_of_lt_of_le (by have := World.block_lt_of_cell? _ _ hw116_1; first | rwa [add_block] at this | exact this) GW117.out)) | (dsimp only; exact Nat.ne_of_lt (Nat.lt_of_lt_of_le (by have := World.block_lt_of_cell? _ _ hw116_1; first | rwa [add_block] at this | exact this) GW117.out))) _).trans (hHeld.2.2.2.2.1)))))))))))), ((cell_far (p := ⟨gb117, _, none⟩) (by first | exact Nat.ne_of_lt (Nat.lt_of_lt_of_le (by have := World.block_lt_of_cell? _ _ hw116_2; first | rwa [add_block] at this | exact this) GW117.out) | (rw [add_block]; exact Nat.ne_of_lt (Nat.lt_of_lt_of_le (by have := World.block_lt_of_cell? _ _ hw116_2; first | rwa [add_block] at this | exact this) GW117.out)) | (show (Addr.add _ _).block ≠ _; rw [add_block]; exact Nat.ne_of_lt (Nat.lt_of_lt_of_le (by have := World.block_lt_of_cell? _ _ hw116_2; first | rwa [add_block] at this | exact this) GW117.out)) | (dsimp only; exact Nat.ne_of_lt (Nat.lt_of_lt_of_le (by have := World.block_lt_of_cell? _ _ hw116_2; first | rwa [add_block] at this | exact this) GW117.out))) _).trans (((cell_far (p := ⟨gb117, _, none⟩) (by first | exact Nat.ne_of_lt (Nat.lt_of_lt_of_le (by have := World.block_lt_of_cell? _ _ hw116_2; first | rwa [add_block] at this | exact this) GW117.out) | (rw [add_block]; exact Nat.ne_of_lt (Nat.lt_of_lt_of_le (by have := World.block_lt_of_cell? _ _ hw116_2; first | rwa [add_block] at this | exact this) GW117.out)) | (show (Addr.add _ _).block ≠ _; rw [add_block]; exact Nat.ne_of_lt (Nat.lt_of_lt_of_le (by have := World.block_lt_of_cell? _ _ hw116_2; first | rwa [add_block] at this | exact this) GW117.out)) | (dsimp only; exact Nat.ne_of_lt (Nat.lt_of_lt_of_le (by have := World.block_lt_of_cell? _ _ hw116_2; first | rwa [add_block] at this | exact this) GW117.out))) _).trans (((cell_far (p := ⟨gb117, _, none⟩) (by first | exact Nat.ne_of_lt (Nat.lt_of_lt_of_le (by have := World.block_lt_of_cell? _ _ hw116_2; first | rwa [add_block] at this | exact this) GW117.out) | (rw [add_block]; exact Nat.ne_of_lt (Nat.lt_of_lt_of_le (by have := World.block_lt_of_cell? _ _ hw116_2; first | rwa [add_block] at this | exact this) GW117.out)) | (show (Addr.add _ _).block ≠ _; rw [add_block]; exact Nat.ne_of_lt (Nat.lt_of_lt_of_le (by have := World.block_lt_of_cell? _ _ hw116_2; first | rwa [add_block] at this | exact this) GW117.out)) | (dsimp only; exact Nat.ne_of_lt (Nat.lt_of_lt_of_le (by have := World.block_lt_of_cell? _ _ hw116_2; first | rwa [add_block] at this | exact this) GW117.out))) _).trans (((cell_far (p := ⟨gb117, _, none⟩) (by first | exact Nat.ne_of_lt (Nat.lt_of_lt_of_le (by have := World.block_lt_of_cell? _ _ hw116_2; first | rwa [add_block] at this | exact this) GW117.out) | (rw [add_block]; exact Nat.ne_of_lt (Nat.lt_of_lt_of_le (by have := World.block_lt_of_cell? _ _ hw116_2; first | rwa [add_block] at this | exact this) GW117.out)) | (show (Addr.add _ _).block ≠ _; rw [add_block]; exact Nat.ne_of_lt (Nat.lt_of_lt_of_le (by have := World.block_lt_of_cell? _ _ hw116_2; first | rwa [add_block] at this | exact this) GW117.out)) | (dsimp only; exact Nat.ne_of_lt (Nat.lt_of_lt_of_le (by have := World.block_lt_of_cell? _ _ hw116_2; first | rwa [add_block] at this | exact this) GW117.out))) _).trans (((cell_far (p := ⟨gb117, _, none⟩) (by first | exact Nat.ne_of_lt (Nat.lt_of_lt_of_le (by have := World.block_lt_of_cell? _ _ hw116_2; first | rwa [add_block] at this | exact this) GW117.out) | (rw [add_block]; exact Nat.ne_of_lt (Nat.lt_of_lt_of_le (by have := World.block_lt_of_cell? _ _ hw116_2; first | rwa [add_block] at this | exact this) GW117.out)) | (show (Addr.add _ _).block ≠ _; rw [add_block]; exact Nat.ne_of_lt (Nat.lt_of_lt_of_le (by have := World.block_lt_of_cell? _ _ hw116_2; first | rwa [add_block] at this | exact this) GW117.out)) | (dsimp only; exact Nat.ne_of_lt (Nat.lt_of_lt_of_le (by have := World.block_lt_of_cell? _ _ hw116_2; first | rwa [add_block] at this | exact this) GW117.out))) _).trans (((cell_far (p := ⟨gb117, _, none⟩) (by first | exact Nat.ne_of_lt (Nat.lt_of_lt_of_le (by have := World.block_lt_of_cell? _ _ hw116_2; first | rwa [add_block] at this | exact this) GW117.out) | (rw [add_block]; exact Nat.ne_of_lt (Nat.lt_of_lt_of_le (by have := World.block_lt_of_cell? _ _ hw116_2; first | rwa [add_block] at this | exact this) GW117.out)) | (show (Addr.add _ _).block ≠ _; rw [add_block]; exact Nat.ne_of_lt (Nat.lt_of_lt_of_le (by have := World.block_lt_of_cell? _ _ hw116_2; first | rwa [add_block] at this | exact this) GW117.out)) | (dsimp only; exact Nat.ne_of_lt (Nat.lt_of_lt_of_le (by have := World.block_lt_of_cell? _ _ hw116_2; first | rwa [add_block] at this | exact this) GW117.out))) _).trans (hHeld.2.2.2.2.2))))))))))))⟩ (fun hHeld => ?_)
              clear hK K
              refine done_ (done_of HT_.out (by kernel_rfl)) ?_
              go_upto_region 5 with (fail)
              go_cut [41] (fun v41 wc => ∃ (kq : Nat) (x41_12 : Bool), v41 = .bool x41_12 ∧ Aside0 (arith_Do.j1 kq a0 x41_12 ((rd_T25 l1 0).f0) ((rd_T25 l1 0).f1) ((rd_T25 l1 0).f2) ((rd_T25 l1 (ji10)).f0) ((rd_T25 l1 (ji10)).f1) ((rd_T25 l1 (ji10)).f2) = some (r1, r2, r3, r4)) ∧ Aside0 (kq ≤ kj3) ∧ Aside0 (wc.heap[gb113]? = some (.cells #[.int .i64 0, .int .i64 0, .string (⟨#[]⟩ : ByteArray)] 25 (0, 0))) ∧ Aside0 (wc.heap[gb117]? = some (.cells #[.int .i64 ((rd_T25 l1 0).f0), .int .i64 ((rd_T25 l1 0).f1), .string ((rd_T25 l1 0).f2), .int .i64 ((rd_T25 l1 (ji10)).f0), .int .i64 ((rd_T25 l1 (ji10)).f1), .string ((rd_T25 l1 (ji10)).f2)] 45 (0, 0))) ∧ Aside0 (Below w.heap.size w wc))
              case first =>
                have H := HC13.out
                clear HC13
                by_cases c22 : ((rd_T25 l1 0).f0) = 0
                · rw [if_pos c22] at H
                  have c22b0 : (((rd_T25 l1 0).f0) == 0) = true := beq_iff_eq.mpr c22
                  have c22b1 : (((rd_T25 l1 0).f0) != 0) = false := bne_eq_false_iff_eq.mpr c22
                  clear c22
                  (first | rw [c22b0] | (simp only [i64_w, i32_w]; rw [c22b0]) | skip)
                  have H' := Aside0.mk H
                  clear H
                  have hnb23 := NB117_113.out
                  have hnc23 := NB113_117.out
                  have hcz24_0 : w15.cell? ⟨gb117, 0, none⟩ = some (.int .i64 0) := (blk_cell BK117.out 0).trans rfl
                  have hcz24_1 : w15.cell? ⟨gb117, 1, none⟩ = some (.int .i64 0) := (blk_cell BK117.out 1).trans rfl
                  have hcz24_2 : w15.cell? ⟨gb117, 2, none⟩ = some (.string (⟨#[]⟩ : ByteArray)) := (blk_cell BK117.out 2).trans rfl
                  have hcz24_3 : w15.cell? ⟨gb117, 3, none⟩ = some (.int .i64 0) := (blk_cell BK117.out 3).trans rfl
                  have hcz24_4 : w15.cell? ⟨gb117, 4, none⟩ = some (.int .i64 0) := (blk_cell BK117.out 4).trans rfl
                  have hcz24_5 : w15.cell? ⟨gb117, 5, none⟩ = some (.string (⟨#[]⟩ : ByteArray)) := (blk_cell BK117.out 5).trans rfl
                  have hfz24_0 := blk_frozen BK117.out 0
                  have hfz24_1 := blk_frozen BK117.out 1
                  have hfz24_2 := blk_frozen BK117.out 2
                  have hfz24_3 := blk_frozen BK117.out 3
                  have hfz24_4 := blk_frozen BK117.out 4
                  have hfz24_5 := blk_frozen BK117.out 5
                  go_wp2
                  go_meet
                  case rel => exact ⟨_, (true), (by first | rfl | (simp; done) | (simp [*]; done) | (simp; exact isEmpty_bne _) | (simp [*]; exact isEmpty_bne _)), H', ⟨by have := HJ3.out; first | omega | exact Nat.le_refl _⟩, ⟨by (with_reducible repeat (first | refine blk_drewN ?_ _ | refine blk_drew ?_ | refine blk_alloc ?_ _)); refine blk_far ?_ NB113_117.out _; (with_reducible repeat (first | refine blk_drewN ?_ _ | refine blk_drew ?_ | refine blk_alloc ?_ _)); refine blk_far ?_ NB113_117.out _; (with_reducible repeat (first | refine blk_drewN ?_ _ | refine blk_drew ?_ | refine blk_alloc ?_ _)); refine blk_far ?_ NB113_117.out _; (with_reducible repeat (first | refine blk_drewN ?_ _ | refine blk_drew ?_ | refine blk_alloc ?_ _)); refine blk_far ?_ NB113_117.out _; (with_reducible repeat (first | refine blk_drewN ?_ _ | refine blk_drew ?_ | refine blk_alloc ?_ _)); refine blk_far ?_ NB113_117.out _; (with_reducible repeat (first | refine blk_drewN ?_ _ | refine blk_drew ?_ | refine blk_alloc ?_ _)); refine blk_far ?_ NB113_117.out _; (with_reducible repeat (first | refine blk_drewN ?_ _ | refine blk_drew ?_ | refine blk_alloc ?_ _)); exact BK113.out⟩, ⟨by (with_reducible repeat (first | refine blk_drewN ?_ _ | refine blk_drew ?_ | refine blk_alloc ?_ _)); refine blk_put (cs := #[.int .i64 ((rd_T25 l1 0).f0), .int .i64 ((rd_T25 l1 0).f1), .string ((rd_T25 l1 0).f2), .int .i64 ((rd_T25 l1 (ji10)).f0), .int .i64 ((rd_T25 l1 (ji10)).f1), .string (⟨#[]⟩ : ByteArray)]) ?_ 5 _ rfl; (with_reducible repeat (first | refine blk_drewN ?_ _ | refine blk_drew ?_ | refine blk_alloc ?_ _)); refine blk_put (cs := #[.int .i64 ((rd_T25 l1 0).f0), .int .i64 ((rd_T25 l1 0).f1), .string ((rd_T25 l1 0).f2), .int .i64 ((rd_T25 l1 (ji10)).f0), .int .i64 0, .string (⟨#[]⟩ : ByteArray)]) ?_ 4 _ rfl; (with_reducible repeat (first | refine blk_drewN ?_ _ | refine blk_drew ?_ | refine blk_alloc ?_ _)); refine blk_put (cs := #[.int .i64 ((rd_T25 l1 0).f0), .int .i64 ((rd_T25 l1 0).f1), .string ((rd_T25 l1 0).f2), .int .i64 0, .int .i64 0, .string (⟨#[]⟩ : ByteArray)]) ?_ 3 _ rfl; (with_reducible repeat (first | refine blk_drewN ?_ _ | refine blk_drew ?_ | refine blk_alloc ?_ _)); refine blk_put (cs := #[.int .i64 ((rd_T25 l1 0).f0), .int .i64 ((rd_T25 l1 0).f1), .string (⟨#[]⟩ : ByteArray), .int .i64 0, .int .i64 0, .string (⟨#[]⟩ : ByteArray)]) ?_ 2 _ rfl; (with_reducible repeat (first | refine blk_drewN ?_ _ | refine blk_drew ?_ | refine blk_alloc ?_ _)); refine blk_put (cs := #[.int .i64 ((rd_T25 l1 0).f0), .int .i64 0, .string (⟨#[]⟩ : ByteArray), .int .i64 0, .int .i64 0, .string (⟨#[]⟩ : ByteArray)]) ?_ 1 _ rfl; (with_reducible repeat (first | refine blk_drewN ?_ _ | refine blk_drew ?_ | refine blk_alloc ?_ _)); refine blk_put (cs := #[.int .i64 0, .int .i64 0, .string (⟨#[]⟩ : ByteArray), .int .i64 0, .int .i64 0, .string (⟨#[]⟩ : ByteArray)]) ?_ 0 _ rfl; (with_reducible repeat (first | refine blk_drewN ?_ _ | refine blk_drew ?_ | refine blk_alloc ?_ _)); exact BK117.out⟩, ⟨by repeat (first | (with_reducible first | exact HB.out | apply below_alloc | apply pw_below_drewN | apply below_drew1 | refine below_set ?_ GE113.out | refine below_set ?_ GE117.out) | exact HB.out)⟩⟩
                · rw [if_neg c22] at H
                  have c22b0 : (((rd_T25 l1 0).f0) == 0) = false := beq_eq_false_iff_ne.mpr c22
                  have c22b1 : (((rd_T25 l1 0).f0) != 0) = true := bne_iff_ne.mpr c22
                  (first | rw [c22b0] | (simp only [i64_w, i32_w]; rw [c22b0]) | skip)
                  have H' := Aside0.mk H
                  clear H
                  have hnb25 := NB117_113.out
                  have hnc25 := NB113_117.out
                  have hcz26_0 : w15.cell? ⟨gb117, 0, none⟩ = some (.int .i64 0) := (blk_cell BK117.out 0).trans rfl
                  have hcz26_1 : w15.cell? ⟨gb117, 1, none⟩ = some (.int .i64 0) := (blk_cell BK117.out 1).trans rfl
                  have hcz26_2 : w15.cell? ⟨gb117, 2, none⟩ = some (.string (⟨#[]⟩ : ByteArray)) := (blk_cell BK117.out 2).trans rfl
                  have hcz26_3 : w15.cell? ⟨gb117, 3, none⟩ = some (.int .i64 0) := (blk_cell BK117.out 3).trans rfl
                  have hcz26_4 : w15.cell? ⟨gb117, 4, none⟩ = some (.int .i64 0) := (blk_cell BK117.out 4).trans rfl
                  have hcz26_5 : w15.cell? ⟨gb117, 5, none⟩ = some (.string (⟨#[]⟩ : ByteArray)) := (blk_cell BK117.out 5).trans rfl
                  have hfz26_0 := blk_frozen BK117.out 0
                  have hfz26_1 := blk_frozen BK117.out 1
                  have hfz26_2 := blk_frozen BK117.out 2
                  have hfz26_3 := blk_frozen BK117.out 3
                  have hfz26_4 := blk_frozen BK117.out 4
                  have hfz26_5 := blk_frozen BK117.out 5
                  go_wp2
                  go_meet
                  case rel => exact ⟨_, ((((rd_T25 l1 (ji10)).f0) == 0)), (by first | rfl | (simp; done) | (simp only [← hji10] <;> (first | rfl | simp)) | (simp [*]; done) | (simp; exact isEmpty_bne _) | (simp [*]; exact isEmpty_bne _)), H', ⟨by have := HJ3.out; first | omega | exact Nat.le_refl _⟩, ⟨by (with_reducible repeat (first | refine blk_drewN ?_ _ | refine blk_drew ?_ | refine blk_alloc ?_ _)); refine blk_far ?_ NB113_117.out _; (with_reducible repeat (first | refine blk_drewN ?_ _ | refine blk_drew ?_ | refine blk_alloc ?_ _)); refine blk_far ?_ NB113_117.out _; (with_reducible repeat (first | refine blk_drewN ?_ _ | refine blk_drew ?_ | refine blk_alloc ?_ _)); refine blk_far ?_ NB113_117.out _; (with_reducible repeat (first | refine blk_drewN ?_ _ | refine blk_drew ?_ | refine blk_alloc ?_ _)); refine blk_far ?_ NB113_117.out _; (with_reducible repeat (first | refine blk_drewN ?_ _ | refine blk_drew ?_ | refine blk_alloc ?_ _)); refine blk_far ?_ NB113_117.out _; (with_reducible repeat (first | refine blk_drewN ?_ _ | refine blk_drew ?_ | refine blk_alloc ?_ _)); refine blk_far ?_ NB113_117.out _; (with_reducible repeat (first | refine blk_drewN ?_ _ | refine blk_drew ?_ | refine blk_alloc ?_ _)); exact BK113.out⟩, ⟨by (with_reducible repeat (first | refine blk_drewN ?_ _ | refine blk_drew ?_ | refine blk_alloc ?_ _)); refine blk_put (cs := #[.int .i64 ((rd_T25 l1 0).f0), .int .i64 ((rd_T25 l1 0).f1), .string ((rd_T25 l1 0).f2), .int .i64 ((rd_T25 l1 (ji10)).f0), .int .i64 ((rd_T25 l1 (ji10)).f1), .string (⟨#[]⟩ : ByteArray)]) ?_ 5 _ rfl; (with_reducible repeat (first | refine blk_drewN ?_ _ | refine blk_drew ?_ | refine blk_alloc ?_ _)); refine blk_put (cs := #[.int .i64 ((rd_T25 l1 0).f0), .int .i64 ((rd_T25 l1 0).f1), .string ((rd_T25 l1 0).f2), .int .i64 ((rd_T25 l1 (ji10)).f0), .int .i64 0, .string (⟨#[]⟩ : ByteArray)]) ?_ 4 _ rfl; (with_reducible repeat (first | refine blk_drewN ?_ _ | refine blk_drew ?_ | refine blk_alloc ?_ _)); refine blk_put (cs := #[.int .i64 ((rd_T25 l1 0).f0), .int .i64 ((rd_T25 l1 0).f1), .string ((rd_T25 l1 0).f2), .int .i64 0, .int .i64 0, .string (⟨#[]⟩ : ByteArray)]) ?_ 3 _ rfl; (with_reducible repeat (first | refine blk_drewN ?_ _ | refine blk_drew ?_ | refine blk_alloc ?_ _)); refine blk_put (cs := #[.int .i64 ((rd_T25 l1 0).f0), .int .i64 ((rd_T25 l1 0).f1), .string (⟨#[]⟩ : ByteArray), .int .i64 0, .int .i64 0, .string (⟨#[]⟩ : ByteArray)]) ?_ 2 _ rfl; (with_reducible repeat (first | refine blk_drewN ?_ _ | refine blk_drew ?_ | refine blk_alloc ?_ _)); refine blk_put (cs := #[.int .i64 ((rd_T25 l1 0).f0), .int .i64 0, .string (⟨#[]⟩ : ByteArray), .int .i64 0, .int .i64 0, .string (⟨#[]⟩ : ByteArray)]) ?_ 1 _ rfl; (with_reducible repeat (first | refine blk_drewN ?_ _ | refine blk_drew ?_ | refine blk_alloc ?_ _)); refine blk_put (cs := #[.int .i64 0, .int .i64 0, .string (⟨#[]⟩ : ByteArray), .int .i64 0, .int .i64 0, .string (⟨#[]⟩ : ByteArray)]) ?_ 0 _ rfl; (with_reducible repeat (first | refine blk_drewN ?_ _ | refine blk_drew ?_ | refine blk_alloc ?_ _)); exact BK117.out⟩, ⟨by repeat (first | (with_reducible first | exact HB.out | apply below_alloc | apply pw_below_drewN | apply below_drew1 | refine below_set ?_ GE113.out | refine below_set ?_ GE117.out) | exact HB.out)⟩⟩
              case rest =>
                clear HC13
                try clear c1
                try clear p1
                try clear q1
                try clear hx1
                try clear qi1
                try clear c2
                try clear p2
                try clear c6
                try clear c6b0
                try clear c6b1
                try clear p6
                try clear c7
                try clear c9
                try clear c9b0
                try clear c9b1
                try clear c11
                try clear c11b0
                try clear p11
                try clear q11
                try clear hx11
                try clear qi11
                try clear c12
                try clear c12b0
                try clear c19
                try clear c22
                try clear c22b0
                try clear c22b1
                try clear c23
                try clear c25
                try clear hcz24_0
                try clear hcz24_1
                try clear hcz24_2
                try clear hcz24_3
                try clear hcz24_4
                try clear hcz24_5
                try clear hcz26_0
                try clear hcz26_1
                try clear hcz26_2
                try clear hcz26_3
                try clear hcz26_4
                try clear hcz26_5
                try clear hcz8_0
                try clear hcz8_1
                try clear hcz8_2
                try clear hfz24_0
                try clear hfz24_1
                try clear hfz24_2
                try clear hfz24_3
                try clear hfz24_4
                try clear hfz24_5
                try clear hfz26_0
                try clear hfz26_1
                try clear hfz26_2
                try clear hfz26_3
                try clear hfz26_4
                try clear hfz26_5
                try clear hfz8_0
                try clear hfz8_1
                try clear hfz8_2
                try clear hx115_0
                try clear hx115_1
                try clear hx115_2
                try clear hx116_0
                try clear hx116_1
                try clear hx116_2
                try clear p115
                try clear p116
                try clear p2
                try clear q115
                try clear q116
                obtain ⟨kq, x41_12, rfl, HA, HJ12, BK113, BK117, HB⟩ := hcut
                cases kq with
                | zero => exact absurd HA.out (by simp [arith_Do.j1])
                | succ kj12 =>
                  have H := HA.out
                  clear HA
                  simp only [arith_Do.j1] at H
                  by_cases c27 : x41_12 = true
                  · subst c27
                    have H1 : (some (0, 0, (⟨#[]⟩ : ByteArray), 0)) = some (r1, r2, r3, r4) := by rw [if_pos rfl] at H; exact H
                    clear H
                    have H := H1
                    clear H1
                    simp only [Option.some.injEq, Prod.mk.injEq] at H
                    obtain ⟨rfl, rfl, rfl, rfl⟩ := H
                    have hnb28 := NB113_117.out
                    have hnc28 := NB117_113.out
                    have hcz29_0 : wc.cell? ⟨gb113, 0, none⟩ = some (.int .i64 0) := (blk_cell BK113.out 0).trans rfl
                    have hcz29_1 : wc.cell? ⟨gb113, 1, none⟩ = some (.int .i64 0) := (blk_cell BK113.out 1).trans rfl
                    have hcz29_2 : wc.cell? ⟨gb113, 2, none⟩ = some (.string (⟨#[]⟩ : ByteArray)) := (blk_cell BK113.out 2).trans rfl
                    have hfz29_0 := blk_frozen BK113.out 0
                    have hfz29_1 := blk_frozen BK113.out 1
                    have hfz29_2 := blk_frozen BK113.out 2
                    go_wp2
                    refine bodyPost_ret (results_ct rfl _ _ gb113 25 #[.int .i64 0, .int .i64 0, .string (⟨#[]⟩ : ByteArray)] (0, 0) _ rfl (by (with_reducible repeat (first | refine blk_drewN ?_ _ | refine blk_drew ?_ | refine blk_alloc ?_ _)); refine blk_put (cs := #[.int .i64 0, .int .i64 0, .string (⟨#[]⟩ : ByteArray)]) ?_ 2 _ rfl; (with_reducible repeat (first | refine blk_drewN ?_ _ | refine blk_drew ?_ | refine blk_alloc ?_ _)); refine blk_put (cs := #[.int .i64 0, .int .i64 0, .string (⟨#[]⟩ : ByteArray)]) ?_ 1 _ rfl; (with_reducible repeat (first | refine blk_drewN ?_ _ | refine blk_drew ?_ | refine blk_alloc ?_ _)); refine blk_put (cs := #[.int .i64 0, .int .i64 0, .string (⟨#[]⟩ : ByteArray)]) ?_ 0 _ rfl; (with_reducible repeat (first | refine blk_drewN ?_ _ | refine blk_drew ?_ | refine blk_alloc ?_ _)); exact BK113.out) Try.underlying25 rfl (by kernel_rfl)) rfl ?_
                    exact ⟨by first | rfl | (simp [errW_none, errW_some] <;> rfl) | (simp only [← hji10]; first | rfl | (simp [errW_none, errW_some] <;> rfl)) | (simp [*, errW_none, errW_some] <;> rfl), by repeat (first | (with_reducible first | exact HB.out | apply below_alloc | apply pw_below_drewN | apply below_drew1 | refine below_set ?_ GE113.out | refine below_set ?_ GE117.out) | exact HB.out)⟩
                  · replace c27 := Bool.eq_false_iff.mpr c27
                    subst c27
                    have H1 : ((arith_answer.f kj12 a0 ((rd_T25 l1 0).f0)).bind fun t118 => (if ((rd_T25 l1 0).f0) = ((rd_T25 l1 (ji10)).f0) then (arith_Do.j2 kj12 a0 t118 (t118 == 0) ((rd_T25 l1 0).f0) ((rd_T25 l1 0).f1) ((rd_T25 l1 0).f2) ((rd_T25 l1 (ji10)).f0) ((rd_T25 l1 (ji10)).f1) ((rd_T25 l1 (ji10)).f2)) else (arith_Do.j2 kj12 a0 t118 true ((rd_T25 l1 0).f0) ((rd_T25 l1 0).f1) ((rd_T25 l1 0).f2) ((rd_T25 l1 (ji10)).f0) ((rd_T25 l1 (ji10)).f1) ((rd_T25 l1 (ji10)).f2)))) = some (r1, r2, r3, r4) := by rw [if_neg (show ¬ (false = true) by decide)] at H; exact H
                    clear H
                    have H := H1
                    clear H1
                    replace H := Option.bind_eq_some_iff.mp H
                    obtain ⟨t118, A300, H⟩ := H
                    replace H : (if ((rd_T25 l1 0).f0) = ((rd_T25 l1 (ji10)).f0) then (arith_Do.j2 kj12 a0 t118 (t118 == 0) ((rd_T25 l1 0).f0) ((rd_T25 l1 0).f1) ((rd_T25 l1 0).f2) ((rd_T25 l1 (ji10)).f0) ((rd_T25 l1 (ji10)).f1) ((rd_T25 l1 (ji10)).f2)) else (arith_Do.j2 kj12 a0 t118 true ((rd_T25 l1 0).f0) ((rd_T25 l1 0).f1) ((rd_T25 l1 0).f2) ((rd_T25 l1 (ji10)).f0) ((rd_T25 l1 (ji10)).f1) ((rd_T25 l1 (ji10)).f2))) = some (r1, r2, r3, r4) := H
                    have A30 := Aside0.mk A300
                    clear A300
                    have HC31 := Aside0.mk H
                    clear H
                    have hnb32 := NB117_113.out
                    have hnc32 := NB113_117.out
                    have hcz33_0 : wc.cell? ⟨gb117, 0, none⟩ = some (.int .i64 ((rd_T25 l1 0).f0)) := (blk_cell BK117.out 0).trans rfl
                    have hcz33_1 : wc.cell? ⟨gb117, 1, none⟩ = some (.int .i64 ((rd_T25 l1 0).f1)) := (blk_cell BK117.out 1).trans rfl
                    have hcz33_2 : wc.cell? ⟨gb117, 2, none⟩ = some (.string ((rd_T25 l1 0).f2)) := (blk_cell BK117.out 2).trans rfl
                    have hcz33_3 : wc.cell? ⟨gb117, 3, none⟩ = some (.int .i64 ((rd_T25 l1 (ji10)).f0)) := (blk_cell BK117.out 3).trans rfl
                    have hcz33_4 : wc.cell? ⟨gb117, 4, none⟩ = some (.int .i64 ((rd_T25 l1 (ji10)).f1)) := (blk_cell BK117.out 4).trans rfl
                    have hcz33_5 : wc.cell? ⟨gb117, 5, none⟩ = some (.string ((rd_T25 l1 (ji10)).f2)) := (blk_cell BK117.out 5).trans rfl
                    have hfz33_0 := blk_frozen BK117.out 0
                    have hfz33_1 := blk_frozen BK117.out 1
                    have hfz33_2 := blk_frozen BK117.out 2
                    have hfz33_3 := blk_frozen BK117.out 3
                    have hfz33_4 := blk_frozen BK117.out 4
                    have hfz33_5 := blk_frozen BK117.out 5
                    go_upto_region 8 with (first | ((with_reducible refine gate_callee (f := 20) rfl ?_); refine goesL_ (some 47) rfl rfl Try.func20 (by kernel_rfl) rfl #[.int .i64 a0, .int .i64 ((rd_T25 l1 0).f0)] rfl (by (try simp only [List.map_toArray, List.map_cons, List.map_nil]); first | done | rfl | (simp only [List.length_drop, List.length_take]; rfl)) ?_; (with_reducible refine (arith_answer.calls kj12 a0 ((rd_T25 l1 0).f0) t118 _ A30.out).mono ?_); rintro e w' ⟨rfl, ⟨nd, rfl⟩⟩; refine ⟨_, rfl, ?_⟩))
                    (try simp only [Act.put, List.setIfInBounds_toArray, List.set_cons_zero, List.set_cons_succ])
                    go_cut [58] (fun v58 wc => ∃ (kq : Nat) (x58_30 : Bool), v58 = .bool x58_30 ∧ Aside0 (arith_Do.j2 kq a0 t118 x58_30 ((rd_T25 l1 0).f0) ((rd_T25 l1 0).f1) ((rd_T25 l1 0).f2) ((rd_T25 l1 (ji10)).f0) ((rd_T25 l1 (ji10)).f1) ((rd_T25 l1 (ji10)).f2) = some (r1, r2, r3, r4)) ∧ Aside0 (kq ≤ kj12) ∧ Aside0 (wc.heap[gb113]? = some (.cells #[.int .i64 0, .int .i64 0, .string (⟨#[]⟩ : ByteArray)] 25 (0, 0))) ∧ Aside0 (wc.heap[gb117]? = some (.cells #[.int .i64 ((rd_T25 l1 0).f0), .int .i64 ((rd_T25 l1 0).f1), .string ((rd_T25 l1 0).f2), .int .i64 ((rd_T25 l1 (ji10)).f0), .int .i64 ((rd_T25 l1 (ji10)).f1), .string ((rd_T25 l1 (ji10)).f2)] 45 (0, 0))) ∧ Aside0 (Below w.heap.size w wc))
                    case first =>
                      have H := HC31.out
                      clear HC31
                      by_cases c34 : ((rd_T25 l1 0).f0) = ((rd_T25 l1 (ji10)).f0)
                      · rw [if_pos c34] at H
                        have c34b0 : (((rd_T25 l1 0).f0) == ((rd_T25 l1 (ji10)).f0)) = true := beq_iff_eq.mpr c34
                        have c34b1 : (((rd_T25 l1 0).f0) != ((rd_T25 l1 (ji10)).f0)) = false := bne_eq_false_iff_eq.mpr c34
                        clear c34
                        (first | rw [c34b0] | (simp only [i64_w, i32_w]; rw [c34b0]) | skip)
                        have H' := Aside0.mk H
                        clear H
                        have hnb35 := NB117_113.out
                        have hnc35 := NB113_117.out
                        have hcz36_0 : wc.cell? ⟨gb117, 0, none⟩ = some (.int .i64 ((rd_T25 l1 0).f0)) := (blk_cell BK117.out 0).trans rfl
                        have hcz36_1 : wc.cell? ⟨gb117, 1, none⟩ = some (.int .i64 ((rd_T25 l1 0).f1)) := (blk_cell BK117.out 1).trans rfl
                        have hcz36_2 : wc.cell? ⟨gb117, 2, none⟩ = some (.string ((rd_T25 l1 0).f2)) := (blk_cell BK117.out 2).trans rfl
                        have hcz36_3 : wc.cell? ⟨gb117, 3, none⟩ = some (.int .i64 ((rd_T25 l1 (ji10)).f0)) := (blk_cell BK117.out 3).trans rfl
                        have hcz36_4 : wc.cell? ⟨gb117, 4, none⟩ = some (.int .i64 ((rd_T25 l1 (ji10)).f1)) := (blk_cell BK117.out 4).trans rfl
                        have hcz36_5 : wc.cell? ⟨gb117, 5, none⟩ = some (.string ((rd_T25 l1 (ji10)).f2)) := (blk_cell BK117.out 5).trans rfl
                        have hfz36_0 := blk_frozen BK117.out 0
                        have hfz36_1 := blk_frozen BK117.out 1
                        have hfz36_2 := blk_frozen BK117.out 2
                        have hfz36_3 := blk_frozen BK117.out 3
                        have hfz36_4 := blk_frozen BK117.out 4
                        have hfz36_5 := blk_frozen BK117.out 5
                        go_wp2
                        go_meet
                        case rel => exact ⟨_, ((t118 == 0)), (by first | rfl | (simp; done) | (simp [*]; done) | (simp; exact isEmpty_bne _) | (simp [*]; exact isEmpty_bne _)), H', ⟨by have := HJ3.out; have := HJ12.out; first | omega | exact Nat.le_refl _⟩, ⟨by (with_reducible repeat (first | refine blk_drewN ?_ _ | refine blk_drew ?_ | refine blk_alloc ?_ _)); exact BK113.out⟩, ⟨by (with_reducible repeat (first | refine blk_drewN ?_ _ | refine blk_drew ?_ | refine blk_alloc ?_ _)); exact BK117.out⟩, ⟨by repeat (first | (with_reducible first | exact HB.out | apply below_alloc | apply pw_below_drewN | apply below_drew1 | refine below_set ?_ GE113.out | refine below_set ?_ GE117.out) | exact HB.out)⟩⟩
                      · rw [if_neg c34] at H
                        have c34b0 : (((rd_T25 l1 0).f0) == ((rd_T25 l1 (ji10)).f0)) = false := beq_eq_false_iff_ne.mpr c34
                        have c34b1 : (((rd_T25 l1 0).f0) != ((rd_T25 l1 (ji10)).f0)) = true := bne_iff_ne.mpr c34
                        (first | rw [c34b0] | (simp only [i64_w, i32_w]; rw [c34b0]) | skip)
                        have H' := Aside0.mk H
                        clear H
                        have hnb37 := NB117_113.out
                        have hnc37 := NB113_117.out
                        have hcz38_0 : wc.cell? ⟨gb117, 0, none⟩ = some (.int .i64 ((rd_T25 l1 0).f0)) := (blk_cell BK117.out 0).trans rfl
                        have hcz38_1 : wc.cell? ⟨gb117, 1, none⟩ = some (.int .i64 ((rd_T25 l1 0).f1)) := (blk_cell BK117.out 1).trans rfl
                        have hcz38_2 : wc.cell? ⟨gb117, 2, none⟩ = some (.string ((rd_T25 l1 0).f2)) := (blk_cell BK117.out 2).trans rfl
                        have hcz38_3 : wc.cell? ⟨gb117, 3, none⟩ = some (.int .i64 ((rd_T25 l1 (ji10)).f0)) := (blk_cell BK117.out 3).trans rfl
                        have hcz38_4 : wc.cell? ⟨gb117, 4, none⟩ = some (.int .i64 ((rd_T25 l1 (ji10)).f1)) := (blk_cell BK117.out 4).trans rfl
                        have hcz38_5 : wc.cell? ⟨gb117, 5, none⟩ = some (.string ((rd_T25 l1 (ji10)).f2)) := (blk_cell BK117.out 5).trans rfl
                        have hfz38_0 := blk_frozen BK117.out 0
                        have hfz38_1 := blk_frozen BK117.out 1
                        have hfz38_2 := blk_frozen BK117.out 2
                        have hfz38_3 := blk_frozen BK117.out 3
                        have hfz38_4 := blk_frozen BK117.out 4
                        have hfz38_5 := blk_frozen BK117.out 5
                        go_wp2
                        go_meet
                        case rel => exact ⟨_, (true), (by first | rfl | (simp; done) | (simp [*]; done) | (simp; exact isEmpty_bne _) | (simp [*]; exact isEmpty_bne _)), H', ⟨by have := HJ3.out; have := HJ12.out; first | omega | exact Nat.le_refl _⟩, ⟨by (with_reducible repeat (first | refine blk_drewN ?_ _ | refine blk_drew ?_ | refine blk_alloc ?_ _)); exact BK113.out⟩, ⟨by (with_reducible repeat (first | refine blk_drewN ?_ _ | refine blk_drew ?_ | refine blk_alloc ?_ _)); exact BK117.out⟩, ⟨by repeat (first | (with_reducible first | exact HB.out | apply below_alloc | apply pw_below_drewN | apply below_drew1 | refine below_set ?_ GE113.out | refine below_set ?_ GE117.out) | exact HB.out)⟩⟩
                    case rest =>
                      clear HC31
                      try clear c1
                      try clear p1
                      try clear q1
                      try clear hx1
                      try clear qi1
                      try clear c2
                      try clear p2
                      try clear c3
                      try clear c6
                      try clear c6b0
                      try clear c6b1
                      try clear p6
                      try clear c7
                      try clear c9
                      try clear c9b0
                      try clear c9b1
                      try clear c11
                      try clear c11b0
                      try clear p11
                      try clear q11
                      try clear hx11
                      try clear qi11
                      try clear c12
                      try clear c12b0
                      try clear c19
                      try clear c20
                      try clear c22
                      try clear c22b0
                      try clear c22b1
                      try clear c23
                      try clear c25
                      try clear c27
                      try clear c28
                      try clear c32
                      try clear c34
                      try clear c34b0
                      try clear c34b1
                      try clear c35
                      try clear c37
                      try clear hcz24_0
                      try clear hcz24_1
                      try clear hcz24_2
                      try clear hcz24_3
                      try clear hcz24_4
                      try clear hcz24_5
                      try clear hcz26_0
                      try clear hcz26_1
                      try clear hcz26_2
                      try clear hcz26_3
                      try clear hcz26_4
                      try clear hcz26_5
                      try clear hcz29_0
                      try clear hcz29_1
                      try clear hcz29_2
                      try clear hcz33_0
                      try clear hcz33_1
                      try clear hcz33_2
                      try clear hcz33_3
                      try clear hcz33_4
                      try clear hcz33_5
                      try clear hcz36_0
                      try clear hcz36_1
                      try clear hcz36_2
                      try clear hcz36_3
                      try clear hcz36_4
                      try clear hcz36_5
                      try clear hcz38_0
                      try clear hcz38_1
                      try clear hcz38_2
                      try clear hcz38_3
                      try clear hcz38_4
                      try clear hcz38_5
                      try clear hcz8_0
                      try clear hcz8_1
                      try clear hcz8_2
                      try clear hfz24_0
                      try clear hfz24_1
                      try clear hfz24_2
                      try clear hfz24_3
                      try clear hfz24_4
                      try clear hfz24_5
                      try clear hfz26_0
                      try clear hfz26_1
                      try clear hfz26_2
                      try clear hfz26_3
                      try clear hfz26_4
                      try clear hfz26_5
                      try clear hfz29_0
                      try clear hfz29_1
                      try clear hfz29_2
                      try clear hfz33_0
                      try clear hfz33_1
                      try clear hfz33_2
                      try clear hfz33_3
                      try clear hfz33_4
                      try clear hfz33_5
                      try clear hfz36_0
                      try clear hfz36_1
                      try clear hfz36_2
                      try clear hfz36_3
                      try clear hfz36_4
                      try clear hfz36_5
                      try clear hfz38_0
                      try clear hfz38_1
                      try clear hfz38_2
                      try clear hfz38_3
                      try clear hfz38_4
                      try clear hfz38_5
                      try clear hfz8_0
                      try clear hfz8_1
                      try clear hfz8_2
                      try clear hx115_0
                      try clear hx115_1
                      try clear hx115_2
                      try clear hx116_0
                      try clear hx116_1
                      try clear hx116_2
                      try clear p1
                      try clear p11
                      try clear p115
                      try clear p116
                      try clear p2
                      try clear p6
                      try clear q1
                      try clear q11
                      try clear q115
                      try clear q116
                      obtain ⟨kq, x58_30, rfl, HA, HJ30, BK113, BK117, HB⟩ := hcut
                      cases kq with
                      | zero => exact absurd HA.out (by simp [arith_Do.j2])
                      | succ kj30 =>
                        have H := HA.out
                        clear HA
                        simp only [arith_Do.j2] at H
                        by_cases c39 : x58_30 = true
                        · subst c39
                          have H1 : (some (0, 0, (⟨#[]⟩ : ByteArray), 30)) = some (r1, r2, r3, r4) := by rw [if_pos rfl] at H; exact H
                          clear H
                          have H := H1
                          clear H1
                          simp only [Option.some.injEq, Prod.mk.injEq] at H
                          obtain ⟨rfl, rfl, rfl, rfl⟩ := H
                          have hnb40 := NB113_117.out
                          have hnc40 := NB117_113.out
                          have hcz41_0 : wc.cell? ⟨gb113, 0, none⟩ = some (.int .i64 0) := (blk_cell BK113.out 0).trans rfl
                          have hcz41_1 : wc.cell? ⟨gb113, 1, none⟩ = some (.int .i64 0) := (blk_cell BK113.out 1).trans rfl
                          have hcz41_2 : wc.cell? ⟨gb113, 2, none⟩ = some (.string (⟨#[]⟩ : ByteArray)) := (blk_cell BK113.out 2).trans rfl
                          have hfz41_0 := blk_frozen BK113.out 0
                          have hfz41_1 := blk_frozen BK113.out 1
                          have hfz41_2 := blk_frozen BK113.out 2
                          go_wp2
                          refine bodyPost_ret (results_ct rfl _ _ gb113 25 #[.int .i64 0, .int .i64 0, .string (⟨#[]⟩ : ByteArray)] (0, 0) _ rfl (by (with_reducible repeat (first | refine blk_drewN ?_ _ | refine blk_drew ?_ | refine blk_alloc ?_ _)); refine blk_put (cs := #[.int .i64 0, .int .i64 0, .string (⟨#[]⟩ : ByteArray)]) ?_ 2 _ rfl; (with_reducible repeat (first | refine blk_drewN ?_ _ | refine blk_drew ?_ | refine blk_alloc ?_ _)); refine blk_put (cs := #[.int .i64 0, .int .i64 0, .string (⟨#[]⟩ : ByteArray)]) ?_ 1 _ rfl; (with_reducible repeat (first | refine blk_drewN ?_ _ | refine blk_drew ?_ | refine blk_alloc ?_ _)); refine blk_put (cs := #[.int .i64 0, .int .i64 0, .string (⟨#[]⟩ : ByteArray)]) ?_ 0 _ rfl; (with_reducible repeat (first | refine blk_drewN ?_ _ | refine blk_drew ?_ | refine blk_alloc ?_ _)); exact BK113.out) Try.underlying25 rfl (by kernel_rfl)) rfl ?_
                          exact ⟨by first | rfl | (simp [errW_none, errW_some] <;> rfl) | (simp only [← hji10]; first | rfl | (simp [errW_none, errW_some] <;> rfl)) | (simp [*, errW_none, errW_some] <;> rfl), by repeat (first | (with_reducible first | exact HB.out | apply below_alloc | apply pw_below_drewN | apply below_drew1 | refine below_set ?_ GE113.out | refine below_set ?_ GE117.out) | exact HB.out)⟩
                        · replace c39 := Bool.eq_false_iff.mpr c39
                          subst c39
                          have H1 : (if a0 = 12 then (if ((rd_T25 l1 0).f2).size + ((rd_T25 l1 (ji10)).f2).size ≤ 9223372036854775807 then (if ((((rd_T25 l1 0).f2) ++ ((rd_T25 l1 (ji10)).f2)).size : Int) > 200 then (if 1 = 0 then (some (t118, 0, ((rd_T25 l1 0).f2) ++ ((rd_T25 l1 (ji10)).f2), 0)) else (some (0, 0, (⟨#[]⟩ : ByteArray), 1))) else (if 0 = 0 then (some (t118, 0, ((rd_T25 l1 0).f2) ++ ((rd_T25 l1 (ji10)).f2), 0)) else (some (0, 0, (⟨#[]⟩ : ByteArray), 0)))) else (none)) else (if a0 = 14 then (arith_Do.j3 kj30 a0 t118 0 true ((rd_T25 l1 0).f0) ((rd_T25 l1 0).f1) ((rd_T25 l1 0).f2) ((rd_T25 l1 (ji10)).f0) ((rd_T25 l1 (ji10)).f1) ((rd_T25 l1 (ji10)).f2) t118 0 (⟨#[]⟩ : ByteArray)) else (arith_Do.j3 kj30 a0 t118 0 (a0 == 15) ((rd_T25 l1 0).f0) ((rd_T25 l1 0).f1) ((rd_T25 l1 0).f2) ((rd_T25 l1 (ji10)).f0) ((rd_T25 l1 (ji10)).f1) ((rd_T25 l1 (ji10)).f2) t118 0 (⟨#[]⟩ : ByteArray)))) = some (r1, r2, r3, r4) := by rw [if_neg (show ¬ (false = true) by decide)] at H; exact H
                          clear H
                          have H := H1
                          clear H1
                          by_cases c42 : a0 = 12
                          · rw [if_pos c42] at H
                            have c42b0 : (a0 == 12) = true := beq_iff_eq.mpr c42
                            have c42b1 : (a0 != 12) = false := bne_eq_false_iff_eq.mpr c42
                            clear c42
                            by_cases c43 : ((rd_T25 l1 0).f2).size + ((rd_T25 l1 (ji10)).f2).size ≤ 9223372036854775807
                            · rw [if_pos c43] at H
                              have c43b0 := eq_true c43
                              have c43b1 : decide (((rd_T25 l1 0).f2).size + ((rd_T25 l1 (ji10)).f2).size ≤ 9223372036854775807) = true := decide_eq_true c43
                              try have c43b2 : (9223372036854775807 < ((rd_T25 l1 0).f2).size + ((rd_T25 l1 (ji10)).f2).size) = False := eq_false (Nat.not_lt.2 c43)
                              by_cases c44 : ((((rd_T25 l1 0).f2) ++ ((rd_T25 l1 (ji10)).f2)).size : Int) > 200
                              · rw [if_pos c44] at H
                                have c44b0 : decide (200 < ((((rd_T25 l1 0).f2) ++ ((rd_T25 l1 (ji10)).f2)).size : Int)) = true := decide_eq_true c44
                                have c44b1 : decide (200 < (((rd_T25 l1 0).f2) ++ ((rd_T25 l1 (ji10)).f2)).size) = true := decide_eq_true (by omega)
                                clear c44
                                by_cases c45 : 1 = 0
                                · exact absurd c45 (by decide)
                                · rw [if_neg c45] at H
                                  have c45b0 : (1 == 0) = false := beq_eq_false_iff_ne.mpr c45
                                  have c45b1 : (1 != 0) = true := bne_iff_ne.mpr c45
                                  simp only [Option.some.injEq, Prod.mk.injEq] at H
                                  obtain ⟨rfl, rfl, rfl, rfl⟩ := H
                                  obtain ⟨s_, hs_⟩ : ∃ s : ByteArray, s = ((rd_T25 l1 0).f2) ++ ((rd_T25 l1 (ji10)).f2) := ⟨_, rfl⟩
                                  have hadd_ : ∀ W, (Op.stringOp .add (rd_T25 l1 0).f2 (rd_T25 l1 (ji10)).f2).run Try.prog W = .ok (.string s_) W := fun W => by rw [hs_]; apply run_string_add_sum; exact c43
                                  rw [← hs_] at c44b0 c44b1
                                  have HS_ := Lib.hid hs_
                                  clear hs_ c43 c43b0 c43b1
                                  try clear c43b2
                                  go_upto_region 14 with (first | ((with_reducible refine gate_dst (N := 9) rfl ?_); (try (refine gate_guard (by rfl) ?_; dsimp only)); refine box_event ?hg (N := 9) ?hd (cs := #[.int .i64 0, .int .i64 0, .string (⟨#[]⟩ : ByteArray)]) (t := 25) ?hr ?_; (case hd => rfl); (case hg => rfl); (case hr => first | (go_simp; done) | (go_simp; rfl)); intro gb119 hg w53 hbox hb; have n0_ := Aside0.mk (blk_below (g := gb113) (o := .cells #[.int .i64 0, .int .i64 0, .string (⟨#[]⟩ : ByteArray)] 25 (0, 0)) (by (with_reducible repeat (first | refine blk_drewN ?_ _ | refine blk_drew ?_ | refine blk_alloc ?_ _)); exact BK113.out) hb); have n1_ := Aside0.mk (blk_below (g := gb117) (o := .cells #[.int .i64 ((rd_T25 l1 0).f0), .int .i64 ((rd_T25 l1 0).f1), .string ((rd_T25 l1 0).f2), .int .i64 ((rd_T25 l1 (ji10)).f0), .int .i64 ((rd_T25 l1 (ji10)).f1), .string ((rd_T25 l1 (ji10)).f2)] 45 (0, 0)) (by (with_reducible repeat (first | refine blk_drewN ?_ _ | refine blk_drew ?_ | refine blk_alloc ?_ _)); exact BK117.out) hb); have n2_ := Aside0.mk (below_step (by repeat (first | (with_reducible first | exact HB.out | apply below_alloc | apply pw_below_drewN | apply below_drew1 | refine below_set ?_ GE113.out | refine below_set ?_ GE117.out) | exact HB.out)) hb); have n3_ := Aside0.mk (hbox); have n4_ := Aside0.mk ((by rw [hg]; exact (below_size (by repeat (first | (with_reducible first | exact HB.out | apply below_alloc | apply pw_below_drewN | apply below_drew1 | refine below_set ?_ GE113.out | refine below_set ?_ GE117.out) | exact HB.out))) : w.heap.size ≤ gb119)); have n5_ := Aside0.mk ((by rw [hg]; exact (below_size (by repeat (first | (with_reducible first | exact HB.out | apply below_alloc | apply pw_below_drewN | apply below_drew1 | refine below_set ?_ GE113.out | refine below_set ?_ GE117.out) | exact HB.out))) : w.heap.size ≤ gb119)); have n6_ := Aside0.mk ((by rw [hg]; exact Nat.ne_of_lt (blk_lt (g := gb113) (o := .cells #[.int .i64 0, .int .i64 0, .string (⟨#[]⟩ : ByteArray)] 25 (0, 0)) (by (with_reducible repeat (first | refine blk_drewN ?_ _ | refine blk_drew ?_ | refine blk_alloc ?_ _)); exact BK113.out)) : gb113 ≠ gb119)); have n7_ := Aside0.mk ((by rw [hg]; exact Nat.ne_of_gt (blk_lt (g := gb113) (o := .cells #[.int .i64 0, .int .i64 0, .string (⟨#[]⟩ : ByteArray)] 25 (0, 0)) (by (with_reducible repeat (first | refine blk_drewN ?_ _ | refine blk_drew ?_ | refine blk_alloc ?_ _)); exact BK113.out)) : gb119 ≠ gb113)); have n8_ := Aside0.mk ((by rw [hg]; exact Nat.ne_of_lt (blk_lt (g := gb117) (o := .cells #[.int .i64 ((rd_T25 l1 0).f0), .int .i64 ((rd_T25 l1 0).f1), .string ((rd_T25 l1 0).f2), .int .i64 ((rd_T25 l1 (ji10)).f0), .int .i64 ((rd_T25 l1 (ji10)).f1), .string ((rd_T25 l1 (ji10)).f2)] 45 (0, 0)) (by (with_reducible repeat (first | refine blk_drewN ?_ _ | refine blk_drew ?_ | refine blk_alloc ?_ _)); exact BK117.out)) : gb117 ≠ gb119)); have n9_ := Aside0.mk ((by rw [hg]; exact Nat.ne_of_gt (blk_lt (g := gb117) (o := .cells #[.int .i64 ((rd_T25 l1 0).f0), .int .i64 ((rd_T25 l1 0).f1), .string ((rd_T25 l1 0).f2), .int .i64 ((rd_T25 l1 (ji10)).f0), .int .i64 ((rd_T25 l1 (ji10)).f1), .string ((rd_T25 l1 (ji10)).f2)] 45 (0, 0)) (by (with_reducible repeat (first | refine blk_drewN ?_ _ | refine blk_drew ?_ | refine blk_alloc ?_ _)); exact BK117.out)) : gb119 ≠ gb117)); clear BK113; clear BK117; clear HB; have BK113 := n0_; have BK117 := n1_; have HB := n2_; have BK119 := n3_; have GW119 := n4_; have GE119 := n5_; have NB113_119 := n6_; have NB119_113 := n7_; have NB117_119 := n8_; have NB119_117 := n9_; clear n0_ n1_ n2_ n3_ n4_ n5_ n6_ n7_ n8_ n9_; clear hb hbox hg; have hnb54 := NB119_113.out; have hnc54 := NB113_119.out; have hnb55 := NB119_117.out; have hnc55 := NB117_119.out; have hcz56_0 : w53.cell? ⟨gb119, 0, none⟩ = some (.int .i64 0) := (blk_cell BK119.out 0).trans rfl; have hcz56_1 : w53.cell? ⟨gb119, 1, none⟩ = some (.int .i64 0) := (blk_cell BK119.out 1).trans rfl; have hcz56_2 : w53.cell? ⟨gb119, 2, none⟩ = some (.string (⟨#[]⟩ : ByteArray)) := (blk_cell BK119.out 2).trans rfl; have hfz56_0 := blk_frozen BK119.out 0; have hfz56_1 := blk_frozen BK119.out 1; have hfz56_2 := blk_frozen BK119.out 2; have hnb57 := NB117_113.out; have hnc57 := NB113_117.out; have hcz58_0 : w53.cell? ⟨gb117, 0, none⟩ = some (.int .i64 ((rd_T25 l1 0).f0)) := (blk_cell BK117.out 0).trans rfl; have hcz58_1 : w53.cell? ⟨gb117, 1, none⟩ = some (.int .i64 ((rd_T25 l1 0).f1)) := (blk_cell BK117.out 1).trans rfl; have hcz58_2 : w53.cell? ⟨gb117, 2, none⟩ = some (.string ((rd_T25 l1 0).f2)) := (blk_cell BK117.out 2).trans rfl; have hcz58_3 : w53.cell? ⟨gb117, 3, none⟩ = some (.int .i64 ((rd_T25 l1 (ji10)).f0)) := (blk_cell BK117.out 3).trans rfl; have hcz58_4 : w53.cell? ⟨gb117, 4, none⟩ = some (.int .i64 ((rd_T25 l1 (ji10)).f1)) := (blk_cell BK117.out 4).trans rfl; have hcz58_5 : w53.cell? ⟨gb117, 5, none⟩ = some (.string ((rd_T25 l1 (ji10)).f2)) := (blk_cell BK117.out 5).trans rfl; have hfz58_0 := blk_frozen BK117.out 0; have hfz58_1 := blk_frozen BK117.out 1; have hfz58_2 := blk_frozen BK117.out 2; have hfz58_3 := blk_frozen BK117.out 3; have hfz58_4 := blk_frozen BK117.out 4; have hfz58_5 := blk_frozen BK117.out 5; have hcz59_0 : w53.cell? ⟨gb113, 0, none⟩ = some (.int .i64 0) := (blk_cell BK113.out 0).trans rfl; have hcz59_1 : w53.cell? ⟨gb113, 1, none⟩ = some (.int .i64 0) := (blk_cell BK113.out 1).trans rfl; have hcz59_2 : w53.cell? ⟨gb113, 2, none⟩ = some (.string (⟨#[]⟩ : ByteArray)) := (blk_cell BK113.out 2).trans rfl; have hfz59_0 := blk_frozen BK113.out 0; have hfz59_1 := blk_frozen BK113.out 1; have hfz59_2 := blk_frozen BK113.out 2))
                                  have F_ : ((((w53.setCell ⟨gb119, 0, none⟩ (.int .i64 t118)).setCell ⟨gb119, 1, none⟩ (.int .i64 0)).setCell ⟨gb119, 2, none⟩ (.string (⟨#[]⟩ : ByteArray))).setCell ⟨gb119, 2, none⟩ (.string s_)).heap[gb119]? = some (.cells #[.int .i64 t118, .int .i64 0, .string s_] 25 (0, 0)) := blk_put (cs := #[.int .i64 t118, .int .i64 0, .string (⟨#[]⟩ : ByteArray)]) (blk_put (cs := #[.int .i64 t118, .int .i64 0, .string (⟨#[]⟩ : ByteArray)]) (blk_put (cs := #[.int .i64 t118, .int .i64 0, .string (⟨#[]⟩ : ByteArray)]) (blk_put (cs := #[.int .i64 0, .int .i64 0, .string (⟨#[]⟩ : ByteArray)]) BK119.out 0 _ rfl) 1 _ rfl) 2 _ rfl) 2 _ rfl
                                  have F113_ : ((((w53.setCell ⟨gb119, 0, none⟩ (.int .i64 t118)).setCell ⟨gb119, 1, none⟩ (.int .i64 0)).setCell ⟨gb119, 2, none⟩ (.string (⟨#[]⟩ : ByteArray))).setCell ⟨gb119, 2, none⟩ (.string s_)).heap[gb113]? = some (.cells #[.int .i64 0, .int .i64 0, .string (⟨#[]⟩ : ByteArray)] 25 (0, 0)) := blk_far (blk_far (blk_far (blk_far BK113.out NB113_119.out _) NB113_119.out _) NB113_119.out _) NB113_119.out _
                                  have FB_ : Below w.heap.size w ((((w53.setCell ⟨gb119, 0, none⟩ (.int .i64 t118)).setCell ⟨gb119, 1, none⟩ (.int .i64 0)).setCell ⟨gb119, 2, none⟩ (.string (⟨#[]⟩ : ByteArray))).setCell ⟨gb119, 2, none⟩ (.string s_)) := below_set (below_set (below_set (below_set HB.out GE119.out) GE119.out) GE119.out) GE119.out
                                  have NE_ : gb113 ≠ gb119 := NB113_119.out
                                  have NE2_ : gb119 ≠ gb113 := Ne.symm NE_
                                  clear BK113 BK117 BK119 HB hadd_
                                  generalize ((((w53.setCell ⟨gb119, 0, none⟩ (.int .i64 t118)).setCell ⟨gb119, 1, none⟩ (.int .i64 0)).setCell ⟨gb119, 2, none⟩ (.string (⟨#[]⟩ : ByteArray))).setCell ⟨gb119, 2, none⟩ (.string s_)) = W2_ at F_ F113_ FB_ ⊢
                                  have hc_0 : W2_.cell? ⟨gb119, 0, none⟩ = some (.int .i64 t118) := (blk_cell F_ 0).trans rfl
                                  have hf_0 := blk_frozen F_ 0
                                  have hd_0 : W2_.cell? ⟨gb113, 0, none⟩ = some (.int .i64 0) := (blk_cell F113_ 0).trans rfl
                                  have hg_0 := blk_frozen F113_ 0
                                  have hc_1 : W2_.cell? ⟨gb119, 1, none⟩ = some (.int .i64 0) := (blk_cell F_ 1).trans rfl
                                  have hf_1 := blk_frozen F_ 1
                                  have hd_1 : W2_.cell? ⟨gb113, 1, none⟩ = some (.int .i64 0) := (blk_cell F113_ 1).trans rfl
                                  have hg_1 := blk_frozen F113_ 1
                                  have hc_2 : W2_.cell? ⟨gb119, 2, none⟩ = some (.string s_) := (blk_cell F_ 2).trans rfl
                                  have hf_2 := blk_frozen F_ 2
                                  have hd_2 : W2_.cell? ⟨gb113, 2, none⟩ = some (.string (⟨#[]⟩ : ByteArray)) := (blk_cell F113_ 2).trans rfl
                                  have hg_2 := blk_frozen F113_ 2
                                  have F3 := Aside0.mk F113_
                                  have FB3 := Aside0.mk FB_
                                  clear F_ F113_ FB_
                                  go_wp2
                                  refine bodyPost_ret (results_ct rfl _ _ gb113 25 #[.int .i64 0, .int .i64 0, .string (⟨#[]⟩ : ByteArray)] (0, 0) _ rfl (blk_put (cs := #[.int .i64 0, .int .i64 0, .string (⟨#[]⟩ : ByteArray)]) (blk_put (cs := #[.int .i64 0, .int .i64 0, .string (⟨#[]⟩ : ByteArray)]) (blk_put (cs := #[.int .i64 0, .int .i64 0, .string (⟨#[]⟩ : ByteArray)]) F3.out 0 _ rfl) 1 _ rfl) 2 _ rfl) Try.underlying25 rfl (by kernel_rfl)) rfl ?_
                                  exact ⟨by first | rfl | (rw [HS_.out]; rfl), below_set (below_set (below_set FB3.out GE113.out) GE113.out) GE113.out⟩
                              · rw [if_neg c44] at H
                                have c44b0 : decide (200 < ((((rd_T25 l1 0).f2) ++ ((rd_T25 l1 (ji10)).f2)).size : Int)) = false := decide_eq_false c44
                                have c44b1 : decide (200 < (((rd_T25 l1 0).f2) ++ ((rd_T25 l1 (ji10)).f2)).size) = false := decide_eq_false (by omega)
                                clear c44
                                by_cases c60 : 0 = 0
                                · rw [if_pos c60] at H
                                  have c60b0 : (0 == 0) = true := beq_iff_eq.mpr c60
                                  have c60b1 : (0 != 0) = false := bne_eq_false_iff_eq.mpr c60
                                  clear c60
                                  simp only [Option.some.injEq, Prod.mk.injEq] at H
                                  obtain ⟨rfl, rfl, rfl, rfl⟩ := H
                                  obtain ⟨s_, hs_⟩ : ∃ s : ByteArray, s = ((rd_T25 l1 0).f2) ++ ((rd_T25 l1 (ji10)).f2) := ⟨_, rfl⟩
                                  have hadd_ : ∀ W, (Op.stringOp .add (rd_T25 l1 0).f2 (rd_T25 l1 (ji10)).f2).run Try.prog W = .ok (.string s_) W := fun W => by rw [hs_]; apply run_string_add_sum; exact c43
                                  rw [← hs_] at c44b0 c44b1
                                  have HS_ := Lib.hid hs_
                                  clear hs_ c43 c43b0 c43b1
                                  try clear c43b2
                                  go_upto_region 14 with (first | ((with_reducible refine gate_dst (N := 9) rfl ?_); (try (refine gate_guard (by rfl) ?_; dsimp only)); refine box_event ?hg (N := 9) ?hd (cs := #[.int .i64 0, .int .i64 0, .string (⟨#[]⟩ : ByteArray)]) (t := 25) ?hr ?_; (case hd => rfl); (case hg => rfl); (case hr => first | (go_simp; done) | (go_simp; rfl)); intro gb119 hg w61 hbox hb; have n0_ := Aside0.mk (blk_below (g := gb113) (o := .cells #[.int .i64 0, .int .i64 0, .string (⟨#[]⟩ : ByteArray)] 25 (0, 0)) (by (with_reducible repeat (first | refine blk_drewN ?_ _ | refine blk_drew ?_ | refine blk_alloc ?_ _)); exact BK113.out) hb); have n1_ := Aside0.mk (blk_below (g := gb117) (o := .cells #[.int .i64 ((rd_T25 l1 0).f0), .int .i64 ((rd_T25 l1 0).f1), .string ((rd_T25 l1 0).f2), .int .i64 ((rd_T25 l1 (ji10)).f0), .int .i64 ((rd_T25 l1 (ji10)).f1), .string ((rd_T25 l1 (ji10)).f2)] 45 (0, 0)) (by (with_reducible repeat (first | refine blk_drewN ?_ _ | refine blk_drew ?_ | refine blk_alloc ?_ _)); exact BK117.out) hb); have n2_ := Aside0.mk (below_step (by repeat (first | (with_reducible first | exact HB.out | apply below_alloc | apply pw_below_drewN | apply below_drew1 | refine below_set ?_ GE113.out | refine below_set ?_ GE117.out) | exact HB.out)) hb); have n3_ := Aside0.mk (hbox); have n4_ := Aside0.mk ((by rw [hg]; exact (below_size (by repeat (first | (with_reducible first | exact HB.out | apply below_alloc | apply pw_below_drewN | apply below_drew1 | refine below_set ?_ GE113.out | refine below_set ?_ GE117.out) | exact HB.out))) : w.heap.size ≤ gb119)); have n5_ := Aside0.mk ((by rw [hg]; exact (below_size (by repeat (first | (with_reducible first | exact HB.out | apply below_alloc | apply pw_below_drewN | apply below_drew1 | refine below_set ?_ GE113.out | refine below_set ?_ GE117.out) | exact HB.out))) : w.heap.size ≤ gb119)); have n6_ := Aside0.mk ((by rw [hg]; exact Nat.ne_of_lt (blk_lt (g := gb113) (o := .cells #[.int .i64 0, .int .i64 0, .string (⟨#[]⟩ : ByteArray)] 25 (0, 0)) (by (with_reducible repeat (first | refine blk_drewN ?_ _ | refine blk_drew ?_ | refine blk_alloc ?_ _)); exact BK113.out)) : gb113 ≠ gb119)); have n7_ := Aside0.mk ((by rw [hg]; exact Nat.ne_of_gt (blk_lt (g := gb113) (o := .cells #[.int .i64 0, .int .i64 0, .string (⟨#[]⟩ : ByteArray)] 25 (0, 0)) (by (with_reducible repeat (first | refine blk_drewN ?_ _ | refine blk_drew ?_ | refine blk_alloc ?_ _)); exact BK113.out)) : gb119 ≠ gb113)); have n8_ := Aside0.mk ((by rw [hg]; exact Nat.ne_of_lt (blk_lt (g := gb117) (o := .cells #[.int .i64 ((rd_T25 l1 0).f0), .int .i64 ((rd_T25 l1 0).f1), .string ((rd_T25 l1 0).f2), .int .i64 ((rd_T25 l1 (ji10)).f0), .int .i64 ((rd_T25 l1 (ji10)).f1), .string ((rd_T25 l1 (ji10)).f2)] 45 (0, 0)) (by (with_reducible repeat (first | refine blk_drewN ?_ _ | refine blk_drew ?_ | refine blk_alloc ?_ _)); exact BK117.out)) : gb117 ≠ gb119)); have n9_ := Aside0.mk ((by rw [hg]; exact Nat.ne_of_gt (blk_lt (g := gb117) (o := .cells #[.int .i64 ((rd_T25 l1 0).f0), .int .i64 ((rd_T25 l1 0).f1), .string ((rd_T25 l1 0).f2), .int .i64 ((rd_T25 l1 (ji10)).f0), .int .i64 ((rd_T25 l1 (ji10)).f1), .string ((rd_T25 l1 (ji10)).f2)] 45 (0, 0)) (by (with_reducible repeat (first | refine blk_drewN ?_ _ | refine blk_drew ?_ | refine blk_alloc ?_ _)); exact BK117.out)) : gb119 ≠ gb117)); clear BK113; clear BK117; clear HB; have BK113 := n0_; have BK117 := n1_; have HB := n2_; have BK119 := n3_; have GW119 := n4_; have GE119 := n5_; have NB113_119 := n6_; have NB119_113 := n7_; have NB117_119 := n8_; have NB119_117 := n9_; clear n0_ n1_ n2_ n3_ n4_ n5_ n6_ n7_ n8_ n9_; clear hb hbox hg; have hnb62 := NB119_113.out; have hnc62 := NB113_119.out; have hnb63 := NB119_117.out; have hnc63 := NB117_119.out; have hcz64_0 : w61.cell? ⟨gb119, 0, none⟩ = some (.int .i64 0) := (blk_cell BK119.out 0).trans rfl; have hcz64_1 : w61.cell? ⟨gb119, 1, none⟩ = some (.int .i64 0) := (blk_cell BK119.out 1).trans rfl; have hcz64_2 : w61.cell? ⟨gb119, 2, none⟩ = some (.string (⟨#[]⟩ : ByteArray)) := (blk_cell BK119.out 2).trans rfl; have hfz64_0 := blk_frozen BK119.out 0; have hfz64_1 := blk_frozen BK119.out 1; have hfz64_2 := blk_frozen BK119.out 2; have hnb65 := NB117_113.out; have hnc65 := NB113_117.out; have hcz66_0 : w61.cell? ⟨gb117, 0, none⟩ = some (.int .i64 ((rd_T25 l1 0).f0)) := (blk_cell BK117.out 0).trans rfl; have hcz66_1 : w61.cell? ⟨gb117, 1, none⟩ = some (.int .i64 ((rd_T25 l1 0).f1)) := (blk_cell BK117.out 1).trans rfl; have hcz66_2 : w61.cell? ⟨gb117, 2, none⟩ = some (.string ((rd_T25 l1 0).f2)) := (blk_cell BK117.out 2).trans rfl; have hcz66_3 : w61.cell? ⟨gb117, 3, none⟩ = some (.int .i64 ((rd_T25 l1 (ji10)).f0)) := (blk_cell BK117.out 3).trans rfl; have hcz66_4 : w61.cell? ⟨gb117, 4, none⟩ = some (.int .i64 ((rd_T25 l1 (ji10)).f1)) := (blk_cell BK117.out 4).trans rfl; have hcz66_5 : w61.cell? ⟨gb117, 5, none⟩ = some (.string ((rd_T25 l1 (ji10)).f2)) := (blk_cell BK117.out 5).trans rfl; have hfz66_0 := blk_frozen BK117.out 0; have hfz66_1 := blk_frozen BK117.out 1; have hfz66_2 := blk_frozen BK117.out 2; have hfz66_3 := blk_frozen BK117.out 3; have hfz66_4 := blk_frozen BK117.out 4; have hfz66_5 := blk_frozen BK117.out 5; have hcz67_0 : w61.cell? ⟨gb113, 0, none⟩ = some (.int .i64 0) := (blk_cell BK113.out 0).trans rfl; have hcz67_1 : w61.cell? ⟨gb113, 1, none⟩ = some (.int .i64 0) := (blk_cell BK113.out 1).trans rfl; have hcz67_2 : w61.cell? ⟨gb113, 2, none⟩ = some (.string (⟨#[]⟩ : ByteArray)) := (blk_cell BK113.out 2).trans rfl; have hfz67_0 := blk_frozen BK113.out 0; have hfz67_1 := blk_frozen BK113.out 1; have hfz67_2 := blk_frozen BK113.out 2))
                                  have F_ : ((((w61.setCell ⟨gb119, 0, none⟩ (.int .i64 t118)).setCell ⟨gb119, 1, none⟩ (.int .i64 0)).setCell ⟨gb119, 2, none⟩ (.string (⟨#[]⟩ : ByteArray))).setCell ⟨gb119, 2, none⟩ (.string s_)).heap[gb119]? = some (.cells #[.int .i64 t118, .int .i64 0, .string s_] 25 (0, 0)) := blk_put (cs := #[.int .i64 t118, .int .i64 0, .string (⟨#[]⟩ : ByteArray)]) (blk_put (cs := #[.int .i64 t118, .int .i64 0, .string (⟨#[]⟩ : ByteArray)]) (blk_put (cs := #[.int .i64 t118, .int .i64 0, .string (⟨#[]⟩ : ByteArray)]) (blk_put (cs := #[.int .i64 0, .int .i64 0, .string (⟨#[]⟩ : ByteArray)]) BK119.out 0 _ rfl) 1 _ rfl) 2 _ rfl) 2 _ rfl
                                  have F113_ : ((((w61.setCell ⟨gb119, 0, none⟩ (.int .i64 t118)).setCell ⟨gb119, 1, none⟩ (.int .i64 0)).setCell ⟨gb119, 2, none⟩ (.string (⟨#[]⟩ : ByteArray))).setCell ⟨gb119, 2, none⟩ (.string s_)).heap[gb113]? = some (.cells #[.int .i64 0, .int .i64 0, .string (⟨#[]⟩ : ByteArray)] 25 (0, 0)) := blk_far (blk_far (blk_far (blk_far BK113.out NB113_119.out _) NB113_119.out _) NB113_119.out _) NB113_119.out _
                                  have FB_ : Below w.heap.size w ((((w61.setCell ⟨gb119, 0, none⟩ (.int .i64 t118)).setCell ⟨gb119, 1, none⟩ (.int .i64 0)).setCell ⟨gb119, 2, none⟩ (.string (⟨#[]⟩ : ByteArray))).setCell ⟨gb119, 2, none⟩ (.string s_)) := below_set (below_set (below_set (below_set HB.out GE119.out) GE119.out) GE119.out) GE119.out
                                  have NE_ : gb113 ≠ gb119 := NB113_119.out
                                  have NE2_ : gb119 ≠ gb113 := Ne.symm NE_
                                  clear BK113 BK117 BK119 HB hadd_
                                  generalize ((((w61.setCell ⟨gb119, 0, none⟩ (.int .i64 t118)).setCell ⟨gb119, 1, none⟩ (.int .i64 0)).setCell ⟨gb119, 2, none⟩ (.string (⟨#[]⟩ : ByteArray))).setCell ⟨gb119, 2, none⟩ (.string s_)) = W2_ at F_ F113_ FB_ ⊢
                                  have hc_0 : W2_.cell? ⟨gb119, 0, none⟩ = some (.int .i64 t118) := (blk_cell F_ 0).trans rfl
                                  have hf_0 := blk_frozen F_ 0
                                  have hd_0 : W2_.cell? ⟨gb113, 0, none⟩ = some (.int .i64 0) := (blk_cell F113_ 0).trans rfl
                                  have hg_0 := blk_frozen F113_ 0
                                  have hc_1 : W2_.cell? ⟨gb119, 1, none⟩ = some (.int .i64 0) := (blk_cell F_ 1).trans rfl
                                  have hf_1 := blk_frozen F_ 1
                                  have hd_1 : W2_.cell? ⟨gb113, 1, none⟩ = some (.int .i64 0) := (blk_cell F113_ 1).trans rfl
                                  have hg_1 := blk_frozen F113_ 1
                                  have hc_2 : W2_.cell? ⟨gb119, 2, none⟩ = some (.string s_) := (blk_cell F_ 2).trans rfl
                                  have hf_2 := blk_frozen F_ 2
                                  have hd_2 : W2_.cell? ⟨gb113, 2, none⟩ = some (.string (⟨#[]⟩ : ByteArray)) := (blk_cell F113_ 2).trans rfl
                                  have hg_2 := blk_frozen F113_ 2
                                  have F3 := Aside0.mk F113_
                                  have FB3 := Aside0.mk FB_
                                  clear F_ F113_ FB_
                                  go_wp2
                                  refine bodyPost_ret (results_ct rfl _ _ gb113 25 #[.int .i64 t118, .int .i64 0, .string s_] (0, 0) _ rfl (blk_put (cs := #[.int .i64 t118, .int .i64 0, .string (⟨#[]⟩ : ByteArray)]) (blk_put (cs := #[.int .i64 t118, .int .i64 0, .string (⟨#[]⟩ : ByteArray)]) (blk_put (cs := #[.int .i64 0, .int .i64 0, .string (⟨#[]⟩ : ByteArray)]) F3.out 0 _ rfl) 1 _ rfl) 2 _ rfl) Try.underlying25 rfl (by kernel_rfl)) rfl ?_
                                  exact ⟨by first | rfl | (rw [HS_.out]; rfl), below_set (below_set (below_set FB3.out GE113.out) GE113.out) GE113.out⟩
                                · exact absurd (by decide) c60
                            · rw [if_neg c43] at H
                              exact absurd H (by simp)
                          · rw [if_neg c42] at H
                            have c42b0 : (a0 == 12) = false := beq_eq_false_iff_ne.mpr c42
                            have c42b1 : (a0 != 12) = true := bne_iff_ne.mpr c42
                            have HC75 := Aside0.mk H
                            clear H
                            go_upto_region 16 with (first | ((with_reducible refine gate_dst (N := 9) rfl ?_); (try (refine gate_guard (by rfl) ?_; dsimp only)); refine box_event ?hg (N := 9) ?hd (cs := #[.int .i64 0, .int .i64 0, .string (⟨#[]⟩ : ByteArray)]) (t := 25) ?hr ?_; (case hd => rfl); (case hg => rfl); (case hr => first | (go_simp; done) | (go_simp; rfl)); intro gb119 hg w76 hbox hb; have n0_ := Aside0.mk (blk_below (g := gb113) (o := .cells #[.int .i64 0, .int .i64 0, .string (⟨#[]⟩ : ByteArray)] 25 (0, 0)) (by (with_reducible repeat (first | refine blk_drewN ?_ _ | refine blk_drew ?_ | refine blk_alloc ?_ _)); exact BK113.out) hb); have n1_ := Aside0.mk (blk_below (g := gb117) (o := .cells #[.int .i64 ((rd_T25 l1 0).f0), .int .i64 ((rd_T25 l1 0).f1), .string ((rd_T25 l1 0).f2), .int .i64 ((rd_T25 l1 (ji10)).f0), .int .i64 ((rd_T25 l1 (ji10)).f1), .string ((rd_T25 l1 (ji10)).f2)] 45 (0, 0)) (by (with_reducible repeat (first | refine blk_drewN ?_ _ | refine blk_drew ?_ | refine blk_alloc ?_ _)); exact BK117.out) hb); have n2_ := Aside0.mk (below_step (by repeat (first | (with_reducible first | exact HB.out | apply below_alloc | apply pw_below_drewN | apply below_drew1 | refine below_set ?_ GE113.out | refine below_set ?_ GE117.out) | exact HB.out)) hb); have n3_ := Aside0.mk (hbox); have n4_ := Aside0.mk ((by rw [hg]; exact (below_size (by repeat (first | (with_reducible first | exact HB.out | apply below_alloc | apply pw_below_drewN | apply below_drew1 | refine below_set ?_ GE113.out | refine below_set ?_ GE117.out) | exact HB.out))) : w.heap.size ≤ gb119)); have n5_ := Aside0.mk ((by rw [hg]; exact (below_size (by repeat (first | (with_reducible first | exact HB.out | apply below_alloc | apply pw_below_drewN | apply below_drew1 | refine below_set ?_ GE113.out | refine below_set ?_ GE117.out) | exact HB.out))) : w.heap.size ≤ gb119)); have n6_ := Aside0.mk ((by rw [hg]; exact Nat.ne_of_lt (blk_lt (g := gb113) (o := .cells #[.int .i64 0, .int .i64 0, .string (⟨#[]⟩ : ByteArray)] 25 (0, 0)) (by (with_reducible repeat (first | refine blk_drewN ?_ _ | refine blk_drew ?_ | refine blk_alloc ?_ _)); exact BK113.out)) : gb113 ≠ gb119)); have n7_ := Aside0.mk ((by rw [hg]; exact Nat.ne_of_gt (blk_lt (g := gb113) (o := .cells #[.int .i64 0, .int .i64 0, .string (⟨#[]⟩ : ByteArray)] 25 (0, 0)) (by (with_reducible repeat (first | refine blk_drewN ?_ _ | refine blk_drew ?_ | refine blk_alloc ?_ _)); exact BK113.out)) : gb119 ≠ gb113)); have n8_ := Aside0.mk ((by rw [hg]; exact Nat.ne_of_lt (blk_lt (g := gb117) (o := .cells #[.int .i64 ((rd_T25 l1 0).f0), .int .i64 ((rd_T25 l1 0).f1), .string ((rd_T25 l1 0).f2), .int .i64 ((rd_T25 l1 (ji10)).f0), .int .i64 ((rd_T25 l1 (ji10)).f1), .string ((rd_T25 l1 (ji10)).f2)] 45 (0, 0)) (by (with_reducible repeat (first | refine blk_drewN ?_ _ | refine blk_drew ?_ | refine blk_alloc ?_ _)); exact BK117.out)) : gb117 ≠ gb119)); have n9_ := Aside0.mk ((by rw [hg]; exact Nat.ne_of_gt (blk_lt (g := gb117) (o := .cells #[.int .i64 ((rd_T25 l1 0).f0), .int .i64 ((rd_T25 l1 0).f1), .string ((rd_T25 l1 0).f2), .int .i64 ((rd_T25 l1 (ji10)).f0), .int .i64 ((rd_T25 l1 (ji10)).f1), .string ((rd_T25 l1 (ji10)).f2)] 45 (0, 0)) (by (with_reducible repeat (first | refine blk_drewN ?_ _ | refine blk_drew ?_ | refine blk_alloc ?_ _)); exact BK117.out)) : gb119 ≠ gb117)); clear BK113; clear BK117; clear HB; have BK113 := n0_; have BK117 := n1_; have HB := n2_; have BK119 := n3_; have GW119 := n4_; have GE119 := n5_; have NB113_119 := n6_; have NB119_113 := n7_; have NB117_119 := n8_; have NB119_117 := n9_; clear n0_ n1_ n2_ n3_ n4_ n5_ n6_ n7_ n8_ n9_; clear hb hbox hg; have hnb77 := NB119_113.out; have hnc77 := NB113_119.out; have hnb78 := NB119_117.out; have hnc78 := NB117_119.out; have hcz79_0 : w76.cell? ⟨gb119, 0, none⟩ = some (.int .i64 0) := (blk_cell BK119.out 0).trans rfl; have hcz79_1 : w76.cell? ⟨gb119, 1, none⟩ = some (.int .i64 0) := (blk_cell BK119.out 1).trans rfl; have hcz79_2 : w76.cell? ⟨gb119, 2, none⟩ = some (.string (⟨#[]⟩ : ByteArray)) := (blk_cell BK119.out 2).trans rfl; have hfz79_0 := blk_frozen BK119.out 0; have hfz79_1 := blk_frozen BK119.out 1; have hfz79_2 := blk_frozen BK119.out 2))
                            (try simp only [Act.put, List.setIfInBounds_toArray, List.set_cons_zero, List.set_cons_succ])
                            go_cut [81] (fun v81 wc => ∃ (kq : Nat) (x81_74 : Bool), v81 = .bool x81_74 ∧ Aside0 (arith_Do.j3 kq a0 t118 0 x81_74 ((rd_T25 l1 0).f0) ((rd_T25 l1 0).f1) ((rd_T25 l1 0).f2) ((rd_T25 l1 (ji10)).f0) ((rd_T25 l1 (ji10)).f1) ((rd_T25 l1 (ji10)).f2) t118 0 (⟨#[]⟩ : ByteArray) = some (r1, r2, r3, r4)) ∧ Aside0 (kq ≤ kj30) ∧ Aside0 (wc.heap[gb113]? = some (.cells #[.int .i64 0, .int .i64 0, .string (⟨#[]⟩ : ByteArray)] 25 (0, 0))) ∧ Aside0 (wc.heap[gb117]? = some (.cells #[.int .i64 ((rd_T25 l1 0).f0), .int .i64 ((rd_T25 l1 0).f1), .string ((rd_T25 l1 0).f2), .int .i64 ((rd_T25 l1 (ji10)).f0), .int .i64 ((rd_T25 l1 (ji10)).f1), .string ((rd_T25 l1 (ji10)).f2)] 45 (0, 0))) ∧ Aside0 (wc.heap[gb119]? = some (.cells #[.int .i64 t118, .int .i64 0, .string (⟨#[]⟩ : ByteArray)] 25 (0, 0))) ∧ Aside0 (Below w.heap.size w wc))
                            case first =>
                              have H := HC75.out
                              clear HC75
                              by_cases c80 : a0 = 14
                              · rw [if_pos c80] at H
                                have c80b0 : (a0 == 14) = true := beq_iff_eq.mpr c80
                                have c80b1 : (a0 != 14) = false := bne_eq_false_iff_eq.mpr c80
                                clear c80
                                (first | rw [c80b0] | (simp only [i64_w, i32_w]; rw [c80b0]) | skip)
                                have H' := Aside0.mk H
                                clear H
                                go_wp2
                                go_meet
                                case rel => exact ⟨_, (true), (by first | rfl | (simp; done) | (simp [*]; done) | (simp; exact isEmpty_bne _) | (simp [*]; exact isEmpty_bne _)), H', ⟨by have := HJ3.out; have := HJ12.out; have := HJ30.out; first | omega | exact Nat.le_refl _⟩, ⟨by (with_reducible repeat (first | refine blk_drewN ?_ _ | refine blk_drew ?_ | refine blk_alloc ?_ _)); refine blk_far ?_ NB113_119.out _; (with_reducible repeat (first | refine blk_drewN ?_ _ | refine blk_drew ?_ | refine blk_alloc ?_ _)); refine blk_far ?_ NB113_119.out _; (with_reducible repeat (first | refine blk_drewN ?_ _ | refine blk_drew ?_ | refine blk_alloc ?_ _)); refine blk_far ?_ NB113_119.out _; (with_reducible repeat (first | refine blk_drewN ?_ _ | refine blk_drew ?_ | refine blk_alloc ?_ _)); exact BK113.out⟩, ⟨by (with_reducible repeat (first | refine blk_drewN ?_ _ | refine blk_drew ?_ | refine blk_alloc ?_ _)); refine blk_far ?_ NB117_119.out _; (with_reducible repeat (first | refine blk_drewN ?_ _ | refine blk_drew ?_ | refine blk_alloc ?_ _)); refine blk_far ?_ NB117_119.out _; (with_reducible repeat (first | refine blk_drewN ?_ _ | refine blk_drew ?_ | refine blk_alloc ?_ _)); refine blk_far ?_ NB117_119.out _; (with_reducible repeat (first | refine blk_drewN ?_ _ | refine blk_drew ?_ | refine blk_alloc ?_ _)); exact BK117.out⟩, ⟨by (with_reducible repeat (first | refine blk_drewN ?_ _ | refine blk_drew ?_ | refine blk_alloc ?_ _)); refine blk_put (cs := #[.int .i64 t118, .int .i64 0, .string (⟨#[]⟩ : ByteArray)]) ?_ 2 _ rfl; (with_reducible repeat (first | refine blk_drewN ?_ _ | refine blk_drew ?_ | refine blk_alloc ?_ _)); refine blk_put (cs := #[.int .i64 t118, .int .i64 0, .string (⟨#[]⟩ : ByteArray)]) ?_ 1 _ rfl; (with_reducible repeat (first | refine blk_drewN ?_ _ | refine blk_drew ?_ | refine blk_alloc ?_ _)); refine blk_put (cs := #[.int .i64 0, .int .i64 0, .string (⟨#[]⟩ : ByteArray)]) ?_ 0 _ rfl; (with_reducible repeat (first | refine blk_drewN ?_ _ | refine blk_drew ?_ | refine blk_alloc ?_ _)); exact BK119.out⟩, ⟨by repeat (first | (with_reducible first | exact HB.out | apply below_alloc | apply pw_below_drewN | apply below_drew1 | refine below_set ?_ GE113.out | refine below_set ?_ GE117.out | refine below_set ?_ GE119.out) | exact HB.out)⟩⟩
                              · rw [if_neg c80] at H
                                have c80b0 : (a0 == 14) = false := beq_eq_false_iff_ne.mpr c80
                                have c80b1 : (a0 != 14) = true := bne_iff_ne.mpr c80
                                (first | rw [c80b0] | (simp only [i64_w, i32_w]; rw [c80b0]) | skip)
                                have H' := Aside0.mk H
                                clear H
                                go_wp2
                                go_meet
                                case rel => exact ⟨_, ((a0 == 15)), (by first | rfl | (simp; done) | (simp [*]; done) | (simp; exact isEmpty_bne _) | (simp [*]; exact isEmpty_bne _)), H', ⟨by have := HJ3.out; have := HJ12.out; have := HJ30.out; first | omega | exact Nat.le_refl _⟩, ⟨by (with_reducible repeat (first | refine blk_drewN ?_ _ | refine blk_drew ?_ | refine blk_alloc ?_ _)); refine blk_far ?_ NB113_119.out _; (with_reducible repeat (first | refine blk_drewN ?_ _ | refine blk_drew ?_ | refine blk_alloc ?_ _)); refine blk_far ?_ NB113_119.out _; (with_reducible repeat (first | refine blk_drewN ?_ _ | refine blk_drew ?_ | refine blk_alloc ?_ _)); refine blk_far ?_ NB113_119.out _; (with_reducible repeat (first | refine blk_drewN ?_ _ | refine blk_drew ?_ | refine blk_alloc ?_ _)); exact BK113.out⟩, ⟨by (with_reducible repeat (first | refine blk_drewN ?_ _ | refine blk_drew ?_ | refine blk_alloc ?_ _)); refine blk_far ?_ NB117_119.out _; (with_reducible repeat (first | refine blk_drewN ?_ _ | refine blk_drew ?_ | refine blk_alloc ?_ _)); refine blk_far ?_ NB117_119.out _; (with_reducible repeat (first | refine blk_drewN ?_ _ | refine blk_drew ?_ | refine blk_alloc ?_ _)); refine blk_far ?_ NB117_119.out _; (with_reducible repeat (first | refine blk_drewN ?_ _ | refine blk_drew ?_ | refine blk_alloc ?_ _)); exact BK117.out⟩, ⟨by (with_reducible repeat (first | refine blk_drewN ?_ _ | refine blk_drew ?_ | refine blk_alloc ?_ _)); refine blk_put (cs := #[.int .i64 t118, .int .i64 0, .string (⟨#[]⟩ : ByteArray)]) ?_ 2 _ rfl; (with_reducible repeat (first | refine blk_drewN ?_ _ | refine blk_drew ?_ | refine blk_alloc ?_ _)); refine blk_put (cs := #[.int .i64 t118, .int .i64 0, .string (⟨#[]⟩ : ByteArray)]) ?_ 1 _ rfl; (with_reducible repeat (first | refine blk_drewN ?_ _ | refine blk_drew ?_ | refine blk_alloc ?_ _)); refine blk_put (cs := #[.int .i64 0, .int .i64 0, .string (⟨#[]⟩ : ByteArray)]) ?_ 0 _ rfl; (with_reducible repeat (first | refine blk_drewN ?_ _ | refine blk_drew ?_ | refine blk_alloc ?_ _)); exact BK119.out⟩, ⟨by repeat (first | (with_reducible first | exact HB.out | apply below_alloc | apply pw_below_drewN | apply below_drew1 | refine below_set ?_ GE113.out | refine below_set ?_ GE117.out | refine below_set ?_ GE119.out) | exact HB.out)⟩⟩
                            case rest =>
                              clear HC75
                              try clear c1
                              try clear p1
                              try clear q1
                              try clear hx1
                              try clear qi1
                              try clear c2
                              try clear p2
                              try clear c3
                              try clear c4
                              try clear c5
                              try clear c6
                              try clear c6b0
                              try clear c6b1
                              try clear p6
                              try clear c7
                              try clear c8
                              try clear c9
                              try clear c9b0
                              try clear c9b1
                              try clear c11
                              try clear c11b0
                              try clear p11
                              try clear q11
                              try clear hx11
                              try clear qi11
                              try clear c12
                              try clear c12b0
                              try clear c19
                              try clear c20
                              try clear c22
                              try clear c22b0
                              try clear c22b1
                              try clear c23
                              try clear c25
                              try clear c27
                              try clear c28
                              try clear c32
                              try clear c34
                              try clear c34b0
                              try clear c34b1
                              try clear c35
                              try clear c37
                              try clear c39
                              try clear c40
                              try clear c42
                              try clear c42b0
                              try clear c42b1
                              try clear c43
                              try clear c43b0
                              try clear c43b1
                              try clear c43b2
                              try clear c44
                              try clear c44b0
                              try clear c44b1
                              try clear c45
                              try clear c45b0
                              try clear c45b1
                              try clear c47
                              try clear c48
                              try clear c50
                              try clear c54
                              try clear c55
                              try clear c57
                              try clear c60
                              try clear c60b0
                              try clear c60b1
                              try clear c62
                              try clear c63
                              try clear c65
                              try clear c69
                              try clear c70
                              try clear c72
                              try clear c77
                              try clear c78
                              try clear c80
                              try clear c80b0
                              try clear c80b1
                              try clear hcz24_0
                              try clear hcz24_1
                              try clear hcz24_2
                              try clear hcz24_3
                              try clear hcz24_4
                              try clear hcz24_5
                              try clear hcz26_0
                              try clear hcz26_1
                              try clear hcz26_2
                              try clear hcz26_3
                              try clear hcz26_4
                              try clear hcz26_5
                              try clear hcz29_0
                              try clear hcz29_1
                              try clear hcz29_2
                              try clear hcz33_0
                              try clear hcz33_1
                              try clear hcz33_2
                              try clear hcz33_3
                              try clear hcz33_4
                              try clear hcz33_5
                              try clear hcz36_0
                              try clear hcz36_1
                              try clear hcz36_2
                              try clear hcz36_3
                              try clear hcz36_4
                              try clear hcz36_5
                              try clear hcz38_0
                              try clear hcz38_1
                              try clear hcz38_2
                              try clear hcz38_3
                              try clear hcz38_4
                              try clear hcz38_5
                              try clear hcz41_0
                              try clear hcz41_1
                              try clear hcz41_2
                              try clear hcz49_0
                              try clear hcz49_1
                              try clear hcz49_2
                              try clear hcz51_0
                              try clear hcz51_1
                              try clear hcz51_2
                              try clear hcz51_3
                              try clear hcz51_4
                              try clear hcz51_5
                              try clear hcz52_0
                              try clear hcz52_1
                              try clear hcz52_2
                              try clear hcz56_0
                              try clear hcz56_1
                              try clear hcz56_2
                              try clear hcz58_0
                              try clear hcz58_1
                              try clear hcz58_2
                              try clear hcz58_3
                              try clear hcz58_4
                              try clear hcz58_5
                              try clear hcz59_0
                              try clear hcz59_1
                              try clear hcz59_2
                              try clear hcz64_0
                              try clear hcz64_1
                              try clear hcz64_2
                              try clear hcz66_0
                              try clear hcz66_1
                              try clear hcz66_2
                              try clear hcz66_3
                              try clear hcz66_4
                              try clear hcz66_5
                              try clear hcz67_0
                              try clear hcz67_1
                              try clear hcz67_2
                              try clear hcz71_0
                              try clear hcz71_1
                              try clear hcz71_2
                              try clear hcz73_0
                              try clear hcz73_1
                              try clear hcz73_2
                              try clear hcz73_3
                              try clear hcz73_4
                              try clear hcz73_5
                              try clear hcz74_0
                              try clear hcz74_1
                              try clear hcz74_2
                              try clear hcz79_0
                              try clear hcz79_1
                              try clear hcz79_2
                              try clear hcz8_0
                              try clear hcz8_1
                              try clear hcz8_2
                              try clear hfz24_0
                              try clear hfz24_1
                              try clear hfz24_2
                              try clear hfz24_3
                              try clear hfz24_4
                              try clear hfz24_5
                              try clear hfz26_0
                              try clear hfz26_1
                              try clear hfz26_2
                              try clear hfz26_3
                              try clear hfz26_4
                              try clear hfz26_5
                              try clear hfz29_0
                              try clear hfz29_1
                              try clear hfz29_2
                              try clear hfz33_0
                              try clear hfz33_1
                              try clear hfz33_2
                              try clear hfz33_3
                              try clear hfz33_4
                              try clear hfz33_5
                              try clear hfz36_0
                              try clear hfz36_1
                              try clear hfz36_2
                              try clear hfz36_3
                              try clear hfz36_4
                              try clear hfz36_5
                              try clear hfz38_0
                              try clear hfz38_1
                              try clear hfz38_2
                              try clear hfz38_3
                              try clear hfz38_4
                              try clear hfz38_5
                              try clear hfz41_0
                              try clear hfz41_1
                              try clear hfz41_2
                              try clear hfz49_0
                              try clear hfz49_1
                              try clear hfz49_2
                              try clear hfz51_0
                              try clear hfz51_1
                              try clear hfz51_2
                              try clear hfz51_3
                              try clear hfz51_4
                              try clear hfz51_5
                              try clear hfz52_0
                              try clear hfz52_1
                              try clear hfz52_2
                              try clear hfz56_0
                              try clear hfz56_1
                              try clear hfz56_2
                              try clear hfz58_0
                              try clear hfz58_1
                              try clear hfz58_2
                              try clear hfz58_3
                              try clear hfz58_4
                              try clear hfz58_5
                              try clear hfz59_0
                              try clear hfz59_1
                              try clear hfz59_2
                              try clear hfz64_0
                              try clear hfz64_1
                              try clear hfz64_2
                              try clear hfz66_0
                              try clear hfz66_1
                              try clear hfz66_2
                              try clear hfz66_3
                              try clear hfz66_4
                              try clear hfz66_5
                              try clear hfz67_0
                              try clear hfz67_1
                              try clear hfz67_2
                              try clear hfz71_0
                              try clear hfz71_1
                              try clear hfz71_2
                              try clear hfz73_0
                              try clear hfz73_1
                              try clear hfz73_2
                              try clear hfz73_3
                              try clear hfz73_4
                              try clear hfz73_5
                              try clear hfz74_0
                              try clear hfz74_1
                              try clear hfz74_2
                              try clear hfz79_0
                              try clear hfz79_1
                              try clear hfz79_2
                              try clear hfz8_0
                              try clear hfz8_1
                              try clear hfz8_2
                              try clear hx115_0
                              try clear hx115_1
                              try clear hx115_2
                              try clear hx116_0
                              try clear hx116_1
                              try clear hx116_2
                              try clear p1
                              try clear p11
                              try clear p115
                              try clear p116
                              try clear p2
                              try clear p6
                              try clear q1
                              try clear q11
                              try clear q115
                              try clear q116
                              obtain ⟨kq, x81_74, rfl, HA, HJ74, BK113, BK117, BK119, HB⟩ := hcut
                              cases kq with
                              | zero => exact absurd HA.out (by simp [arith_Do.j3])
                              | succ kj74 =>
                                have H := HA.out
                                clear HA
                                simp only [arith_Do.j3] at H
                                by_cases c81 : x81_74 = true
                                · subst c81
                                  have H1 : ((arith_turned.f kj74 t118 ((rd_T25 l1 0).f0) ((rd_T25 l1 0).f1) ((rd_T25 l1 0).f2)).bind fun bt120 => (if bt120.2 = 0 then (some (t118, bt120.1, (⟨#[]⟩ : ByteArray), 0)) else (some (0, 0, (⟨#[]⟩ : ByteArray), bt120.2)))) = some (r1, r2, r3, r4) := by rw [if_pos rfl] at H; exact H
                                  clear H
                                  have H := H1
                                  clear H1
                                  replace H := Option.bind_eq_some_iff.mp H
                                  obtain ⟨⟨t120, t121⟩, A820, H⟩ := H
                                  replace H : (if t121 = 0 then (some (t118, t120, (⟨#[]⟩ : ByteArray), 0)) else (some (0, 0, (⟨#[]⟩ : ByteArray), t121))) = some (r1, r2, r3, r4) := H
                                  have A82 := Aside0.mk A820
                                  clear A820
                                  by_cases c83 : t121 = 0
                                  · rw [if_pos c83] at H
                                    have c83b0 : (t121 == 0) = true := beq_iff_eq.mpr c83
                                    have c83b1 : (t121 != 0) = false := bne_eq_false_iff_eq.mpr c83
                                    clear c83
                                    simp only [Option.some.injEq, Prod.mk.injEq] at H
                                    obtain ⟨rfl, rfl, rfl, rfl⟩ := H
                                    have hnb84 := NB117_113.out
                                    have hnc84 := NB113_117.out
                                    have hnb85 := NB117_119.out
                                    have hnc85 := NB119_117.out
                                    have hcz86_0 : wc.cell? ⟨gb117, 0, none⟩ = some (.int .i64 ((rd_T25 l1 0).f0)) := (blk_cell BK117.out 0).trans rfl
                                    have hcz86_1 : wc.cell? ⟨gb117, 1, none⟩ = some (.int .i64 ((rd_T25 l1 0).f1)) := (blk_cell BK117.out 1).trans rfl
                                    have hcz86_2 : wc.cell? ⟨gb117, 2, none⟩ = some (.string ((rd_T25 l1 0).f2)) := (blk_cell BK117.out 2).trans rfl
                                    have hcz86_3 : wc.cell? ⟨gb117, 3, none⟩ = some (.int .i64 ((rd_T25 l1 (ji10)).f0)) := (blk_cell BK117.out 3).trans rfl
                                    have hcz86_4 : wc.cell? ⟨gb117, 4, none⟩ = some (.int .i64 ((rd_T25 l1 (ji10)).f1)) := (blk_cell BK117.out 4).trans rfl
                                    have hcz86_5 : wc.cell? ⟨gb117, 5, none⟩ = some (.string ((rd_T25 l1 (ji10)).f2)) := (blk_cell BK117.out 5).trans rfl
                                    have hfz86_0 := blk_frozen BK117.out 0
                                    have hfz86_1 := blk_frozen BK117.out 1
                                    have hfz86_2 := blk_frozen BK117.out 2
                                    have hfz86_3 := blk_frozen BK117.out 3
                                    have hfz86_4 := blk_frozen BK117.out 4
                                    have hfz86_5 := blk_frozen BK117.out 5
                                    go_wp2_with (first | ((with_reducible refine gate_callee (f := 21) rfl ?_); refine goesL_ (some 92) rfl rfl Try.func21 (by kernel_rfl) rfl #[.int .i64 t118, .agg #[.int .i64 ((rd_T25 l1 0).f0), .int .i64 ((rd_T25 l1 0).f1), .string ((rd_T25 l1 0).f2)]] rfl (by (try simp only [List.map_toArray, List.map_cons, List.map_nil]); first | done | rfl | (simp only [List.length_drop, List.length_take]; rfl)) ?_; (with_reducible refine (arith_turned.calls kj74 t118 ((rd_T25 l1 0).f0) ((rd_T25 l1 0).f1) ((rd_T25 l1 0).f2) t120 t121 _ A82.out).mono ?_); rintro e w87 ⟨rfl, hb⟩; refine ⟨_, rfl, ?_⟩; have n0_ := Aside0.mk (blk_below (g := gb113) (o := .cells #[.int .i64 0, .int .i64 0, .string (⟨#[]⟩ : ByteArray)] 25 (0, 0)) (by (with_reducible repeat (first | refine blk_drewN ?_ _ | refine blk_drew ?_ | refine blk_alloc ?_ _)); exact BK113.out) hb); have n1_ := Aside0.mk (blk_below (g := gb117) (o := .cells #[.int .i64 ((rd_T25 l1 0).f0), .int .i64 ((rd_T25 l1 0).f1), .string ((rd_T25 l1 0).f2), .int .i64 ((rd_T25 l1 (ji10)).f0), .int .i64 ((rd_T25 l1 (ji10)).f1), .string ((rd_T25 l1 (ji10)).f2)] 45 (0, 0)) (by (with_reducible repeat (first | refine blk_drewN ?_ _ | refine blk_drew ?_ | refine blk_alloc ?_ _)); exact BK117.out) hb); have n2_ := Aside0.mk (blk_below (g := gb119) (o := .cells #[.int .i64 t118, .int .i64 0, .string (⟨#[]⟩ : ByteArray)] 25 (0, 0)) (by (with_reducible repeat (first | refine blk_drewN ?_ _ | refine blk_drew ?_ | refine blk_alloc ?_ _)); exact BK119.out) hb); have n3_ := Aside0.mk (below_step (by repeat (first | (with_reducible first | exact HB.out | apply below_alloc | apply pw_below_drewN | apply below_drew1 | refine below_set ?_ GE113.out | refine below_set ?_ GE117.out | refine below_set ?_ GE119.out) | exact HB.out)) hb); clear BK113; clear BK117; clear BK119; clear HB; have BK113 := n0_; have BK117 := n1_; have BK119 := n2_; have HB := n3_; clear n0_ n1_ n2_ n3_; (try clear hb); (try clear hb2); (try clear hk); (try clear hi); have hnb88 := NB119_113.out; have hnc88 := NB113_119.out; have hcz89_0 : w87.cell? ⟨gb119, 0, none⟩ = some (.int .i64 t118) := (blk_cell BK119.out 0).trans rfl; have hcz89_1 : w87.cell? ⟨gb119, 1, none⟩ = some (.int .i64 0) := (blk_cell BK119.out 1).trans rfl; have hcz89_2 : w87.cell? ⟨gb119, 2, none⟩ = some (.string (⟨#[]⟩ : ByteArray)) := (blk_cell BK119.out 2).trans rfl; have hfz89_0 := blk_frozen BK119.out 0; have hfz89_1 := blk_frozen BK119.out 1; have hfz89_2 := blk_frozen BK119.out 2; have hcz90_0 : w87.cell? ⟨gb113, 0, none⟩ = some (.int .i64 0) := (blk_cell BK113.out 0).trans rfl; have hcz90_1 : w87.cell? ⟨gb113, 1, none⟩ = some (.int .i64 0) := (blk_cell BK113.out 1).trans rfl; have hcz90_2 : w87.cell? ⟨gb113, 2, none⟩ = some (.string (⟨#[]⟩ : ByteArray)) := (blk_cell BK113.out 2).trans rfl; have hfz90_0 := blk_frozen BK113.out 0; have hfz90_1 := blk_frozen BK113.out 1; have hfz90_2 := blk_frozen BK113.out 2))
                                    refine bodyPost_ret (results_ct rfl _ _ gb113 25 #[.int .i64 t118, .int .i64 t120, .string (⟨#[]⟩ : ByteArray)] (0, 0) _ rfl (by (with_reducible repeat (first | refine blk_drewN ?_ _ | refine blk_drew ?_ | refine blk_alloc ?_ _)); refine blk_put (cs := #[.int .i64 t118, .int .i64 t120, .string (⟨#[]⟩ : ByteArray)]) ?_ 2 _ rfl; (with_reducible repeat (first | refine blk_drewN ?_ _ | refine blk_drew ?_ | refine blk_alloc ?_ _)); refine blk_put (cs := #[.int .i64 t118, .int .i64 0, .string (⟨#[]⟩ : ByteArray)]) ?_ 1 _ rfl; (with_reducible repeat (first | refine blk_drewN ?_ _ | refine blk_drew ?_ | refine blk_alloc ?_ _)); refine blk_put (cs := #[.int .i64 0, .int .i64 0, .string (⟨#[]⟩ : ByteArray)]) ?_ 0 _ rfl; (with_reducible repeat (first | refine blk_drewN ?_ _ | refine blk_drew ?_ | refine blk_alloc ?_ _)); refine blk_far ?_ NB113_119.out _; (with_reducible repeat (first | refine blk_drewN ?_ _ | refine blk_drew ?_ | refine blk_alloc ?_ _)); exact BK113.out) Try.underlying25 rfl (by kernel_rfl)) rfl ?_
                                    exact ⟨by first | rfl | (simp [errW_none, errW_some] <;> rfl) | (simp only [← hji10]; first | rfl | (simp [errW_none, errW_some] <;> rfl)) | (simp [*, errW_none, errW_some] <;> rfl), by repeat (first | (with_reducible first | exact HB.out | apply below_alloc | apply pw_below_drewN | apply below_drew1 | refine below_set ?_ GE113.out | refine below_set ?_ GE117.out | refine below_set ?_ GE119.out) | exact HB.out)⟩
                                  · rw [if_neg c83] at H
                                    have c83b0 : (t121 == 0) = false := beq_eq_false_iff_ne.mpr c83
                                    have c83b1 : (t121 != 0) = true := bne_iff_ne.mpr c83
                                    simp only [Option.some.injEq, Prod.mk.injEq] at H
                                    obtain ⟨rfl, rfl, rfl, rfl⟩ := H
                                    have hnb91 := NB117_113.out
                                    have hnc91 := NB113_117.out
                                    have hnb92 := NB117_119.out
                                    have hnc92 := NB119_117.out
                                    have hcz93_0 : wc.cell? ⟨gb117, 0, none⟩ = some (.int .i64 ((rd_T25 l1 0).f0)) := (blk_cell BK117.out 0).trans rfl
                                    have hcz93_1 : wc.cell? ⟨gb117, 1, none⟩ = some (.int .i64 ((rd_T25 l1 0).f1)) := (blk_cell BK117.out 1).trans rfl
                                    have hcz93_2 : wc.cell? ⟨gb117, 2, none⟩ = some (.string ((rd_T25 l1 0).f2)) := (blk_cell BK117.out 2).trans rfl
                                    have hcz93_3 : wc.cell? ⟨gb117, 3, none⟩ = some (.int .i64 ((rd_T25 l1 (ji10)).f0)) := (blk_cell BK117.out 3).trans rfl
                                    have hcz93_4 : wc.cell? ⟨gb117, 4, none⟩ = some (.int .i64 ((rd_T25 l1 (ji10)).f1)) := (blk_cell BK117.out 4).trans rfl
                                    have hcz93_5 : wc.cell? ⟨gb117, 5, none⟩ = some (.string ((rd_T25 l1 (ji10)).f2)) := (blk_cell BK117.out 5).trans rfl
                                    have hfz93_0 := blk_frozen BK117.out 0
                                    have hfz93_1 := blk_frozen BK117.out 1
                                    have hfz93_2 := blk_frozen BK117.out 2
                                    have hfz93_3 := blk_frozen BK117.out 3
                                    have hfz93_4 := blk_frozen BK117.out 4
                                    have hfz93_5 := blk_frozen BK117.out 5
                                    go_wp2_with (first | ((with_reducible refine gate_callee (f := 21) rfl ?_); refine goesL_ (some 92) rfl rfl Try.func21 (by kernel_rfl) rfl #[.int .i64 t118, .agg #[.int .i64 ((rd_T25 l1 0).f0), .int .i64 ((rd_T25 l1 0).f1), .string ((rd_T25 l1 0).f2)]] rfl (by (try simp only [List.map_toArray, List.map_cons, List.map_nil]); first | done | rfl | (simp only [List.length_drop, List.length_take]; rfl)) ?_; (with_reducible refine (arith_turned.calls kj74 t118 ((rd_T25 l1 0).f0) ((rd_T25 l1 0).f1) ((rd_T25 l1 0).f2) t120 t121 _ A82.out).mono ?_); rintro e w94 ⟨rfl, hb⟩; refine ⟨_, rfl, ?_⟩; have n0_ := Aside0.mk (blk_below (g := gb113) (o := .cells #[.int .i64 0, .int .i64 0, .string (⟨#[]⟩ : ByteArray)] 25 (0, 0)) (by (with_reducible repeat (first | refine blk_drewN ?_ _ | refine blk_drew ?_ | refine blk_alloc ?_ _)); exact BK113.out) hb); have n1_ := Aside0.mk (blk_below (g := gb117) (o := .cells #[.int .i64 ((rd_T25 l1 0).f0), .int .i64 ((rd_T25 l1 0).f1), .string ((rd_T25 l1 0).f2), .int .i64 ((rd_T25 l1 (ji10)).f0), .int .i64 ((rd_T25 l1 (ji10)).f1), .string ((rd_T25 l1 (ji10)).f2)] 45 (0, 0)) (by (with_reducible repeat (first | refine blk_drewN ?_ _ | refine blk_drew ?_ | refine blk_alloc ?_ _)); exact BK117.out) hb); have n2_ := Aside0.mk (blk_below (g := gb119) (o := .cells #[.int .i64 t118, .int .i64 0, .string (⟨#[]⟩ : ByteArray)] 25 (0, 0)) (by (with_reducible repeat (first | refine blk_drewN ?_ _ | refine blk_drew ?_ | refine blk_alloc ?_ _)); exact BK119.out) hb); have n3_ := Aside0.mk (below_step (by repeat (first | (with_reducible first | exact HB.out | apply below_alloc | apply pw_below_drewN | apply below_drew1 | refine below_set ?_ GE113.out | refine below_set ?_ GE117.out | refine below_set ?_ GE119.out) | exact HB.out)) hb); clear BK113; clear BK117; clear BK119; clear HB; have BK113 := n0_; have BK117 := n1_; have BK119 := n2_; have HB := n3_; clear n0_ n1_ n2_ n3_; (try clear hb); (try clear hb2); (try clear hk); (try clear hi); have hnb95 := NB119_113.out; have hnc95 := NB113_119.out; have hcz96_0 : w94.cell? ⟨gb119, 0, none⟩ = some (.int .i64 t118) := (blk_cell BK119.out 0).trans rfl; have hcz96_1 : w94.cell? ⟨gb119, 1, none⟩ = some (.int .i64 0) := (blk_cell BK119.out 1).trans rfl; have hcz96_2 : w94.cell? ⟨gb119, 2, none⟩ = some (.string (⟨#[]⟩ : ByteArray)) := (blk_cell BK119.out 2).trans rfl; have hfz96_0 := blk_frozen BK119.out 0; have hfz96_1 := blk_frozen BK119.out 1; have hfz96_2 := blk_frozen BK119.out 2; have hcz97_0 : w94.cell? ⟨gb113, 0, none⟩ = some (.int .i64 0) := (blk_cell BK113.out 0).trans rfl; have hcz97_1 : w94.cell? ⟨gb113, 1, none⟩ = some (.int .i64 0) := (blk_cell BK113.out 1).trans rfl; have hcz97_2 : w94.cell? ⟨gb113, 2, none⟩ = some (.string (⟨#[]⟩ : ByteArray)) := (blk_cell BK113.out 2).trans rfl; have hfz97_0 := blk_frozen BK113.out 0; have hfz97_1 := blk_frozen BK113.out 1; have hfz97_2 := blk_frozen BK113.out 2))
                                    refine bodyPost_ret (results_ct rfl _ _ gb113 25 #[.int .i64 0, .int .i64 0, .string (⟨#[]⟩ : ByteArray)] (0, 0) _ rfl (by (with_reducible repeat (first | refine blk_drewN ?_ _ | refine blk_drew ?_ | refine blk_alloc ?_ _)); refine blk_put (cs := #[.int .i64 0, .int .i64 0, .string (⟨#[]⟩ : ByteArray)]) ?_ 2 _ rfl; (with_reducible repeat (first | refine blk_drewN ?_ _ | refine blk_drew ?_ | refine blk_alloc ?_ _)); refine blk_put (cs := #[.int .i64 0, .int .i64 0, .string (⟨#[]⟩ : ByteArray)]) ?_ 1 _ rfl; (with_reducible repeat (first | refine blk_drewN ?_ _ | refine blk_drew ?_ | refine blk_alloc ?_ _)); refine blk_put (cs := #[.int .i64 0, .int .i64 0, .string (⟨#[]⟩ : ByteArray)]) ?_ 0 _ rfl; (with_reducible repeat (first | refine blk_drewN ?_ _ | refine blk_drew ?_ | refine blk_alloc ?_ _)); refine blk_far ?_ NB113_119.out _; (with_reducible repeat (first | refine blk_drewN ?_ _ | refine blk_drew ?_ | refine blk_alloc ?_ _)); exact BK113.out) Try.underlying25 rfl (by kernel_rfl)) rfl ?_
                                    exact ⟨by first | rfl | (simp [errW_none, errW_some] <;> rfl) | (simp only [← hji10]; first | rfl | (simp [errW_none, errW_some] <;> rfl)) | (simp [*, errW_none, errW_some] <;> rfl), by repeat (first | (with_reducible first | exact HB.out | apply below_alloc | apply pw_below_drewN | apply below_drew1 | refine below_set ?_ GE113.out | refine below_set ?_ GE117.out | refine below_set ?_ GE119.out) | exact HB.out)⟩
                                · replace c81 := Bool.eq_false_iff.mpr c81
                                  subst c81
                                  have H1 : (if t118 = 2 then ((arith_pair_whole.f ((rd_T25 l1 0).f0) ((rd_T25 l1 0).f1) ((rd_T25 l1 0).f2) ((rd_T25 l1 (ji10)).f0) ((rd_T25 l1 (ji10)).f1) ((rd_T25 l1 (ji10)).f2) a0).bind fun bt122 => (if bt122.2 = 0 then (some (t118, bt122.1, (⟨#[]⟩ : ByteArray), 0)) else (some (0, 0, (⟨#[]⟩ : ByteArray), bt122.2)))) else ((arith_pair_point.f ((rd_T25 l1 0).f0) ((rd_T25 l1 0).f1) ((rd_T25 l1 0).f2) ((rd_T25 l1 (ji10)).f0) ((rd_T25 l1 (ji10)).f1) ((rd_T25 l1 (ji10)).f2) a0).bind fun t124 => (if 0 = 0 then (some (t118, t124, (⟨#[]⟩ : ByteArray), 0)) else (some (0, 0, (⟨#[]⟩ : ByteArray), 0))))) = some (r1, r2, r3, r4) := by rw [if_neg (show ¬ (false = true) by decide)] at H; exact H
                                  clear H
                                  have H := H1
                                  clear H1
                                  by_cases c98 : t118 = 2
                                  · rw [if_pos c98] at H
                                    have c98b0 : (t118 == 2) = true := beq_iff_eq.mpr c98
                                    have c98b1 : (t118 != 2) = false := bne_eq_false_iff_eq.mpr c98
                                    clear c98
                                    replace H := Option.bind_eq_some_iff.mp H
                                    obtain ⟨⟨t122, t123⟩, A990, H⟩ := H
                                    replace H : (if t123 = 0 then (some (t118, t122, (⟨#[]⟩ : ByteArray), 0)) else (some (0, 0, (⟨#[]⟩ : ByteArray), t123))) = some (r1, r2, r3, r4) := H
                                    have A99 := Aside0.mk A990
                                    clear A990
                                    by_cases c100 : t123 = 0
                                    · rw [if_pos c100] at H
                                      have c100b0 : (t123 == 0) = true := beq_iff_eq.mpr c100
                                      have c100b1 : (t123 != 0) = false := bne_eq_false_iff_eq.mpr c100
                                      clear c100
                                      simp only [Option.some.injEq, Prod.mk.injEq] at H
                                      obtain ⟨rfl, rfl, rfl, rfl⟩ := H
                                      have hnb101 := NB117_113.out
                                      have hnc101 := NB113_117.out
                                      have hnb102 := NB117_119.out
                                      have hnc102 := NB119_117.out
                                      have hcz103_0 : wc.cell? ⟨gb117, 0, none⟩ = some (.int .i64 ((rd_T25 l1 0).f0)) := (blk_cell BK117.out 0).trans rfl
                                      have hcz103_1 : wc.cell? ⟨gb117, 1, none⟩ = some (.int .i64 ((rd_T25 l1 0).f1)) := (blk_cell BK117.out 1).trans rfl
                                      have hcz103_2 : wc.cell? ⟨gb117, 2, none⟩ = some (.string ((rd_T25 l1 0).f2)) := (blk_cell BK117.out 2).trans rfl
                                      have hcz103_3 : wc.cell? ⟨gb117, 3, none⟩ = some (.int .i64 ((rd_T25 l1 (ji10)).f0)) := (blk_cell BK117.out 3).trans rfl
                                      have hcz103_4 : wc.cell? ⟨gb117, 4, none⟩ = some (.int .i64 ((rd_T25 l1 (ji10)).f1)) := (blk_cell BK117.out 4).trans rfl
                                      have hcz103_5 : wc.cell? ⟨gb117, 5, none⟩ = some (.string ((rd_T25 l1 (ji10)).f2)) := (blk_cell BK117.out 5).trans rfl
                                      have hfz103_0 := blk_frozen BK117.out 0
                                      have hfz103_1 := blk_frozen BK117.out 1
                                      have hfz103_2 := blk_frozen BK117.out 2
                                      have hfz103_3 := blk_frozen BK117.out 3
                                      have hfz103_4 := blk_frozen BK117.out 4
                                      have hfz103_5 := blk_frozen BK117.out 5
                                      go_wp2_with (first | ((with_reducible refine gate_callee (f := 22) rfl ?_); refine goesL_ (some 102) rfl rfl Try.func22 (by kernel_rfl) rfl #[.agg #[.int .i64 ((rd_T25 l1 0).f0), .int .i64 ((rd_T25 l1 0).f1), .string ((rd_T25 l1 0).f2), .int .i64 ((rd_T25 l1 (ji10)).f0), .int .i64 ((rd_T25 l1 (ji10)).f1), .string ((rd_T25 l1 (ji10)).f2)], .int .i64 a0] rfl (by (try simp only [List.map_toArray, List.map_cons, List.map_nil]); first | done | (simp only [hji10]; rfl) | rfl | (simp only [List.length_drop, List.length_take]; rfl)) ?_; (with_reducible refine (arith_pair_whole.calls ((rd_T25 l1 0).f0) ((rd_T25 l1 0).f1) ((rd_T25 l1 0).f2) ((rd_T25 l1 (ji10)).f0) ((rd_T25 l1 (ji10)).f1) ((rd_T25 l1 (ji10)).f2) a0 t122 t123 _ A99.out).mono ?_); rintro e w104 ⟨rfl, hb⟩; refine ⟨_, rfl, ?_⟩; have n0_ := Aside0.mk (blk_below (g := gb113) (o := .cells #[.int .i64 0, .int .i64 0, .string (⟨#[]⟩ : ByteArray)] 25 (0, 0)) (by (with_reducible repeat (first | refine blk_drewN ?_ _ | refine blk_drew ?_ | refine blk_alloc ?_ _)); exact BK113.out) hb); have n1_ := Aside0.mk (blk_below (g := gb117) (o := .cells #[.int .i64 ((rd_T25 l1 0).f0), .int .i64 ((rd_T25 l1 0).f1), .string ((rd_T25 l1 0).f2), .int .i64 ((rd_T25 l1 (ji10)).f0), .int .i64 ((rd_T25 l1 (ji10)).f1), .string ((rd_T25 l1 (ji10)).f2)] 45 (0, 0)) (by (with_reducible repeat (first | refine blk_drewN ?_ _ | refine blk_drew ?_ | refine blk_alloc ?_ _)); exact BK117.out) hb); have n2_ := Aside0.mk (blk_below (g := gb119) (o := .cells #[.int .i64 t118, .int .i64 0, .string (⟨#[]⟩ : ByteArray)] 25 (0, 0)) (by (with_reducible repeat (first | refine blk_drewN ?_ _ | refine blk_drew ?_ | refine blk_alloc ?_ _)); exact BK119.out) hb); have n3_ := Aside0.mk (below_step (by repeat (first | (with_reducible first | exact HB.out | apply below_alloc | apply pw_below_drewN | apply below_drew1 | refine below_set ?_ GE113.out | refine below_set ?_ GE117.out | refine below_set ?_ GE119.out) | exact HB.out)) hb); clear BK113; clear BK117; clear BK119; clear HB; have BK113 := n0_; have BK117 := n1_; have BK119 := n2_; have HB := n3_; clear n0_ n1_ n2_ n3_; (try clear hb); (try clear hb2); (try clear hk); (try clear hi); have hnb105 := NB119_113.out; have hnc105 := NB113_119.out; have hcz106_0 : w104.cell? ⟨gb119, 0, none⟩ = some (.int .i64 t118) := (blk_cell BK119.out 0).trans rfl; have hcz106_1 : w104.cell? ⟨gb119, 1, none⟩ = some (.int .i64 0) := (blk_cell BK119.out 1).trans rfl; have hcz106_2 : w104.cell? ⟨gb119, 2, none⟩ = some (.string (⟨#[]⟩ : ByteArray)) := (blk_cell BK119.out 2).trans rfl; have hfz106_0 := blk_frozen BK119.out 0; have hfz106_1 := blk_frozen BK119.out 1; have hfz106_2 := blk_frozen BK119.out 2; have hcz107_0 : w104.cell? ⟨gb113, 0, none⟩ = some (.int .i64 0) := (blk_cell BK113.out 0).trans rfl; have hcz107_1 : w104.cell? ⟨gb113, 1, none⟩ = some (.int .i64 0) := (blk_cell BK113.out 1).trans rfl; have hcz107_2 : w104.cell? ⟨gb113, 2, none⟩ = some (.string (⟨#[]⟩ : ByteArray)) := (blk_cell BK113.out 2).trans rfl; have hfz107_0 := blk_frozen BK113.out 0; have hfz107_1 := blk_frozen BK113.out 1; have hfz107_2 := blk_frozen BK113.out 2))
                                      refine bodyPost_ret (results_ct rfl _ _ gb113 25 #[.int .i64 t118, .int .i64 t122, .string (⟨#[]⟩ : ByteArray)] (0, 0) _ rfl (by (with_reducible repeat (first | refine blk_drewN ?_ _ | refine blk_drew ?_ | refine blk_alloc ?_ _)); refine blk_put (cs := #[.int .i64 t118, .int .i64 t122, .string (⟨#[]⟩ : ByteArray)]) ?_ 2 _ rfl; (with_reducible repeat (first | refine blk_drewN ?_ _ | refine blk_drew ?_ | refine blk_alloc ?_ _)); refine blk_put (cs := #[.int .i64 t118, .int .i64 0, .string (⟨#[]⟩ : ByteArray)]) ?_ 1 _ rfl; (with_reducible repeat (first | refine blk_drewN ?_ _ | refine blk_drew ?_ | refine blk_alloc ?_ _)); refine blk_put (cs := #[.int .i64 0, .int .i64 0, .string (⟨#[]⟩ : ByteArray)]) ?_ 0 _ rfl; (with_reducible repeat (first | refine blk_drewN ?_ _ | refine blk_drew ?_ | refine blk_alloc ?_ _)); refine blk_far ?_ NB113_119.out _; (with_reducible repeat (first | refine blk_drewN ?_ _ | refine blk_drew ?_ | refine blk_alloc ?_ _)); exact BK113.out) Try.underlying25 rfl (by kernel_rfl)) rfl ?_
                                      exact ⟨by first | rfl | (simp [errW_none, errW_some] <;> rfl) | (simp only [← hji10]; first | rfl | (simp [errW_none, errW_some] <;> rfl)) | (simp [*, errW_none, errW_some] <;> rfl), by repeat (first | (with_reducible first | exact HB.out | apply below_alloc | apply pw_below_drewN | apply below_drew1 | refine below_set ?_ GE113.out | refine below_set ?_ GE117.out | refine below_set ?_ GE119.out) | exact HB.out)⟩
                                    · rw [if_neg c100] at H
                                      have c100b0 : (t123 == 0) = false := beq_eq_false_iff_ne.mpr c100
                                      have c100b1 : (t123 != 0) = true := bne_iff_ne.mpr c100
                                      simp only [Option.some.injEq, Prod.mk.injEq] at H
                                      obtain ⟨rfl, rfl, rfl, rfl⟩ := H
                                      have hnb108 := NB117_113.out
                                      have hnc108 := NB113_117.out
                                      have hnb109 := NB117_119.out
                                      have hnc109 := NB119_117.out
                                      have hcz110_0 : wc.cell? ⟨gb117, 0, none⟩ = some (.int .i64 ((rd_T25 l1 0).f0)) := (blk_cell BK117.out 0).trans rfl
                                      have hcz110_1 : wc.cell? ⟨gb117, 1, none⟩ = some (.int .i64 ((rd_T25 l1 0).f1)) := (blk_cell BK117.out 1).trans rfl
                                      have hcz110_2 : wc.cell? ⟨gb117, 2, none⟩ = some (.string ((rd_T25 l1 0).f2)) := (blk_cell BK117.out 2).trans rfl
                                      have hcz110_3 : wc.cell? ⟨gb117, 3, none⟩ = some (.int .i64 ((rd_T25 l1 (ji10)).f0)) := (blk_cell BK117.out 3).trans rfl
                                      have hcz110_4 : wc.cell? ⟨gb117, 4, none⟩ = some (.int .i64 ((rd_T25 l1 (ji10)).f1)) := (blk_cell BK117.out 4).trans rfl
                                      have hcz110_5 : wc.cell? ⟨gb117, 5, none⟩ = some (.string ((rd_T25 l1 (ji10)).f2)) := (blk_cell BK117.out 5).trans rfl
                                      have hfz110_0 := blk_frozen BK117.out 0
                                      have hfz110_1 := blk_frozen BK117.out 1
                                      have hfz110_2 := blk_frozen BK117.out 2
                                      have hfz110_3 := blk_frozen BK117.out 3
                                      have hfz110_4 := blk_frozen BK117.out 4
                                      have hfz110_5 := blk_frozen BK117.out 5
                                      go_wp2_with (first | ((with_reducible refine gate_callee (f := 22) rfl ?_); refine goesL_ (some 102) rfl rfl Try.func22 (by kernel_rfl) rfl #[.agg #[.int .i64 ((rd_T25 l1 0).f0), .int .i64 ((rd_T25 l1 0).f1), .string ((rd_T25 l1 0).f2), .int .i64 ((rd_T25 l1 (ji10)).f0), .int .i64 ((rd_T25 l1 (ji10)).f1), .string ((rd_T25 l1 (ji10)).f2)], .int .i64 a0] rfl (by (try simp only [List.map_toArray, List.map_cons, List.map_nil]); first | done | (simp only [hji10]; rfl) | rfl | (simp only [List.length_drop, List.length_take]; rfl)) ?_; (with_reducible refine (arith_pair_whole.calls ((rd_T25 l1 0).f0) ((rd_T25 l1 0).f1) ((rd_T25 l1 0).f2) ((rd_T25 l1 (ji10)).f0) ((rd_T25 l1 (ji10)).f1) ((rd_T25 l1 (ji10)).f2) a0 t122 t123 _ A99.out).mono ?_); rintro e w111 ⟨rfl, hb⟩; refine ⟨_, rfl, ?_⟩; have n0_ := Aside0.mk (blk_below (g := gb113) (o := .cells #[.int .i64 0, .int .i64 0, .string (⟨#[]⟩ : ByteArray)] 25 (0, 0)) (by (with_reducible repeat (first | refine blk_drewN ?_ _ | refine blk_drew ?_ | refine blk_alloc ?_ _)); exact BK113.out) hb); have n1_ := Aside0.mk (blk_below (g := gb117) (o := .cells #[.int .i64 ((rd_T25 l1 0).f0), .int .i64 ((rd_T25 l1 0).f1), .string ((rd_T25 l1 0).f2), .int .i64 ((rd_T25 l1 (ji10)).f0), .int .i64 ((rd_T25 l1 (ji10)).f1), .string ((rd_T25 l1 (ji10)).f2)] 45 (0, 0)) (by (with_reducible repeat (first | refine blk_drewN ?_ _ | refine blk_drew ?_ | refine blk_alloc ?_ _)); exact BK117.out) hb); have n2_ := Aside0.mk (blk_below (g := gb119) (o := .cells #[.int .i64 t118, .int .i64 0, .string (⟨#[]⟩ : ByteArray)] 25 (0, 0)) (by (with_reducible repeat (first | refine blk_drewN ?_ _ | refine blk_drew ?_ | refine blk_alloc ?_ _)); exact BK119.out) hb); have n3_ := Aside0.mk (below_step (by repeat (first | (with_reducible first | exact HB.out | apply below_alloc | apply pw_below_drewN | apply below_drew1 | refine below_set ?_ GE113.out | refine below_set ?_ GE117.out | refine below_set ?_ GE119.out) | exact HB.out)) hb); clear BK113; clear BK117; clear BK119; clear HB; have BK113 := n0_; have BK117 := n1_; have BK119 := n2_; have HB := n3_; clear n0_ n1_ n2_ n3_; (try clear hb); (try clear hb2); (try clear hk); (try clear hi); have hnb112 := NB119_113.out; have hnc112 := NB113_119.out; have hcz113_0 : w111.cell? ⟨gb119, 0, none⟩ = some (.int .i64 t118) := (blk_cell BK119.out 0).trans rfl; have hcz113_1 : w111.cell? ⟨gb119, 1, none⟩ = some (.int .i64 0) := (blk_cell BK119.out 1).trans rfl; have hcz113_2 : w111.cell? ⟨gb119, 2, none⟩ = some (.string (⟨#[]⟩ : ByteArray)) := (blk_cell BK119.out 2).trans rfl; have hfz113_0 := blk_frozen BK119.out 0; have hfz113_1 := blk_frozen BK119.out 1; have hfz113_2 := blk_frozen BK119.out 2; have hcz114_0 : w111.cell? ⟨gb113, 0, none⟩ = some (.int .i64 0) := (blk_cell BK113.out 0).trans rfl; have hcz114_1 : w111.cell? ⟨gb113, 1, none⟩ = some (.int .i64 0) := (blk_cell BK113.out 1).trans rfl; have hcz114_2 : w111.cell? ⟨gb113, 2, none⟩ = some (.string (⟨#[]⟩ : ByteArray)) := (blk_cell BK113.out 2).trans rfl; have hfz114_0 := blk_frozen BK113.out 0; have hfz114_1 := blk_frozen BK113.out 1; have hfz114_2 := blk_frozen BK113.out 2))
                                      refine bodyPost_ret (results_ct rfl _ _ gb113 25 #[.int .i64 0, .int .i64 0, .string (⟨#[]⟩ : ByteArray)] (0, 0) _ rfl (by (with_reducible repeat (first | refine blk_drewN ?_ _ | refine blk_drew ?_ | refine blk_alloc ?_ _)); refine blk_put (cs := #[.int .i64 0, .int .i64 0, .string (⟨#[]⟩ : ByteArray)]) ?_ 2 _ rfl; (with_reducible repeat (first | refine blk_drewN ?_ _ | refine blk_drew ?_ | refine blk_alloc ?_ _)); refine blk_put (cs := #[.int .i64 0, .int .i64 0, .string (⟨#[]⟩ : ByteArray)]) ?_ 1 _ rfl; (with_reducible repeat (first | refine blk_drewN ?_ _ | refine blk_drew ?_ | refine blk_alloc ?_ _)); refine blk_put (cs := #[.int .i64 0, .int .i64 0, .string (⟨#[]⟩ : ByteArray)]) ?_ 0 _ rfl; (with_reducible repeat (first | refine blk_drewN ?_ _ | refine blk_drew ?_ | refine blk_alloc ?_ _)); refine blk_far ?_ NB113_119.out _; (with_reducible repeat (first | refine blk_drewN ?_ _ | refine blk_drew ?_ | refine blk_alloc ?_ _)); exact BK113.out) Try.underlying25 rfl (by kernel_rfl)) rfl ?_
                                      exact ⟨by first | rfl | (simp [errW_none, errW_some] <;> rfl) | (simp only [← hji10]; first | rfl | (simp [errW_none, errW_some] <;> rfl)) | (simp [*, errW_none, errW_some] <;> rfl), by repeat (first | (with_reducible first | exact HB.out | apply below_alloc | apply pw_below_drewN | apply below_drew1 | refine below_set ?_ GE113.out | refine below_set ?_ GE117.out | refine below_set ?_ GE119.out) | exact HB.out)⟩
                                  · rw [if_neg c98] at H
                                    have c98b0 : (t118 == 2) = false := beq_eq_false_iff_ne.mpr c98
                                    have c98b1 : (t118 != 2) = true := bne_iff_ne.mpr c98
                                    replace H := Option.bind_eq_some_iff.mp H
                                    obtain ⟨t124, A1150, H⟩ := H
                                    replace H : (if 0 = 0 then (some (t118, t124, (⟨#[]⟩ : ByteArray), 0)) else (some (0, 0, (⟨#[]⟩ : ByteArray), 0))) = some (r1, r2, r3, r4) := H
                                    have A115 := Aside0.mk A1150
                                    clear A1150
                                    by_cases c116 : 0 = 0
                                    · rw [if_pos c116] at H
                                      have c116b0 : (0 == 0) = true := beq_iff_eq.mpr c116
                                      have c116b1 : (0 != 0) = false := bne_eq_false_iff_eq.mpr c116
                                      clear c116
                                      simp only [Option.some.injEq, Prod.mk.injEq] at H
                                      obtain ⟨rfl, rfl, rfl, rfl⟩ := H
                                      have hnb117 := NB117_113.out
                                      have hnc117 := NB113_117.out
                                      have hnb118 := NB117_119.out
                                      have hnc118 := NB119_117.out
                                      have hcz119_0 : wc.cell? ⟨gb117, 0, none⟩ = some (.int .i64 ((rd_T25 l1 0).f0)) := (blk_cell BK117.out 0).trans rfl
                                      have hcz119_1 : wc.cell? ⟨gb117, 1, none⟩ = some (.int .i64 ((rd_T25 l1 0).f1)) := (blk_cell BK117.out 1).trans rfl
                                      have hcz119_2 : wc.cell? ⟨gb117, 2, none⟩ = some (.string ((rd_T25 l1 0).f2)) := (blk_cell BK117.out 2).trans rfl
                                      have hcz119_3 : wc.cell? ⟨gb117, 3, none⟩ = some (.int .i64 ((rd_T25 l1 (ji10)).f0)) := (blk_cell BK117.out 3).trans rfl
                                      have hcz119_4 : wc.cell? ⟨gb117, 4, none⟩ = some (.int .i64 ((rd_T25 l1 (ji10)).f1)) := (blk_cell BK117.out 4).trans rfl
                                      have hcz119_5 : wc.cell? ⟨gb117, 5, none⟩ = some (.string ((rd_T25 l1 (ji10)).f2)) := (blk_cell BK117.out 5).trans rfl
                                      have hfz119_0 := blk_frozen BK117.out 0
                                      have hfz119_1 := blk_frozen BK117.out 1
                                      have hfz119_2 := blk_frozen BK117.out 2
                                      have hfz119_3 := blk_frozen BK117.out 3
                                      have hfz119_4 := blk_frozen BK117.out 4
                                      have hfz119_5 := blk_frozen BK117.out 5
                                      go_wp2_with (first | ((with_reducible refine gate_callee (f := 23) rfl ?_); refine goesL_ (some 64) rfl rfl Try.func23 (by kernel_rfl) rfl #[.agg #[.int .i64 ((rd_T25 l1 0).f0), .int .i64 ((rd_T25 l1 0).f1), .string ((rd_T25 l1 0).f2), .int .i64 ((rd_T25 l1 (ji10)).f0), .int .i64 ((rd_T25 l1 (ji10)).f1), .string ((rd_T25 l1 (ji10)).f2)], .int .i64 a0] rfl (by (try simp only [List.map_toArray, List.map_cons, List.map_nil]); first | done | (simp only [hji10]; rfl) | rfl | (simp only [List.length_drop, List.length_take]; rfl)) ?_; (with_reducible refine (arith_pair_point.calls ((rd_T25 l1 0).f0) ((rd_T25 l1 0).f1) ((rd_T25 l1 0).f2) ((rd_T25 l1 (ji10)).f0) ((rd_T25 l1 (ji10)).f1) ((rd_T25 l1 (ji10)).f2) a0 t124 _ A115.out).mono ?_); rintro e w120 ⟨rfl, hb⟩; refine ⟨_, rfl, ?_⟩; have n0_ := Aside0.mk (blk_below (g := gb113) (o := .cells #[.int .i64 0, .int .i64 0, .string (⟨#[]⟩ : ByteArray)] 25 (0, 0)) (by (with_reducible repeat (first | refine blk_drewN ?_ _ | refine blk_drew ?_ | refine blk_alloc ?_ _)); exact BK113.out) hb); have n1_ := Aside0.mk (blk_below (g := gb117) (o := .cells #[.int .i64 ((rd_T25 l1 0).f0), .int .i64 ((rd_T25 l1 0).f1), .string ((rd_T25 l1 0).f2), .int .i64 ((rd_T25 l1 (ji10)).f0), .int .i64 ((rd_T25 l1 (ji10)).f1), .string ((rd_T25 l1 (ji10)).f2)] 45 (0, 0)) (by (with_reducible repeat (first | refine blk_drewN ?_ _ | refine blk_drew ?_ | refine blk_alloc ?_ _)); exact BK117.out) hb); have n2_ := Aside0.mk (blk_below (g := gb119) (o := .cells #[.int .i64 t118, .int .i64 0, .string (⟨#[]⟩ : ByteArray)] 25 (0, 0)) (by (with_reducible repeat (first | refine blk_drewN ?_ _ | refine blk_drew ?_ | refine blk_alloc ?_ _)); exact BK119.out) hb); have n3_ := Aside0.mk (below_step (by repeat (first | (with_reducible first | exact HB.out | apply below_alloc | apply pw_below_drewN | apply below_drew1 | refine below_set ?_ GE113.out | refine below_set ?_ GE117.out | refine below_set ?_ GE119.out) | exact HB.out)) hb); clear BK113; clear BK117; clear BK119; clear HB; have BK113 := n0_; have BK117 := n1_; have BK119 := n2_; have HB := n3_; clear n0_ n1_ n2_ n3_; (try clear hb); (try clear hb2); (try clear hk); (try clear hi); have hnb121 := NB119_113.out; have hnc121 := NB113_119.out; have hcz122_0 : w120.cell? ⟨gb119, 0, none⟩ = some (.int .i64 t118) := (blk_cell BK119.out 0).trans rfl; have hcz122_1 : w120.cell? ⟨gb119, 1, none⟩ = some (.int .i64 0) := (blk_cell BK119.out 1).trans rfl; have hcz122_2 : w120.cell? ⟨gb119, 2, none⟩ = some (.string (⟨#[]⟩ : ByteArray)) := (blk_cell BK119.out 2).trans rfl; have hfz122_0 := blk_frozen BK119.out 0; have hfz122_1 := blk_frozen BK119.out 1; have hfz122_2 := blk_frozen BK119.out 2; have hcz123_0 : w120.cell? ⟨gb113, 0, none⟩ = some (.int .i64 0) := (blk_cell BK113.out 0).trans rfl; have hcz123_1 : w120.cell? ⟨gb113, 1, none⟩ = some (.int .i64 0) := (blk_cell BK113.out 1).trans rfl; have hcz123_2 : w120.cell? ⟨gb113, 2, none⟩ = some (.string (⟨#[]⟩ : ByteArray)) := (blk_cell BK113.out 2).trans rfl; have hfz123_0 := blk_frozen BK113.out 0; have hfz123_1 := blk_frozen BK113.out 1; have hfz123_2 := blk_frozen BK113.out 2))
                                      refine bodyPost_ret (results_ct rfl _ _ gb113 25 #[.int .i64 t118, .int .i64 t124, .string (⟨#[]⟩ : ByteArray)] (0, 0) _ rfl (by (with_reducible repeat (first | refine blk_drewN ?_ _ | refine blk_drew ?_ | refine blk_alloc ?_ _)); refine blk_put (cs := #[.int .i64 t118, .int .i64 t124, .string (⟨#[]⟩ : ByteArray)]) ?_ 2 _ rfl; (with_reducible repeat (first | refine blk_drewN ?_ _ | refine blk_drew ?_ | refine blk_alloc ?_ _)); refine blk_put (cs := #[.int .i64 t118, .int .i64 0, .string (⟨#[]⟩ : ByteArray)]) ?_ 1 _ rfl; (with_reducible repeat (first | refine blk_drewN ?_ _ | refine blk_drew ?_ | refine blk_alloc ?_ _)); refine blk_put (cs := #[.int .i64 0, .int .i64 0, .string (⟨#[]⟩ : ByteArray)]) ?_ 0 _ rfl; (with_reducible repeat (first | refine blk_drewN ?_ _ | refine blk_drew ?_ | refine blk_alloc ?_ _)); refine blk_far ?_ NB113_119.out _; (with_reducible repeat (first | refine blk_drewN ?_ _ | refine blk_drew ?_ | refine blk_alloc ?_ _)); exact BK113.out) Try.underlying25 rfl (by kernel_rfl)) rfl ?_
                                      exact ⟨by first | rfl | (simp [errW_none, errW_some] <;> rfl) | (simp only [← hji10]; first | rfl | (simp [errW_none, errW_some] <;> rfl)) | (simp [*, errW_none, errW_some] <;> rfl), by repeat (first | (with_reducible first | exact HB.out | apply below_alloc | apply pw_below_drewN | apply below_drew1 | refine below_set ?_ GE113.out | refine below_set ?_ GE117.out | refine below_set ?_ GE119.out) | exact HB.out)⟩
                                    · exact absurd (by decide) c116
            · rw [if_neg c12] at H
              exact absurd H (by simp)
          · rw [if_neg c11] at H
            exact absurd H (by simp)
        · rw [if_neg c9] at H
          exact absurd H (by simp)
end Go.Proofs.Ytbdengnadgofmaa.V
