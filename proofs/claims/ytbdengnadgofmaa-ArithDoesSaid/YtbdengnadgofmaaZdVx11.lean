import Derived.Test.YtbdengnadgofmaaZdVx0
import Derived.Test.YtbdengnadgofmaaZdVx8
import Derived.Test.YtbdengnadgofmaaZdVx9
import Derived.Test.YtbdengnadgofmaaZdVx10
namespace Go.Proofs.Ytbdengnadgofmaa.V
open Go.RowKit Go.Proofs.YtbdengnadgofmaaW.PrintWords Go.Proofs.YtbdengnadgofmaaW.PrintLast Go.Proofs.YtbdengnadgofmaaW.PrintMore
attribute [local go_sem] max2_int min2_int max_two min_two max_three min_three max_four min_four   -- for this text's walks alone
set_option linter.unusedVariables false
set_option linter.unusedSimpArgs false
/-! ### haspref03_Do: function 13 -/
mutual
def haspref03_Do.j0 : Nat → Int → List (S25) → Bool → Int → Int → ByteArray → Option (Int × Int × ByteArray × Int)
  | 0, _, _, _, _, _, _ => none
  | k + 1, x0, x1, x22, x147000, x147001, x147002 => if x22 = true then (some (x147000, x147001, x147002, 30)) else (if 0 < (x1.length : Int) then (if 0 ≤ (wrap64 ((x1.length : Int) - 1)) then (if (wrap64 ((x1.length : Int) - 1)) < (x1.length : Int) then (if ((rd_T25 x1 0).f0) = 0 then (haspref03_Do.j1 k x0 true x147000 x147001 x147002 ((rd_T25 x1 0).f0) ((rd_T25 x1 0).f1) ((rd_T25 x1 0).f2) ((rd_T25 x1 (wrap64 ((x1.length : Int) - 1))).f0) ((rd_T25 x1 (wrap64 ((x1.length : Int) - 1))).f1) ((rd_T25 x1 (wrap64 ((x1.length : Int) - 1))).f2)) else (haspref03_Do.j1 k x0 (((rd_T25 x1 (wrap64 ((x1.length : Int) - 1))).f0) == 0) x147000 x147001 x147002 ((rd_T25 x1 0).f0) ((rd_T25 x1 0).f1) ((rd_T25 x1 0).f2) ((rd_T25 x1 (wrap64 ((x1.length : Int) - 1))).f0) ((rd_T25 x1 (wrap64 ((x1.length : Int) - 1))).f1) ((rd_T25 x1 (wrap64 ((x1.length : Int) - 1))).f2))) else (none)) else (none)) else (none))
def haspref03_Do.j1 : Nat → Int → Bool → Int → Int → ByteArray → Int → Int → ByteArray → Int → Int → ByteArray → Option (Int × Int × ByteArray × Int)
  | 0, _, _, _, _, _, _, _, _, _, _, _ => none
  | k + 1, x0, x40, x147000, x147001, x147002, x152000, x152001, x152002, x153000, x153001, x153002 => if x40 = true then (some (x147000, x147001, x147002, 0)) else ((haspref03_One.f k x0 x152000).bind fun t153 => (if x152000 = x153000 then (haspref03_Do.j2 k x0 t153 (t153 == 0) x147000 x147001 x147002 x152000 x152001 x152002 x153000 x153001 x153002) else (haspref03_Do.j2 k x0 t153 true x147000 x147001 x147002 x152000 x152001 x152002 x153000 x153001 x153002)))
def haspref03_Do.j2 : Nat → Int → Int → Bool → Int → Int → ByteArray → Int → Int → ByteArray → Int → Int → ByteArray → Option (Int × Int × ByteArray × Int)
  | 0, _, _, _, _, _, _, _, _, _, _, _, _ => none
  | k + 1, x0, x9, x54, x147000, x147001, x147002, x152000, x152001, x152002, x153000, x153001, x153002 => if x54 = true then (some (x147000, x147001, x147002, 30)) else (if x0 = 12 then (if (wrap64 ((x152002.size : Int) + (x153002.size : Int))) > 200 then (some (x147000, x147001, x147002, 1)) else (if x152002.size + x153002.size ≤ 9223372036854775807 then (some (4, 0, x152002 ++ x153002, 0)) else (none))) else (if x0 = 14 then (if x152000 = 3 then ((haspref01_ToInt.f x152001).bind fun bt154 => (if bt154.2 = 0 then (some (x9, bt154.1, (⟨#[]⟩ : ByteArray), 0)) else (some (x147000, x147001, x147002, bt154.2)))) else (if 0 = 0 then (some (x9, x152001, (⟨#[]⟩ : ByteArray), 0)) else (some (x147000, x147001, x147002, 0)))) else (if x0 = 15 then (if x152000 = 2 then ((haspref01_OfInt.f x152001).bind fun t156 => (if 0 = 0 then (some (x9, t156, (⟨#[]⟩ : ByteArray), 0)) else (some (x147000, x147001, x147002, 0)))) else (if 0 = 0 then (some (x9, x152001, (⟨#[]⟩ : ByteArray), 0)) else (some (x147000, x147001, x147002, 0)))) else (if x9 = 2 then ((haspref03_Whole.f x0 x152001 x153001).bind fun bt157 => (if bt157.2 = 0 then (some (x9, bt157.1, (⟨#[]⟩ : ByteArray), 0)) else (some (x147000, x147001, x147002, bt157.2)))) else ((haspref03_point.f x0 x152001 x153001).bind fun t159 => (if 0 = 0 then (some (x9, t159, (⟨#[]⟩ : ByteArray), 0)) else (some (x147000, x147001, x147002, 0))))))))
end
def haspref03_Do.f (k : Nat) (a0 : Int) (l1 : List (S25)) : Option (Int × Int × ByteArray × Int) := (haspref03_Count.f k a0).bind fun t147 => (if t147 = 0 then (haspref03_Do.j0 k a0 l1 true 0 0 (⟨#[]⟩ : ByteArray)) else ((haspref03_Count.f k a0).bind fun t148 => (haspref03_Do.j0 k a0 l1 (t148 != (l1.length : Int)) 0 0 (⟨#[]⟩ : ByteArray))))
def haspref03_Do.T4 : Bool × List (List Nat × List Nat) := (true, [([], []), ([0], [0]), ([1], [1]), ([], []), ([], []), ([4], [4]), ([5], [5]), ([3, 6], [3, 6]), ([7], [7]), ([], []), ([], []), ([9, 2, 0, 1, 2, 9, 10], [2, 9]), ([10, 8, 11, 0, 1, 2, 3, 4, 5, 6, 7, 8, 9, 10, 11], [8, 10])])
def haspref03_Do.B4 : List Nat := [0, 1, 3, 0, 0, 16, 48, 120, 248, 0, 0, 1543, 4095]
theorem haspref03_Do.tab4 : rtab .any (opsOf Try.f13 4) = haspref03_Do.T4 := by kernel_rfl
theorem haspref03_Do.bits4 : waitsOk haspref03_Do.T4.2 haspref03_Do.B4 = true := by kernel_rfl
set_option maxHeartbeats 8000000 in
set_option maxRecDepth 100000 in
theorem haspref03_Do.calls (k : Nat) (a0 : Int) (A1 : Option Addr) (c1 : Nat) (l1 : List (S25)) (r1 : Int) (r2 : Int) (r3 : ByteArray) (r4 : Int) (w : World) (hr1 : Kd.C k25 w A1 l1.length l1) (hc1 : l1.length ≤ c1) (h : haspref03_Do.f k a0 l1 = some (r1, r2, r3, r4)) :
    Calls Try.prog 13 #[.int .i64 a0, .slice A1 l1.length c1] w fun e w' => e = .returned (.tuple #[.agg #[.int .i64 r1, .int .i64 r2, .string r3], .int .i64 r4]) ∧ Below w.heap.size w w' := by
  have hu25 := Try.underlying25
  have HR1 := Aside0.mk hr1
  have HC1 := Aside0.mk hc1
  clear hr1 hc1
  have HB := Aside0.mk (Below.refl w.heap.size w)
  have H : ((haspref03_Count.f k a0).bind fun t147 => (if t147 = 0 then (haspref03_Do.j0 k a0 l1 true 0 0 (⟨#[]⟩ : ByteArray)) else ((haspref03_Count.f k a0).bind fun t148 => (haspref03_Do.j0 k a0 l1 (t148 != (l1.length : Int)) 0 0 (⟨#[]⟩ : ByteArray))))) = some (r1, r2, r3, r4) := h
  clear h
  have HC3 := Aside0.mk H
  clear H
  go_enter Try.func13, Try.ntmps13
  go_upto_region 2 with (first | ((with_reducible refine gate_dst (N := 4) rfl ?_); (try (refine gate_guard (by rfl) ?_; dsimp only)); refine box_event ?hg (N := 4) ?hd (cs := #[.int .i64 0, .int .i64 0, .string (⟨#[]⟩ : ByteArray)]) (t := 25) ?hr ?_; (case hd => rfl); (case hg => rfl); (case hr => first | (go_simp; done) | (go_simp; rfl)); intro gb145 hg w4 hbox hb; have n0_ := Aside0.mk (below_step (by repeat (first | (with_reducible first | exact HB.out | apply below_alloc | apply pw_below_drewN | apply below_drew1) | exact HB.out)) hb); have n1_ := Aside0.mk (hbox); have n2_ := Aside0.mk ((by rw [hg]; exact (below_size (by repeat (first | (with_reducible first | exact HB.out | apply below_alloc | apply pw_below_drewN | apply below_drew1) | exact HB.out))) : w.heap.size ≤ gb145)); have n3_ := Aside0.mk ((by rw [hg]; exact (below_size (by repeat (first | (with_reducible first | exact HB.out | apply below_alloc | apply pw_below_drewN | apply below_drew1) | exact HB.out))) : w.heap.size ≤ gb145)); clear HB; have HB := n0_; have BK145 := n1_; have GW145 := n2_; have GE145 := n3_; clear n0_ n1_ n2_ n3_; clear hb hbox hg) | ((with_reducible refine gate_dst (N := 6) rfl ?_); (try (refine gate_guard (by rfl) ?_; dsimp only)); refine box_event ?hg (N := 6) ?hd (cs := #[.int .i64 0, .int .i64 0, .string (⟨#[]⟩ : ByteArray)]) (t := 25) ?hr ?_; (case hd => rfl); (case hg => rfl); (case hr => first | (go_simp; done) | (go_simp; rfl)); intro gb146 hg w5 hbox hb; have n0_ := Aside0.mk (blk_below (g := gb145) (o := .cells #[.int .i64 0, .int .i64 0, .string (⟨#[]⟩ : ByteArray)] 25 (0, 0)) (by (with_reducible repeat (first | refine blk_drewN ?_ _ | refine blk_drew ?_ | refine blk_alloc ?_ _)); exact BK145.out) hb); have n1_ := Aside0.mk (below_step (by repeat (first | (with_reducible first | exact HB.out | apply below_alloc | apply pw_below_drewN | apply below_drew1 | refine below_set ?_ GE145.out) | exact HB.out)) hb); have n2_ := Aside0.mk (hbox); have n3_ := Aside0.mk ((by rw [hg]; exact (below_size (by repeat (first | (with_reducible first | exact HB.out | apply below_alloc | apply pw_below_drewN | apply below_drew1 | refine below_set ?_ GE145.out) | exact HB.out))) : w.heap.size ≤ gb146)); have n4_ := Aside0.mk ((by rw [hg]; exact (below_size (by repeat (first | (with_reducible first | exact HB.out | apply below_alloc | apply pw_below_drewN | apply below_drew1 | refine below_set ?_ GE145.out) | exact HB.out))) : w.heap.size ≤ gb146)); have n5_ := Aside0.mk ((by rw [hg]; exact Nat.ne_of_lt (blk_lt (g := gb145) (o := .cells #[.int .i64 0, .int .i64 0, .string (⟨#[]⟩ : ByteArray)] 25 (0, 0)) (by (with_reducible repeat (first | refine blk_drewN ?_ _ | refine blk_drew ?_ | refine blk_alloc ?_ _)); exact BK145.out)) : gb145 ≠ gb146)); have n6_ := Aside0.mk ((by rw [hg]; exact Nat.ne_of_gt (blk_lt (g := gb145) (o := .cells #[.int .i64 0, .int .i64 0, .string (⟨#[]⟩ : ByteArray)] 25 (0, 0)) (by (with_reducible repeat (first | refine blk_drewN ?_ _ | refine blk_drew ?_ | refine blk_alloc ?_ _)); exact BK145.out)) : gb146 ≠ gb145)); clear BK145; clear HB; have BK145 := n0_; have HB := n1_; have BK146 := n2_; have GW146 := n3_; have GE146 := n4_; have NB145_146 := n5_; have NB146_145 := n6_; clear n0_ n1_ n2_ n3_ n4_ n5_ n6_; clear hb hbox hg; have hnb6 := NB146_145.out; have hnc6 := NB145_146.out; have hcz7_0 : w5.cell? ⟨gb146, 0, none⟩ = some (.int .i64 0) := (blk_cell BK146.out 0).trans rfl; have hcz7_1 : w5.cell? ⟨gb146, 1, none⟩ = some (.int .i64 0) := (blk_cell BK146.out 1).trans rfl; have hcz7_2 : w5.cell? ⟨gb146, 2, none⟩ = some (.string (⟨#[]⟩ : ByteArray)) := (blk_cell BK146.out 2).trans rfl; have hfz7_0 := blk_frozen BK146.out 0; have hfz7_1 := blk_frozen BK146.out 1; have hfz7_2 := blk_frozen BK146.out 2))
  (try simp only [Act.put, List.setIfInBounds_toArray, List.set_cons_zero, List.set_cons_succ])
  go_cut [22] (fun v22 wc => ∃ (kq : Nat) (x22_2 : Bool), v22 = .bool x22_2 ∧ Aside0 (haspref03_Do.j0 kq a0 l1 x22_2 0 0 (⟨#[]⟩ : ByteArray) = some (r1, r2, r3, r4)) ∧ Aside0 (kq ≤ k) ∧ Aside0 (wc.heap[gb145]? = some (.cells #[.int .i64 0, .int .i64 0, .string (⟨#[]⟩ : ByteArray)] 25 (0, 0))) ∧ Aside0 (wc.heap[gb146]? = some (.cells #[.int .i64 0, .int .i64 0, .string (⟨#[]⟩ : ByteArray)] 25 (0, 0))) ∧ Aside0 (Below w.heap.size w wc))
  case first =>
    have H := HC3.out
    clear HC3
    replace H := Option.bind_eq_some_iff.mp H
    obtain ⟨t147, A80, H⟩ := H
    replace H : (if t147 = 0 then (haspref03_Do.j0 k a0 l1 true 0 0 (⟨#[]⟩ : ByteArray)) else ((haspref03_Count.f k a0).bind fun t148 => (haspref03_Do.j0 k a0 l1 (t148 != (l1.length : Int)) 0 0 (⟨#[]⟩ : ByteArray)))) = some (r1, r2, r3, r4) := H
    have A8 := Aside0.mk A80
    clear A80
    by_cases c9 : t147 = 0
    · rw [if_pos c9] at H
      have c9b0 : (t147 == 0) = true := beq_iff_eq.mpr c9
      have c9b1 : (t147 != 0) = false := bne_eq_false_iff_eq.mpr c9
      clear c9
      (first | rw [c9b0] | (simp only [i64_w, i32_w]; rw [c9b0]) | skip)
      have H' := Aside0.mk H
      clear H
      go_wp2_with (first | ((with_reducible refine gate_callee (f := 24) rfl ?_); refine goesL_ (some 14) rfl rfl Try.func24 (by kernel_rfl) rfl #[.int .i64 a0] rfl (by (try simp only [List.map_toArray, List.map_cons, List.map_nil]); first | done | rfl | (simp only [List.length_drop, List.length_take]; rfl)) ?_; (with_reducible refine (haspref03_Count.calls k a0 t147 _ A8.out).mono ?_); rintro e w' ⟨rfl, ⟨nd, rfl⟩⟩; refine ⟨_, rfl, ?_⟩))
      go_meet
      case rel => exact ⟨_, (true), (by first | rfl | (simp; done) | (simp [*]; done) | (simp; exact isEmpty_bne _) | (simp [*]; exact isEmpty_bne _)), H', ⟨by first | omega | exact Nat.le_refl _⟩, ⟨by (with_reducible repeat (first | refine blk_drewN ?_ _ | refine blk_drew ?_ | refine blk_alloc ?_ _)); refine blk_far ?_ NB145_146.out _; (with_reducible repeat (first | refine blk_drewN ?_ _ | refine blk_drew ?_ | refine blk_alloc ?_ _)); refine blk_far ?_ NB145_146.out _; (with_reducible repeat (first | refine blk_drewN ?_ _ | refine blk_drew ?_ | refine blk_alloc ?_ _)); refine blk_far ?_ NB145_146.out _; (with_reducible repeat (first | refine blk_drewN ?_ _ | refine blk_drew ?_ | refine blk_alloc ?_ _)); exact BK145.out⟩, ⟨by (with_reducible repeat (first | refine blk_drewN ?_ _ | refine blk_drew ?_ | refine blk_alloc ?_ _)); refine blk_put (cs := #[.int .i64 0, .int .i64 0, .string (⟨#[]⟩ : ByteArray)]) ?_ 2 _ rfl; (with_reducible repeat (first | refine blk_drewN ?_ _ | refine blk_drew ?_ | refine blk_alloc ?_ _)); refine blk_put (cs := #[.int .i64 0, .int .i64 0, .string (⟨#[]⟩ : ByteArray)]) ?_ 1 _ rfl; (with_reducible repeat (first | refine blk_drewN ?_ _ | refine blk_drew ?_ | refine blk_alloc ?_ _)); refine blk_put (cs := #[.int .i64 0, .int .i64 0, .string (⟨#[]⟩ : ByteArray)]) ?_ 0 _ rfl; (with_reducible repeat (first | refine blk_drewN ?_ _ | refine blk_drew ?_ | refine blk_alloc ?_ _)); exact BK146.out⟩, ⟨by repeat (first | (with_reducible first | exact HB.out | apply below_alloc | apply pw_below_drewN | apply below_drew1 | refine below_set ?_ GE145.out | refine below_set ?_ GE146.out) | exact HB.out)⟩⟩
    · rw [if_neg c9] at H
      have c9b0 : (t147 == 0) = false := beq_eq_false_iff_ne.mpr c9
      have c9b1 : (t147 != 0) = true := bne_iff_ne.mpr c9
      (first | rw [c9b0] | (simp only [i64_w, i32_w]; rw [c9b0]) | skip)
      replace H := Option.bind_eq_some_iff.mp H
      obtain ⟨t148, A100, H⟩ := H
      replace H : (haspref03_Do.j0 k a0 l1 (t148 != (l1.length : Int)) 0 0 (⟨#[]⟩ : ByteArray)) = some (r1, r2, r3, r4) := H
      have A10 := Aside0.mk A100
      clear A100
      have H' := Aside0.mk H
      clear H
      go_wp2_with (first | ((with_reducible refine gate_callee (f := 24) rfl ?_); refine goesL_ (some 14) rfl rfl Try.func24 (by kernel_rfl) rfl #[.int .i64 a0] rfl (by (try simp only [List.map_toArray, List.map_cons, List.map_nil]); first | done | rfl | (simp only [List.length_drop, List.length_take]; rfl)) ?_; (with_reducible refine (haspref03_Count.calls k a0 t147 _ A8.out).mono ?_); rintro e w' ⟨rfl, ⟨nd, rfl⟩⟩; refine ⟨_, rfl, ?_⟩) | (go_at_call 24; (with_reducible refine (haspref03_Count.calls k a0 t148 _ A10.out).mono ?_); rintro e w' ⟨rfl, ⟨nd, rfl⟩⟩))
      go_meet
      case rel => exact ⟨_, ((t148 != (l1.length : Int))), (by first | rfl | (simp; done) | (simp [*]; done) | (simp; exact isEmpty_bne _) | (simp [*]; exact isEmpty_bne _)), H', ⟨by first | omega | exact Nat.le_refl _⟩, ⟨by (with_reducible repeat (first | refine blk_drewN ?_ _ | refine blk_drew ?_ | refine blk_alloc ?_ _)); refine blk_far ?_ NB145_146.out _; (with_reducible repeat (first | refine blk_drewN ?_ _ | refine blk_drew ?_ | refine blk_alloc ?_ _)); refine blk_far ?_ NB145_146.out _; (with_reducible repeat (first | refine blk_drewN ?_ _ | refine blk_drew ?_ | refine blk_alloc ?_ _)); refine blk_far ?_ NB145_146.out _; (with_reducible repeat (first | refine blk_drewN ?_ _ | refine blk_drew ?_ | refine blk_alloc ?_ _)); exact BK145.out⟩, ⟨by (with_reducible repeat (first | refine blk_drewN ?_ _ | refine blk_drew ?_ | refine blk_alloc ?_ _)); refine blk_put (cs := #[.int .i64 0, .int .i64 0, .string (⟨#[]⟩ : ByteArray)]) ?_ 2 _ rfl; (with_reducible repeat (first | refine blk_drewN ?_ _ | refine blk_drew ?_ | refine blk_alloc ?_ _)); refine blk_put (cs := #[.int .i64 0, .int .i64 0, .string (⟨#[]⟩ : ByteArray)]) ?_ 1 _ rfl; (with_reducible repeat (first | refine blk_drewN ?_ _ | refine blk_drew ?_ | refine blk_alloc ?_ _)); refine blk_put (cs := #[.int .i64 0, .int .i64 0, .string (⟨#[]⟩ : ByteArray)]) ?_ 0 _ rfl; (with_reducible repeat (first | refine blk_drewN ?_ _ | refine blk_drew ?_ | refine blk_alloc ?_ _)); exact BK146.out⟩, ⟨by repeat (first | (with_reducible first | exact HB.out | apply below_alloc | apply pw_below_drewN | apply below_drew1 | refine below_set ?_ GE145.out | refine below_set ?_ GE146.out) | exact HB.out)⟩⟩
  case rest =>
    clear HC3
    try clear c1
    try clear c2
    try clear p2
    try clear c6
    try clear c9
    try clear c9b0
    try clear c9b1
    try clear hcz7_0
    try clear hcz7_1
    try clear hcz7_2
    try clear hfz7_0
    try clear hfz7_1
    try clear hfz7_2
    obtain ⟨kq, x22_2, rfl, HA, HJ2, BK145, BK146, HB⟩ := hcut
    cases kq with
    | zero => exact absurd HA.out (by simp [haspref03_Do.j0])
    | succ kj2 =>
      have H := HA.out
      clear HA
      simp only [haspref03_Do.j0] at H
      by_cases c11 : x22_2 = true
      · subst c11
        have H1 : (some (0, 0, (⟨#[]⟩ : ByteArray), 30)) = some (r1, r2, r3, r4) := by rw [if_pos rfl] at H; exact H
        clear H
        have H := H1
        clear H1
        simp only [Option.some.injEq, Prod.mk.injEq] at H
        obtain ⟨rfl, rfl, rfl, rfl⟩ := H
        have hnb12 := NB146_145.out
        have hnc12 := NB145_146.out
        have hcz13_0 : wc.cell? ⟨gb146, 0, none⟩ = some (.int .i64 0) := (blk_cell BK146.out 0).trans rfl
        have hcz13_1 : wc.cell? ⟨gb146, 1, none⟩ = some (.int .i64 0) := (blk_cell BK146.out 1).trans rfl
        have hcz13_2 : wc.cell? ⟨gb146, 2, none⟩ = some (.string (⟨#[]⟩ : ByteArray)) := (blk_cell BK146.out 2).trans rfl
        have hfz13_0 := blk_frozen BK146.out 0
        have hfz13_1 := blk_frozen BK146.out 1
        have hfz13_2 := blk_frozen BK146.out 2
        have hcz14_0 : wc.cell? ⟨gb145, 0, none⟩ = some (.int .i64 0) := (blk_cell BK145.out 0).trans rfl
        have hcz14_1 : wc.cell? ⟨gb145, 1, none⟩ = some (.int .i64 0) := (blk_cell BK145.out 1).trans rfl
        have hcz14_2 : wc.cell? ⟨gb145, 2, none⟩ = some (.string (⟨#[]⟩ : ByteArray)) := (blk_cell BK145.out 2).trans rfl
        have hfz14_0 := blk_frozen BK145.out 0
        have hfz14_1 := blk_frozen BK145.out 1
        have hfz14_2 := blk_frozen BK145.out 2
        go_wp2
        refine bodyPost_ret (results_ct rfl _ _ gb145 25 #[.int .i64 0, .int .i64 0, .string (⟨#[]⟩ : ByteArray)] (0, 0) _ rfl (by (with_reducible repeat (first | refine blk_drewN ?_ _ | refine blk_drew ?_ | refine blk_alloc ?_ _)); refine blk_put (cs := #[.int .i64 0, .int .i64 0, .string (⟨#[]⟩ : ByteArray)]) ?_ 2 _ rfl; (with_reducible repeat (first | refine blk_drewN ?_ _ | refine blk_drew ?_ | refine blk_alloc ?_ _)); refine blk_put (cs := #[.int .i64 0, .int .i64 0, .string (⟨#[]⟩ : ByteArray)]) ?_ 1 _ rfl; (with_reducible repeat (first | refine blk_drewN ?_ _ | refine blk_drew ?_ | refine blk_alloc ?_ _)); refine blk_put (cs := #[.int .i64 0, .int .i64 0, .string (⟨#[]⟩ : ByteArray)]) ?_ 0 _ rfl; (with_reducible repeat (first | refine blk_drewN ?_ _ | refine blk_drew ?_ | refine blk_alloc ?_ _)); exact BK145.out) Try.underlying25 rfl (by kernel_rfl)) rfl ?_
        exact ⟨by first | rfl | (simp [errW_none, errW_some] <;> rfl) | (simp [*, errW_none, errW_some] <;> rfl), by repeat (first | (with_reducible first | exact HB.out | apply below_alloc | apply pw_below_drewN | apply below_drew1 | refine below_set ?_ GE145.out | refine below_set ?_ GE146.out) | exact HB.out)⟩
      · replace c11 := Bool.eq_false_iff.mpr c11
        subst c11
        have H1 : (if 0 < (l1.length : Int) then (if 0 ≤ (wrap64 ((l1.length : Int) - 1)) then (if (wrap64 ((l1.length : Int) - 1)) < (l1.length : Int) then (if ((rd_T25 l1 0).f0) = 0 then (haspref03_Do.j1 kj2 a0 true 0 0 (⟨#[]⟩ : ByteArray) ((rd_T25 l1 0).f0) ((rd_T25 l1 0).f1) ((rd_T25 l1 0).f2) ((rd_T25 l1 (wrap64 ((l1.length : Int) - 1))).f0) ((rd_T25 l1 (wrap64 ((l1.length : Int) - 1))).f1) ((rd_T25 l1 (wrap64 ((l1.length : Int) - 1))).f2)) else (haspref03_Do.j1 kj2 a0 (((rd_T25 l1 (wrap64 ((l1.length : Int) - 1))).f0) == 0) 0 0 (⟨#[]⟩ : ByteArray) ((rd_T25 l1 0).f0) ((rd_T25 l1 0).f1) ((rd_T25 l1 0).f2) ((rd_T25 l1 (wrap64 ((l1.length : Int) - 1))).f0) ((rd_T25 l1 (wrap64 ((l1.length : Int) - 1))).f1) ((rd_T25 l1 (wrap64 ((l1.length : Int) - 1))).f2))) else (none)) else (none)) else (none)) = some (r1, r2, r3, r4) := by rw [if_neg (show ¬ (false = true) by decide)] at H; exact H
        clear H
        have H := H1
        clear H1
        by_cases c15 : 0 < (l1.length : Int)
        · rw [if_pos c15] at H
          have c15b0 : decide (0 < (l1.length : Int)) = true := decide_eq_true c15
          have c15b1 : decide (0 < l1.length) = true := decide_eq_true (by omega)
          clear c15
          obtain ⟨ji16, hji16⟩ : ∃ j_ : Int, (wrap64 ((l1.length : Int) - 1)) = j_ := ⟨_, rfl⟩
          replace H : (if 0 ≤ (ji16) then (if (ji16) < (l1.length : Int) then (if ((rd_T25 l1 0).f0) = 0 then (haspref03_Do.j1 kj2 a0 true 0 0 (⟨#[]⟩ : ByteArray) ((rd_T25 l1 0).f0) ((rd_T25 l1 0).f1) ((rd_T25 l1 0).f2) ((rd_T25 l1 (ji16)).f0) ((rd_T25 l1 (ji16)).f1) ((rd_T25 l1 (ji16)).f2)) else (haspref03_Do.j1 kj2 a0 (((rd_T25 l1 (ji16)).f0) == 0) 0 0 (⟨#[]⟩ : ByteArray) ((rd_T25 l1 0).f0) ((rd_T25 l1 0).f1) ((rd_T25 l1 0).f2) ((rd_T25 l1 (ji16)).f0) ((rd_T25 l1 (ji16)).f1) ((rd_T25 l1 (ji16)).f2))) else (none)) else (none)) = some (r1, r2, r3, r4) := by first | (rw [hji16] at H; exact H) | (simp only [hji16] at H ⊢; exact H)
          have hji16w : (IntKind.i64.wrap ((l1.length : Int) - 1)) = ji16 := (i64_w _).trans hji16
          by_cases c17 : 0 ≤ (ji16)
          · rw [if_pos c17] at H
            have c17b0 : decide (0 ≤ (ji16)) = true := decide_eq_true c17
            clear c17
            by_cases c18 : (ji16) < (l1.length : Int)
            · rw [if_pos c18] at H
              have c18b0 : decide ((ji16) < (l1.length : Int)) = true := decide_eq_true c18
              clear c18
              have HC19 := Aside0.mk H
              clear H
              try go_wp2
              have n0_ := Aside0.mk (blk_drew BK145.out)
              have n1_ := Aside0.mk (blk_drew BK146.out)
              have n2_ := Aside0.mk (below_drew1 HB.out)
              clear BK145
              clear BK146
              clear HB
              have BK145 := n0_
              have BK146 := n1_
              have HB := n2_
              clear n0_ n1_ n2_
              have p149 : 0 ≤ (0 : Int) := (by omega)
              have q149 : 0 < (l1.length : Int) := of_decide_eq_true (by first | (with_reducible assumption) | assumption)
              obtain ⟨ad149, e149, hx149_0, hx149_1, hx149_2⟩ := at_T25 HR1.out 0 p149 q149
              have hw149_2 := hx149_2
              (try rw [show ((0 : Int)).toNat = 0 from rfl] at hw149_2)
              (try rw [show 0 * 3 = 0 from rfl] at hw149_2)
              (try rw [Addr.add_zero'] at hw149_2)
              have hw149_1 := hx149_1
              (try rw [show ((0 : Int)).toNat = 0 from rfl] at hw149_1)
              (try rw [show 0 * 3 = 0 from rfl] at hw149_1)
              (try rw [Addr.add_zero'] at hw149_1)
              have hw149_0 := hx149_0
              (try rw [show ((0 : Int)).toNat = 0 from rfl] at hw149_0)
              (try rw [show 0 * 3 = 0 from rfl] at hw149_0)
              (try rw [Addr.add_zero'] at hw149_0)
              cases e149
              have qi149 : (0 < l1.length) = True := eq_true (by omega)
              (try rw [show ((0 : Int)).toNat = 0 from rfl] at hx149_0)
              (try rw [show 0 * 3 = 0 from rfl] at hx149_0)
              (try rw [Addr.add_zero'] at hx149_0)
              (try rw [show ((0 : Int)).toNat = 0 from rfl] at hx149_1)
              (try rw [show 0 * 3 = 0 from rfl] at hx149_1)
              (try rw [Addr.add_zero'] at hx149_1)
              (try rw [show ((0 : Int)).toNat = 0 from rfl] at hx149_2)
              (try rw [show 0 * 3 = 0 from rfl] at hx149_2)
              (try rw [Addr.add_zero'] at hx149_2)
              replace hx149_0 := (HB.out.cell (World.block_lt_of_cell? w _ hx149_0)).trans hx149_0
              replace hx149_1 := (HB.out.cell (World.block_lt_of_cell? w _ hx149_1)).trans hx149_1
              replace hx149_2 := (HB.out.cell (World.block_lt_of_cell? w _ hx149_2)).trans hx149_2
              replace p149 := eq_true p149
              replace q149 := eq_true q149
              have p150 : 0 ≤ ((ji16) : Int) := of_decide_eq_true (by first | (with_reducible assumption) | assumption)
              have q150 : (ji16) < (l1.length : Int) := of_decide_eq_true (by first | (with_reducible assumption) | assumption)
              obtain ⟨ad150, e150, hx150_0, hx150_1, hx150_2⟩ := at_T25 HR1.out (ji16) p150 q150
              have hw150_2 := hx150_2
              have hw150_1 := hx150_1
              have hw150_0 := hx150_0
              obtain rfl : ad149 = ad150 := (by injection e150)
              replace hx150_0 := (HB.out.cell (World.block_lt_of_cell? w _ hx150_0)).trans hx150_0
              replace hx150_1 := (HB.out.cell (World.block_lt_of_cell? w _ hx150_1)).trans hx150_1
              replace hx150_2 := (HB.out.cell (World.block_lt_of_cell? w _ hx150_2)).trans hx150_2
              replace p150 := eq_true p150
              replace q150 := eq_true q150
              refine start_ (n := 13) (S := fun w' => w'.cell? ad149 = some (.int .i64 ((rd_T25 l1 0).f0)) ∧ w'.cell? ⟨ad149.block, ad149.off + 1, none⟩ = some (.int .i64 ((rd_T25 l1 0).f1)) ∧ w'.cell? ⟨ad149.block, ad149.off + 2, none⟩ = some (.string ((rd_T25 l1 0).f2)) ∧ w'.cell? (ad149.add (((ji16)).toNat * 3)) = some (.int .i64 ((rd_T25 l1 (ji16)).f0)) ∧ w'.cell? ⟨(ad149.add (((ji16)).toNat * 3)).block, (ad149.add (((ji16)).toNat * 3)).off + 1, none⟩ = some (.int .i64 ((rd_T25 l1 (ji16)).f1)) ∧ w'.cell? ⟨(ad149.add (((ji16)).toNat * 3)).block, (ad149.add (((ji16)).toNat * 3)).off + 2, none⟩ = some (.string ((rd_T25 l1 (ji16)).f2))) (ds := []) #[false, false, false, false, false, false, false, false, false, false, false, false, false] (by kernel_rfl) rfl rfl ⟨((HB.out.cell (World.block_lt_of_cell? w _ hw149_0)).trans hw149_0), ((HB.out.cell (World.block_lt_of_cell? w _ hw149_1)).trans hw149_1), ((HB.out.cell (World.block_lt_of_cell? w _ hw149_2)).trans hw149_2), ((HB.out.cell (World.block_lt_of_cell? w _ hw150_0)).trans hw150_0), ((HB.out.cell (World.block_lt_of_cell? w _ hw150_1)).trans hw150_1), ((HB.out.cell (World.block_lt_of_cell? w _ hw150_2)).trans hw150_2)⟩ (fun hHeld => ?_); refine with_tabW haspref03_Do.tab4 haspref03_Do.bits4 (fun HT_ HW_ => ?_)
              generalize wc.drew = w20 at BK145 BK146 HB hx149_0 hx149_1 hx149_2 hx150_0 hx150_1 hx150_2 hHeld ⊢
              refine pure_ (i := 0) (N := some 24) (v := ?_) (a' := ?_) #[true, false, false, false, false, false, false, false, false, false, false, false, false] rfl rfl (any_of HT_.out (by kernel_rfl)) (fun _ _ _ h => h) (Or.inl ⟨by rfl, ?_⟩) ?_ ?_
              rotate_left
              · intro w'
                go_simp
                with_reducible rfl
              rotate_left
              · simp only [Act.put, List.setIfInBounds_toArray, List.set_cons_zero, List.set_cons_succ, i64_w, i32_w]
                rfl
              refine pure_ (i := 1) (N := some 25) (v := ?_) (a' := ?_) #[true, true, false, false, false, false, false, false, false, false, false, false, false] rfl rfl (any_of HT_.out (by kernel_rfl)) (fun _ _ _ h => h) (Or.inl ⟨by rfl, ?_⟩) ?_ ?_
              rotate_left
              · intro w'
                go_simp
                with_reducible rfl
              rotate_left
              · simp only [Act.put, List.setIfInBounds_toArray, List.set_cons_zero, List.set_cons_succ, i64_w, i32_w]
                rfl
              refine pure_ (i := 3) (N := some 27) (v := ?_) (a' := ?_) #[true, true, false, true, false, false, false, false, false, false, false, false, false] rfl rfl (any_of HT_.out (by kernel_rfl)) (fun _ _ _ h => h) (Or.inl ⟨by rfl, ?_⟩) ?_ ?_
              rotate_left
              · intro w'
                go_simp
                with_reducible rfl
              rotate_left
              · simp only [Act.put, List.setIfInBounds_toArray, List.set_cons_zero, List.set_cons_succ, i64_w, i32_w]
                rfl
              refine pure_ (i := 4) (N := some 28) (v := ?_) (a' := ?_) #[true, true, false, true, true, false, false, false, false, false, false, false, false] rfl rfl (any_of HT_.out (by kernel_rfl)) (fun _ _ _ h => h) (Or.inl ⟨by rfl, ?_⟩) ?_ ?_
              rotate_left
              · intro w'
                go_simp
                with_reducible rfl
              rotate_left
              · simp only [Act.put, List.setIfInBounds_toArray, List.set_cons_zero, List.set_cons_succ, i64_w, i32_w]
                rfl
              refine pure_ (i := 5) (N := some 29) (v := ?_) (a' := ?_) #[true, true, false, true, true, true, false, false, false, false, false, false, false] rfl rfl (any_of HT_.out (by kernel_rfl)) (fun _ _ _ h => h) (Or.inl ⟨by rfl, ?_⟩) ?_ ?_
              rotate_left
              · intro w'
                go_simp
                with_reducible rfl
              rotate_left
              · simp only [Act.put, List.setIfInBounds_toArray, List.set_cons_zero, List.set_cons_succ, i64_w, i32_w]
                rfl
              refine pure_ (i := 6) (N := some 30) (v := ?_) (a' := ?_) #[true, true, false, true, true, true, true, false, false, false, false, false, false] rfl rfl (any_of HT_.out (by kernel_rfl)) (fun _ _ _ h => h) (Or.inl ⟨by rfl, ?_⟩) ?_ ?_
              rotate_left
              · intro w'
                go_simp
                with_reducible rfl
              rotate_left
              · simp only [Act.put, List.setIfInBounds_toArray, List.set_cons_zero, List.set_cons_succ, i64_w, i32_w]
                rfl
              refine pure_ (i := 7) (N := some 31) (v := ?_) (a' := ?_) #[true, true, false, true, true, true, true, true, false, false, false, false, false] rfl rfl (any_of HT_.out (by kernel_rfl)) (fun _ _ _ h => h) (Or.inl ⟨by rfl, ?_⟩) ?_ ?_
              rotate_left
              · intro w'
                go_simp
                with_reducible rfl
              rotate_left
              · simp only [Act.put, List.setIfInBounds_toArray, List.set_cons_zero, List.set_cons_succ, i64_w, i32_w]
                rfl
              refine take_ (i := 2) (N := some 26) (v := ?_) (a' := ?_) #[true, true, true, true, true, true, true, true, false, false, false, false, false] rfl rfl (take_ofW HT_.out HW_.out (by kernel_rfl)) (fun _ _ _ h => h) (Or.inl ⟨by rfl, ?_⟩) hHeld ?_ ?_
              rotate_left
              · rintro w' ⟨s0, s1, s2, s3, s4, s5⟩
                go_simp
                with_reducible rfl
              rotate_left
              · simp only [Act.put, List.setIfInBounds_toArray, List.set_cons_zero, List.set_cons_succ, i64_w, i32_w]
                rfl
              refine take_ (i := 8) (N := some 32) (v := ?_) (a' := ?_) #[true, true, true, true, true, true, true, true, true, false, false, false, false] rfl rfl (take_ofW HT_.out HW_.out (by kernel_rfl)) (fun _ _ _ h => h) (Or.inl ⟨by rfl, ?_⟩) hHeld ?_ ?_
              rotate_left
              · rintro w' ⟨s0, s1, s2, s3, s4, s5⟩
                go_simp
                with_reducible rfl
              rotate_left
              · simp only [Act.put, List.setIfInBounds_toArray, List.set_cons_zero, List.set_cons_succ, i64_w, i32_w]
                rfl
              refine join_ (σ := Nat × Nat) 2 #[true, true, true, true, true, true, true, true, true, true, true, false, false] (fun s_ => [(7, .pointer (some ⟨s_.1, 0, none⟩)), (8, .pointer (some ⟨s_.2, 0, none⟩))]) (fun s_ w' => (w'.cell? ad149 = some (.int .i64 ((rd_T25 l1 0).f0)) ∧ w'.cell? ⟨ad149.block, ad149.off + 1, none⟩ = some (.int .i64 ((rd_T25 l1 0).f1)) ∧ w'.cell? ⟨ad149.block, ad149.off + 2, none⟩ = some (.string ((rd_T25 l1 0).f2)) ∧ w'.cell? (ad149.add (((ji16)).toNat * 3)) = some (.int .i64 ((rd_T25 l1 (ji16)).f0)) ∧ w'.cell? ⟨(ad149.add (((ji16)).toNat * 3)).block, (ad149.add (((ji16)).toNat * 3)).off + 1, none⟩ = some (.int .i64 ((rd_T25 l1 (ji16)).f1)) ∧ w'.cell? ⟨(ad149.add (((ji16)).toNat * 3)).block, (ad149.add (((ji16)).toNat * 3)).off + 2, none⟩ = some (.string ((rd_T25 l1 (ji16)).f2))) ∧ (w'.heap[gb145]? = some (.cells #[.int .i64 0, .int .i64 0, .string (⟨#[]⟩ : ByteArray)] 25 (0, 0))) ∧ (w'.heap[gb146]? = some (.cells #[.int .i64 0, .int .i64 0, .string (⟨#[]⟩ : ByteArray)] 25 (0, 0))) ∧ (w'.heap[s_.1]? = some (.cells #[.int .i64 0, .int .i64 0, .string (⟨#[]⟩ : ByteArray)] 25 (0, 0))) ∧ (w'.heap[s_.2]? = some (.cells #[.int .i64 0, .int .i64 0, .string (⟨#[]⟩ : ByteArray)] 25 (0, 0))) ∧ (w.heap.size ≤ s_.1) ∧ (w.heap.size ≤ s_.1) ∧ (gb145 ≠ s_.1) ∧ (s_.1 ≠ gb145) ∧ (gb146 ≠ s_.1) ∧ (s_.1 ≠ gb146) ∧ (s_.2 ≠ s_.1) ∧ (s_.1 ≠ s_.2) ∧ (w.heap.size ≤ s_.2) ∧ (w.heap.size ≤ s_.2) ∧ (gb145 ≠ s_.2) ∧ (s_.2 ≠ gb145) ∧ (gb146 ≠ s_.2) ∧ (s_.2 ≠ gb146) ∧ (Below w.heap.size w w')) ?_ ?_
              rotate_left
              · intro hCont
                refine two_ (i := 9) (j := 10) (Ni := some 7) (Nj := some 8) #[true, true, true, true, true, true, true, true, true, true, false, false, false] #[true, true, true, true, true, true, true, true, true, false, true, false, false] rfl rfl rfl rfl (two_of HT_.out (by kernel_rfl)) (by decide) (by decide) (fun K hK => ?_) (fun K hK => ?_)
                · skip
                  refine box_step ?hg (N := 7) ?hd (cs := #[.int .i64 0, .int .i64 0, .string (⟨#[]⟩ : ByteArray)]) (t := 25) ?hr ?_; (case hd => rfl); (case hg => rfl); (case hr => first | (go_simp; done) | (go_simp; rfl))
                  intro gb151 hg w21 hbox hb
                  have n0_ := Aside0.mk (blk_below (g := gb145) (o := .cells #[.int .i64 0, .int .i64 0, .string (⟨#[]⟩ : ByteArray)] 25 (0, 0)) (by (with_reducible repeat (first | refine blk_drewN ?_ _ | refine blk_drew ?_ | refine blk_alloc ?_ _)); exact BK145.out) hb)
                  have n1_ := Aside0.mk (blk_below (g := gb146) (o := .cells #[.int .i64 0, .int .i64 0, .string (⟨#[]⟩ : ByteArray)] 25 (0, 0)) (by (with_reducible repeat (first | refine blk_drewN ?_ _ | refine blk_drew ?_ | refine blk_alloc ?_ _)); exact BK146.out) hb)
                  have n2_ := Aside0.mk (below_step (by repeat (first | (with_reducible first | exact HB.out | apply below_alloc | apply pw_below_drewN | apply below_drew1 | refine below_set ?_ GE145.out | refine below_set ?_ GE146.out) | exact HB.out)) hb)
                  have n3_ := Aside0.mk (hbox)
                  have n4_ := Aside0.mk ((by rw [hg]; exact (below_size (by repeat (first | (with_reducible first | exact HB.out | apply below_alloc | apply pw_below_drewN | apply below_drew1 | refine below_set ?_ GE145.out | refine below_set ?_ GE146.out) | exact HB.out))) : w.heap.size ≤ gb151))
                  have n5_ := Aside0.mk ((by rw [hg]; exact (below_size (by repeat (first | (with_reducible first | exact HB.out | apply below_alloc | apply pw_below_drewN | apply below_drew1 | refine below_set ?_ GE145.out | refine below_set ?_ GE146.out) | exact HB.out))) : w.heap.size ≤ gb151))
                  have n6_ := Aside0.mk ((by rw [hg]; exact Nat.ne_of_lt (blk_lt (g := gb145) (o := .cells #[.int .i64 0, .int .i64 0, .string (⟨#[]⟩ : ByteArray)] 25 (0, 0)) (by (with_reducible repeat (first | refine blk_drewN ?_ _ | refine blk_drew ?_ | refine blk_alloc ?_ _)); exact BK145.out)) : gb145 ≠ gb151))
                  have n7_ := Aside0.mk ((by rw [hg]; exact Nat.ne_of_gt (blk_lt (g := gb145) (o := .cells #[.int .i64 0, .int .i64 0, .string (⟨#[]⟩ : ByteArray)] 25 (0, 0)) (by (with_reducible repeat (first | refine blk_drewN ?_ _ | refine blk_drew ?_ | refine blk_alloc ?_ _)); exact BK145.out)) : gb151 ≠ gb145))
                  have n8_ := Aside0.mk ((by rw [hg]; exact Nat.ne_of_lt (blk_lt (g := gb146) (o := .cells #[.int .i64 0, .int .i64 0, .string (⟨#[]⟩ : ByteArray)] 25 (0, 0)) (by (with_reducible repeat (first | refine blk_drewN ?_ _ | refine blk_drew ?_ | refine blk_alloc ?_ _)); exact BK146.out)) : gb146 ≠ gb151))
                  have n9_ := Aside0.mk ((by rw [hg]; exact Nat.ne_of_gt (blk_lt (g := gb146) (o := .cells #[.int .i64 0, .int .i64 0, .string (⟨#[]⟩ : ByteArray)] 25 (0, 0)) (by (with_reducible repeat (first | refine blk_drewN ?_ _ | refine blk_drew ?_ | refine blk_alloc ?_ _)); exact BK146.out)) : gb151 ≠ gb146))
                  clear BK145
                  clear BK146
                  clear HB
                  have BK145 := n0_
                  have BK146 := n1_
                  have HB := n2_
                  have BK151 := n3_
                  have GW151 := n4_
                  have GE151 := n5_
                  have NB145_151 := n6_
                  have NB151_145 := n7_
                  have NB146_151 := n8_
                  have NB151_146 := n9_
                  clear n0_ n1_ n2_ n3_ n4_ n5_ n6_ n7_ n8_ n9_
                  clear hb hbox hg
                  refine hK.out _ _ ⟨((HB.out.cell (World.block_lt_of_cell? w _ hw149_0)).trans hw149_0), ((HB.out.cell (World.block_lt_of_cell? w _ hw149_1)).trans hw149_1), ((HB.out.cell (World.block_lt_of_cell? w _ hw149_2)).trans hw149_2), ((HB.out.cell (World.block_lt_of_cell? w _ hw150_0)).trans hw150_0), ((HB.out.cell (World.block_lt_of_cell? w _ hw150_1)).trans hw150_1), ((HB.out.cell (World.block_lt_of_cell? w _ hw150_2)).trans hw150_2)⟩ (fun hHeld => ?_)
                  clear hK K
                  refine norm_ (a' := ?_) ?_ ?_
                  rotate_left
                  · show Act.put _ (some 7) _ = _
                    simp only [Act.put, List.setIfInBounds_toArray, List.set_cons_zero, List.set_cons_succ, i64_w, i32_w]
                    rfl
                  refine one_ (i := 10) (N := some 8) #[true, true, true, true, true, true, true, true, true, true, true, false, false] rfl rfl (one_of HT_.out (by kernel_rfl)) (by decide) (fun K hK => ?_)
                  refine box_step ?hg (N := 8) ?hd (cs := #[.int .i64 0, .int .i64 0, .string (⟨#[]⟩ : ByteArray)]) (t := 25) ?hr ?_; (case hd => rfl); (case hg => rfl); (case hr => first | (go_simp; done) | (go_simp; rfl))
                  intro gb152 hg w22 hbox hb
                  have n0_ := Aside0.mk (blk_below (g := gb145) (o := .cells #[.int .i64 0, .int .i64 0, .string (⟨#[]⟩ : ByteArray)] 25 (0, 0)) (by (with_reducible repeat (first | refine blk_drewN ?_ _ | refine blk_drew ?_ | refine blk_alloc ?_ _)); exact BK145.out) hb)
                  have n1_ := Aside0.mk (blk_below (g := gb146) (o := .cells #[.int .i64 0, .int .i64 0, .string (⟨#[]⟩ : ByteArray)] 25 (0, 0)) (by (with_reducible repeat (first | refine blk_drewN ?_ _ | refine blk_drew ?_ | refine blk_alloc ?_ _)); exact BK146.out) hb)
                  have n2_ := Aside0.mk (blk_below (g := gb151) (o := .cells #[.int .i64 0, .int .i64 0, .string (⟨#[]⟩ : ByteArray)] 25 (0, 0)) (by (with_reducible repeat (first | refine blk_drewN ?_ _ | refine blk_drew ?_ | refine blk_alloc ?_ _)); exact BK151.out) hb)
                  have n3_ := Aside0.mk (below_step (by repeat (first | (with_reducible first | exact HB.out | apply below_alloc | apply pw_below_drewN | apply below_drew1 | refine below_set ?_ GE145.out | refine below_set ?_ GE146.out | refine below_set ?_ GE151.out) | exact HB.out)) hb)
                  have n4_ := Aside0.mk (hbox)
                  have n5_ := Aside0.mk ((by rw [hg]; exact (below_size (by repeat (first | (with_reducible first | exact HB.out | apply below_alloc | apply pw_below_drewN | apply below_drew1 | refine below_set ?_ GE145.out | refine below_set ?_ GE146.out | refine below_set ?_ GE151.out) | exact HB.out))) : w.heap.size ≤ gb152))
                  have n6_ := Aside0.mk ((by rw [hg]; exact (below_size (by repeat (first | (with_reducible first | exact HB.out | apply below_alloc | apply pw_below_drewN | apply below_drew1 | refine below_set ?_ GE145.out | refine below_set ?_ GE146.out | refine below_set ?_ GE151.out) | exact HB.out))) : w.heap.size ≤ gb152))
                  have n7_ := Aside0.mk ((by rw [hg]; exact Nat.ne_of_lt (blk_lt (g := gb145) (o := .cells #[.int .i64 0, .int .i64 0, .string (⟨#[]⟩ : ByteArray)] 25 (0, 0)) (by (with_reducible repeat (first | refine blk_drewN ?_ _ | refine blk_drew ?_ | refine blk_alloc ?_ _)); exact BK145.out)) : gb145 ≠ gb152))
                  have n8_ := Aside0.mk ((by rw [hg]; exact Nat.ne_of_gt (blk_lt (g := gb145) (o := .cells #[.int .i64 0, .int .i64 0, .string (⟨#[]⟩ : ByteArray)] 25 (0, 0)) (by (with_reducible repeat (first | refine blk_drewN ?_ _ | refine blk_drew ?_ | refine blk_alloc ?_ _)); exact BK145.out)) : gb152 ≠ gb145))
                  have n9_ := Aside0.mk ((by rw [hg]; exact Nat.ne_of_lt (blk_lt (g := gb146) (o := .cells #[.int .i64 0, .int .i64 0, .string (⟨#[]⟩ : ByteArray)] 25 (0, 0)) (by (with_reducible repeat (first | refine blk_drewN ?_ _ | refine blk_drew ?_ | refine blk_alloc ?_ _)); exact BK146.out)) : gb146 ≠ gb152))
                  have n10_ := Aside0.mk ((by rw [hg]; exact Nat.ne_of_gt (blk_lt (g := gb146) (o := .cells #[.int .i64 0, .int .i64 0, .string (⟨#[]⟩ : ByteArray)] 25 (0, 0)) (by (with_reducible repeat (first | refine blk_drewN ?_ _ | refine blk_drew ?_ | refine blk_alloc ?_ _)); exact BK146.out)) : gb152 ≠ gb146))
                  have n11_ := Aside0.mk ((by rw [hg]; exact Nat.ne_of_lt (blk_lt (g := gb151) (o := .cells #[.int .i64 0, .int .i64 0, .string (⟨#[]⟩ : ByteArray)] 25 (0, 0)) (by (with_reducible repeat (first | refine blk_drewN ?_ _ | refine blk_drew ?_ | refine blk_alloc ?_ _)); exact BK151.out)) : gb151 ≠ gb152))
                  have n12_ := Aside0.mk ((by rw [hg]; exact Nat.ne_of_gt (blk_lt (g := gb151) (o := .cells #[.int .i64 0, .int .i64 0, .string (⟨#[]⟩ : ByteArray)] 25 (0, 0)) (by (with_reducible repeat (first | refine blk_drewN ?_ _ | refine blk_drew ?_ | refine blk_alloc ?_ _)); exact BK151.out)) : gb152 ≠ gb151))
                  clear BK145
                  clear BK146
                  clear BK151
                  clear HB
                  have BK145 := n0_
                  have BK146 := n1_
                  have BK151 := n2_
                  have HB := n3_
                  have BK152 := n4_
                  have GW152 := n5_
                  have GE152 := n6_
                  have NB145_152 := n7_
                  have NB152_145 := n8_
                  have NB146_152 := n9_
                  have NB152_146 := n10_
                  have NB151_152 := n11_
                  have NB152_151 := n12_
                  clear n0_ n1_ n2_ n3_ n4_ n5_ n6_ n7_ n8_ n9_ n10_ n11_ n12_
                  clear hb hbox hg
                  refine hK.out _ _ ⟨((HB.out.cell (World.block_lt_of_cell? w _ hw149_0)).trans hw149_0), ((HB.out.cell (World.block_lt_of_cell? w _ hw149_1)).trans hw149_1), ((HB.out.cell (World.block_lt_of_cell? w _ hw149_2)).trans hw149_2), ((HB.out.cell (World.block_lt_of_cell? w _ hw150_0)).trans hw150_0), ((HB.out.cell (World.block_lt_of_cell? w _ hw150_1)).trans hw150_1), ((HB.out.cell (World.block_lt_of_cell? w _ hw150_2)).trans hw150_2)⟩ (fun hHeld => ?_)
                  clear hK K
                  refine norm_ (a' := ?_) ?_ ?_
                  rotate_left
                  · show Act.put _ (some 8) _ = _
                    simp only [Act.put, List.setIfInBounds_toArray, List.set_cons_zero, List.set_cons_succ, i64_w, i32_w]
                    rfl
                  exact norm_ (by simp only [putAll, Act.put, List.setIfInBounds_toArray, List.set_cons_zero, List.set_cons_succ]) (hCont (gb151, gb152) _ ⟨hHeld, (by (with_reducible repeat (first | refine blk_drewN ?_ _ | refine blk_drew ?_ | refine blk_alloc ?_ _)); exact BK145.out), (by (with_reducible repeat (first | refine blk_drewN ?_ _ | refine blk_drew ?_ | refine blk_alloc ?_ _)); exact BK146.out), (by (with_reducible repeat (first | refine blk_drewN ?_ _ | refine blk_drew ?_ | refine blk_alloc ?_ _)); exact BK151.out), (by (with_reducible repeat (first | refine blk_drewN ?_ _ | refine blk_drew ?_ | refine blk_alloc ?_ _)); exact BK152.out), GW151.out, GE151.out, NB145_151.out, NB151_145.out, NB146_151.out, NB151_146.out, NB152_151.out, NB151_152.out, GW152.out, GE152.out, NB145_152.out, NB152_145.out, NB146_152.out, NB152_146.out, (by repeat (first | (with_reducible first | exact HB.out | apply below_alloc | apply pw_below_drewN | apply below_drew1 | refine below_set ?_ GE145.out | refine below_set ?_ GE146.out | refine below_set ?_ GE151.out | refine below_set ?_ GE152.out) | exact HB.out))⟩)
                · skip
                  refine box_step ?hg (N := 8) ?hd (cs := #[.int .i64 0, .int .i64 0, .string (⟨#[]⟩ : ByteArray)]) (t := 25) ?hr ?_; (case hd => rfl); (case hg => rfl); (case hr => first | (go_simp; done) | (go_simp; rfl))
                  intro gb152 hg w21 hbox hb
                  have n0_ := Aside0.mk (blk_below (g := gb145) (o := .cells #[.int .i64 0, .int .i64 0, .string (⟨#[]⟩ : ByteArray)] 25 (0, 0)) (by (with_reducible repeat (first | refine blk_drewN ?_ _ | refine blk_drew ?_ | refine blk_alloc ?_ _)); exact BK145.out) hb)
                  have n1_ := Aside0.mk (blk_below (g := gb146) (o := .cells #[.int .i64 0, .int .i64 0, .string (⟨#[]⟩ : ByteArray)] 25 (0, 0)) (by (with_reducible repeat (first | refine blk_drewN ?_ _ | refine blk_drew ?_ | refine blk_alloc ?_ _)); exact BK146.out) hb)
                  have n2_ := Aside0.mk (below_step (by repeat (first | (with_reducible first | exact HB.out | apply below_alloc | apply pw_below_drewN | apply below_drew1 | refine below_set ?_ GE145.out | refine below_set ?_ GE146.out) | exact HB.out)) hb)
                  have n3_ := Aside0.mk (hbox)
                  have n4_ := Aside0.mk ((by rw [hg]; exact (below_size (by repeat (first | (with_reducible first | exact HB.out | apply below_alloc | apply pw_below_drewN | apply below_drew1 | refine below_set ?_ GE145.out | refine below_set ?_ GE146.out) | exact HB.out))) : w.heap.size ≤ gb152))
                  have n5_ := Aside0.mk ((by rw [hg]; exact (below_size (by repeat (first | (with_reducible first | exact HB.out | apply below_alloc | apply pw_below_drewN | apply below_drew1 | refine below_set ?_ GE145.out | refine below_set ?_ GE146.out) | exact HB.out))) : w.heap.size ≤ gb152))
                  have n6_ := Aside0.mk ((by rw [hg]; exact Nat.ne_of_lt (blk_lt (g := gb145) (o := .cells #[.int .i64 0, .int .i64 0, .string (⟨#[]⟩ : ByteArray)] 25 (0, 0)) (by (with_reducible repeat (first | refine blk_drewN ?_ _ | refine blk_drew ?_ | refine blk_alloc ?_ _)); exact BK145.out)) : gb145 ≠ gb152))
                  have n7_ := Aside0.mk ((by rw [hg]; exact Nat.ne_of_gt (blk_lt (g := gb145) (o := .cells #[.int .i64 0, .int .i64 0, .string (⟨#[]⟩ : ByteArray)] 25 (0, 0)) (by (with_reducible repeat (first | refine blk_drewN ?_ _ | refine blk_drew ?_ | refine blk_alloc ?_ _)); exact BK145.out)) : gb152 ≠ gb145))
                  have n8_ := Aside0.mk ((by rw [hg]; exact Nat.ne_of_lt (blk_lt (g := gb146) (o := .cells #[.int .i64 0, .int .i64 0, .string (⟨#[]⟩ : ByteArray)] 25 (0, 0)) (by (with_reducible repeat (first | refine blk_drewN ?_ _ | refine blk_drew ?_ | refine blk_alloc ?_ _)); exact BK146.out)) : gb146 ≠ gb152))
                  have n9_ := Aside0.mk ((by rw [hg]; exact Nat.ne_of_gt (blk_lt (g := gb146) (o := .cells #[.int .i64 0, .int .i64 0, .string (⟨#[]⟩ : ByteArray)] 25 (0, 0)) (by (with_reducible repeat (first | refine blk_drewN ?_ _ | refine blk_drew ?_ | refine blk_alloc ?_ _)); exact BK146.out)) : gb152 ≠ gb146))
                  clear BK145
                  clear BK146
                  clear HB
                  have BK145 := n0_
                  have BK146 := n1_
                  have HB := n2_
                  have BK152 := n3_
                  have GW152 := n4_
                  have GE152 := n5_
                  have NB145_152 := n6_
                  have NB152_145 := n7_
                  have NB146_152 := n8_
                  have NB152_146 := n9_
                  clear n0_ n1_ n2_ n3_ n4_ n5_ n6_ n7_ n8_ n9_
                  clear hb hbox hg
                  refine hK.out _ _ ⟨((HB.out.cell (World.block_lt_of_cell? w _ hw149_0)).trans hw149_0), ((HB.out.cell (World.block_lt_of_cell? w _ hw149_1)).trans hw149_1), ((HB.out.cell (World.block_lt_of_cell? w _ hw149_2)).trans hw149_2), ((HB.out.cell (World.block_lt_of_cell? w _ hw150_0)).trans hw150_0), ((HB.out.cell (World.block_lt_of_cell? w _ hw150_1)).trans hw150_1), ((HB.out.cell (World.block_lt_of_cell? w _ hw150_2)).trans hw150_2)⟩ (fun hHeld => ?_)
                  clear hK K
                  refine norm_ (a' := ?_) ?_ ?_
                  rotate_left
                  · show Act.put _ (some 8) _ = _
                    simp only [Act.put, List.setIfInBounds_toArray, List.set_cons_zero, List.set_cons_succ, i64_w, i32_w]
                    rfl
                  refine one_ (i := 9) (N := some 7) #[true, true, true, true, true, true, true, true, true, true, true, false, false] rfl rfl (one_of HT_.out (by kernel_rfl)) (by decide) (fun K hK => ?_)
                  refine box_step ?hg (N := 7) ?hd (cs := #[.int .i64 0, .int .i64 0, .string (⟨#[]⟩ : ByteArray)]) (t := 25) ?hr ?_; (case hd => rfl); (case hg => rfl); (case hr => first | (go_simp; done) | (go_simp; rfl))
                  intro gb151 hg w22 hbox hb
                  have n0_ := Aside0.mk (blk_below (g := gb145) (o := .cells #[.int .i64 0, .int .i64 0, .string (⟨#[]⟩ : ByteArray)] 25 (0, 0)) (by (with_reducible repeat (first | refine blk_drewN ?_ _ | refine blk_drew ?_ | refine blk_alloc ?_ _)); exact BK145.out) hb)
                  have n1_ := Aside0.mk (blk_below (g := gb146) (o := .cells #[.int .i64 0, .int .i64 0, .string (⟨#[]⟩ : ByteArray)] 25 (0, 0)) (by (with_reducible repeat (first | refine blk_drewN ?_ _ | refine blk_drew ?_ | refine blk_alloc ?_ _)); exact BK146.out) hb)
                  have n2_ := Aside0.mk (blk_below (g := gb152) (o := .cells #[.int .i64 0, .int .i64 0, .string (⟨#[]⟩ : ByteArray)] 25 (0, 0)) (by (with_reducible repeat (first | refine blk_drewN ?_ _ | refine blk_drew ?_ | refine blk_alloc ?_ _)); exact BK152.out) hb)
                  have n3_ := Aside0.mk (below_step (by repeat (first | (with_reducible first | exact HB.out | apply below_alloc | apply pw_below_drewN | apply below_drew1 | refine below_set ?_ GE145.out | refine below_set ?_ GE146.out | refine below_set ?_ GE152.out) | exact HB.out)) hb)
                  have n4_ := Aside0.mk (hbox)
                  have n5_ := Aside0.mk ((by rw [hg]; exact (below_size (by repeat (first | (with_reducible first | exact HB.out | apply below_alloc | apply pw_below_drewN | apply below_drew1 | refine below_set ?_ GE145.out | refine below_set ?_ GE146.out | refine below_set ?_ GE152.out) | exact HB.out))) : w.heap.size ≤ gb151))
                  have n6_ := Aside0.mk ((by rw [hg]; exact (below_size (by repeat (first | (with_reducible first | exact HB.out | apply below_alloc | apply pw_below_drewN | apply below_drew1 | refine below_set ?_ GE145.out | refine below_set ?_ GE146.out | refine below_set ?_ GE152.out) | exact HB.out))) : w.heap.size ≤ gb151))
                  have n7_ := Aside0.mk ((by rw [hg]; exact Nat.ne_of_lt (blk_lt (g := gb145) (o := .cells #[.int .i64 0, .int .i64 0, .string (⟨#[]⟩ : ByteArray)] 25 (0, 0)) (by (with_reducible repeat (first | refine blk_drewN ?_ _ | refine blk_drew ?_ | refine blk_alloc ?_ _)); exact BK145.out)) : gb145 ≠ gb151))
                  have n8_ := Aside0.mk ((by rw [hg]; exact Nat.ne_of_gt (blk_lt (g := gb145) (o := .cells #[.int .i64 0, .int .i64 0, .string (⟨#[]⟩ : ByteArray)] 25 (0, 0)) (by (with_reducible repeat (first | refine blk_drewN ?_ _ | refine blk_drew ?_ | refine blk_alloc ?_ _)); exact BK145.out)) : gb151 ≠ gb145))
                  have n9_ := Aside0.mk ((by rw [hg]; exact Nat.ne_of_lt (blk_lt (g := gb146) (o := .cells #[.int .i64 0, .int .i64 0, .string (⟨#[]⟩ : ByteArray)] 25 (0, 0)) (by (with_reducible repeat (first | refine blk_drewN ?_ _ | refine blk_drew ?_ | refine blk_alloc ?_ _)); exact BK146.out)) : gb146 ≠ gb151))
                  have n10_ := Aside0.mk ((by rw [hg]; exact Nat.ne_of_gt (blk_lt (g := gb146) (o := .cells #[.int .i64 0, .int .i64 0, .string (⟨#[]⟩ : ByteArray)] 25 (0, 0)) (by (with_reducible repeat (first | refine blk_drewN ?_ _ | refine blk_drew ?_ | refine blk_alloc ?_ _)); exact BK146.out)) : gb151 ≠ gb146))
                  have n11_ := Aside0.mk ((by rw [hg]; exact Nat.ne_of_lt (blk_lt (g := gb152) (o := .cells #[.int .i64 0, .int .i64 0, .string (⟨#[]⟩ : ByteArray)] 25 (0, 0)) (by (with_reducible repeat (first | refine blk_drewN ?_ _ | refine blk_drew ?_ | refine blk_alloc ?_ _)); exact BK152.out)) : gb152 ≠ gb151))
                  have n12_ := Aside0.mk ((by rw [hg]; exact Nat.ne_of_gt (blk_lt (g := gb152) (o := .cells #[.int .i64 0, .int .i64 0, .string (⟨#[]⟩ : ByteArray)] 25 (0, 0)) (by (with_reducible repeat (first | refine blk_drewN ?_ _ | refine blk_drew ?_ | refine blk_alloc ?_ _)); exact BK152.out)) : gb151 ≠ gb152))
                  clear BK145
                  clear BK146
                  clear BK152
                  clear HB
                  have BK145 := n0_
                  have BK146 := n1_
                  have BK152 := n2_
                  have HB := n3_
                  have BK151 := n4_
                  have GW151 := n5_
                  have GE151 := n6_
                  have NB145_151 := n7_
                  have NB151_145 := n8_
                  have NB146_151 := n9_
                  have NB151_146 := n10_
                  have NB152_151 := n11_
                  have NB151_152 := n12_
                  clear n0_ n1_ n2_ n3_ n4_ n5_ n6_ n7_ n8_ n9_ n10_ n11_ n12_
                  clear hb hbox hg
                  refine hK.out _ _ ⟨((HB.out.cell (World.block_lt_of_cell? w _ hw149_0)).trans hw149_0), ((HB.out.cell (World.block_lt_of_cell? w _ hw149_1)).trans hw149_1), ((HB.out.cell (World.block_lt_of_cell? w _ hw149_2)).trans hw149_2), ((HB.out.cell (World.block_lt_of_cell? w _ hw150_0)).trans hw150_0), ((HB.out.cell (World.block_lt_of_cell? w _ hw150_1)).trans hw150_1), ((HB.out.cell (World.block_lt_of_cell? w _ hw150_2)).trans hw150_2)⟩ (fun hHeld => ?_)
                  clear hK K
                  refine norm_ (a' := ?_) ?_ ?_
                  rotate_left
                  · show Act.put _ (some 7) _ = _
                    simp only [Act.put, List.setIfInBounds_toArray, List.set_cons_zero, List.set_cons_succ, i64_w, i32_w]
                    rfl
                  exact norm_ (by simp only [putAll, Act.put, List.setIfInBounds_toArray, List.set_cons_zero, List.set_cons_succ]) (hCont (gb151, gb152) _ ⟨hHeld, (by (with_reducible repeat (first | refine blk_drewN ?_ _ | refine blk_drew ?_ | refine blk_alloc ?_ _)); exact BK145.out), (by (with_reducible repeat (first | refine blk_drewN ?_ _ | refine blk_drew ?_ | refine blk_alloc ?_ _)); exact BK146.out), (by (with_reducible repeat (first | refine blk_drewN ?_ _ | refine blk_drew ?_ | refine blk_alloc ?_ _)); exact BK151.out), (by (with_reducible repeat (first | refine blk_drewN ?_ _ | refine blk_drew ?_ | refine blk_alloc ?_ _)); exact BK152.out), GW151.out, GE151.out, NB145_151.out, NB151_145.out, NB146_151.out, NB151_146.out, NB152_151.out, NB151_152.out, GW152.out, GE152.out, NB145_152.out, NB152_145.out, NB146_152.out, NB152_146.out, (by repeat (first | (with_reducible first | exact HB.out | apply below_alloc | apply pw_below_drewN | apply below_drew1 | refine below_set ?_ GE145.out | refine below_set ?_ GE146.out | refine below_set ?_ GE152.out | refine below_set ?_ GE151.out) | exact HB.out))⟩)
              rintro ⟨gb151, gb152⟩ w23 ⟨hS_, h0_, h1_, h2_, h3_, h4_, h5_, h6_, h7_, h8_, h9_, h10_, h11_, h12_, h13_, h14_, h15_, h16_, h17_, h18_⟩
              have n0_ : Aside0 (w23.heap[gb145]? = some (.cells #[.int .i64 0, .int .i64 0, .string (⟨#[]⟩ : ByteArray)] 25 (0, 0))) := ⟨h0_⟩
              have n1_ : Aside0 (w23.heap[gb146]? = some (.cells #[.int .i64 0, .int .i64 0, .string (⟨#[]⟩ : ByteArray)] 25 (0, 0))) := ⟨h1_⟩
              have n2_ : Aside0 (w23.heap[gb151]? = some (.cells #[.int .i64 0, .int .i64 0, .string (⟨#[]⟩ : ByteArray)] 25 (0, 0))) := ⟨h2_⟩
              have n3_ : Aside0 (w23.heap[gb152]? = some (.cells #[.int .i64 0, .int .i64 0, .string (⟨#[]⟩ : ByteArray)] 25 (0, 0))) := ⟨h3_⟩
              have n4_ : Aside0 (w.heap.size ≤ gb151) := ⟨h4_⟩
              have n5_ : Aside0 (w.heap.size ≤ gb151) := ⟨h5_⟩
              have n6_ : Aside0 (gb145 ≠ gb151) := ⟨h6_⟩
              have n7_ : Aside0 (gb151 ≠ gb145) := ⟨h7_⟩
              have n8_ : Aside0 (gb146 ≠ gb151) := ⟨h8_⟩
              have n9_ : Aside0 (gb151 ≠ gb146) := ⟨h9_⟩
              have n10_ : Aside0 (gb152 ≠ gb151) := ⟨h10_⟩
              have n11_ : Aside0 (gb151 ≠ gb152) := ⟨h11_⟩
              have n12_ : Aside0 (w.heap.size ≤ gb152) := ⟨h12_⟩
              have n13_ : Aside0 (w.heap.size ≤ gb152) := ⟨h13_⟩
              have n14_ : Aside0 (gb145 ≠ gb152) := ⟨h14_⟩
              have n15_ : Aside0 (gb152 ≠ gb145) := ⟨h15_⟩
              have n16_ : Aside0 (gb146 ≠ gb152) := ⟨h16_⟩
              have n17_ : Aside0 (gb152 ≠ gb146) := ⟨h17_⟩
              have n18_ : Aside0 (Below w.heap.size w w23) := ⟨h18_⟩
              clear BK145
              clear BK146
              clear HB
              clear h0_ h1_ h2_ h3_ h4_ h5_ h6_ h7_ h8_ h9_ h10_ h11_ h12_ h13_ h14_ h15_ h16_ h17_ h18_
              have BK145 := n0_
              have BK146 := n1_
              have BK151 := n2_
              have BK152 := n3_
              have GW151 := n4_
              have GE151 := n5_
              have NB145_151 := n6_
              have NB151_145 := n7_
              have NB146_151 := n8_
              have NB151_146 := n9_
              have NB152_151 := n10_
              have NB151_152 := n11_
              have GW152 := n12_
              have GE152 := n13_
              have NB145_152 := n14_
              have NB152_145 := n15_
              have NB146_152 := n16_
              have NB152_146 := n17_
              have HB := n18_
              clear n0_ n1_ n2_ n3_ n4_ n5_ n6_ n7_ n8_ n9_ n10_ n11_ n12_ n13_ n14_ n15_ n16_ n17_ n18_
              have hHeld : w23.cell? ad149 = some (.int .i64 ((rd_T25 l1 0).f0)) ∧ w23.cell? ⟨ad149.block, ad149.off + 1, none⟩ = some (.int .i64 ((rd_T25 l1 0).f1)) ∧ w23.cell? ⟨ad149.block, ad149.off + 2, none⟩ = some (.string ((rd_T25 l1 0).f2)) ∧ w23.cell? (ad149.add (((ji16)).toNat * 3)) = some (.int .i64 ((rd_T25 l1 (ji16)).f0)) ∧ w23.cell? ⟨(ad149.add (((ji16)).toNat * 3)).block, (ad149.add (((ji16)).toNat * 3)).off + 1, none⟩ = some (.int .i64 ((rd_T25 l1 (ji16)).f1)) ∧ w23.cell? ⟨(ad149.add (((ji16)).toNat * 3)).block, (ad149.add (((ji16)).toNat * 3)).off + 2, none⟩ = some (.string ((rd_T25 l1 (ji16)).f2)) := hS_
              refine norm_ (a' := ?_) ?_ ?_
              rotate_left
              · simp only [putAll, Act.put, List.setIfInBounds_toArray, List.set_cons_zero, List.set_cons_succ]
                rfl
              refine one_ (i := 11) (N := none) #[true, true, true, true, true, true, true, true, true, true, true, true, false] rfl rfl (one_of HT_.out (by kernel_rfl)) (by decide) (fun K hK => ?_)
              have hs24 : w23.cell? ⟨gb151, 0, none⟩ = some (.int .i64 0) := (blk_cell BK151.out 0).trans rfl
              have hfs24 := blk_frozen BK151.out 0
              have hns24_0 := NB145_151.out
              have hns24_1 := NB146_151.out
              have hns24_3 := NB152_151.out
              have hms24_0 := NB151_145.out
              have hms24_1 := NB151_146.out
              have hms24_3 := NB151_152.out
              have hs25 : w23.cell? ⟨gb151, 1, none⟩ = some (.int .i64 0) := (blk_cell BK151.out 1).trans rfl
              have hfs25 := blk_frozen BK151.out 1
              have hns25_0 := NB145_151.out
              have hns25_1 := NB146_151.out
              have hns25_3 := NB152_151.out
              have hms25_0 := NB151_145.out
              have hms25_1 := NB151_146.out
              have hms25_3 := NB151_152.out
              have hs26 : w23.cell? ⟨gb151, 2, none⟩ = some (.string (⟨#[]⟩ : ByteArray)) := (blk_cell BK151.out 2).trans rfl
              have hfs26 := blk_frozen BK151.out 2
              have hns26_0 := NB145_151.out
              have hns26_1 := NB146_151.out
              have hns26_3 := NB152_151.out
              have hms26_0 := NB151_145.out
              have hms26_1 := NB151_146.out
              have hms26_3 := NB151_152.out
              refine skip_ (w1 := ?_) (by rfl) rfl ?_ ?_
              rotate_left
              · go_simp
                rfl
              refine hK.out _ _ ⟨((cell_far (p := ⟨gb151, _, none⟩) (by first | exact Nat.ne_of_lt (Nat.lt_of_lt_of_le (by have := World.block_lt_of_cell? _ _ hw149_0; first | rwa [add_block] at this | exact this) GW151.out) | (rw [add_block]; exact Nat.ne_of_lt (Nat.lt_of_lt_of_le (by have := World.block_lt_of_cell? _ _ hw149_0; first | rwa [add_block] at this | exact this) GW151.out)) | (show (Addr.add _ _).block ≠ _; rw [add_block]; exact Nat.ne_of_lt (Nat.lt_of_lt_of_le (by have := World.block_lt_of_cell? _ _ hw149_0; first | rwa [add_block] at this | exact this) GW151.out)) | (dsimp only; exact Nat.ne_of_lt (Nat.lt_of_lt_of_le (by have := World.block_lt_of_cell? _ _ hw149_0; first | rwa [add_block] at this | exact this) GW151.out))) _).trans (((cell_far (p := ⟨gb151, _, none⟩) (by first | exact Nat.ne_of_lt (Nat.lt_of_lt_of_le (by have := World.block_lt_of_cell? _ _ hw149_0; first | rwa [add_block] at this | exact this) GW151.out) | (rw [add_block]; exact Nat.ne_of_lt (Nat.lt_of_lt_of_le (by have := World.block_lt_of_cell? _ _ hw149_0; first | rwa [add_block] at this | exact this) GW151.out)) | (show (Addr.add _ _).block ≠ _; rw [add_block]; exact Nat.ne_of_lt (Nat.lt_of_lt_of_le (by have := World.block_lt_of_cell? _ _ hw149_0; first | rwa [add_block] at this | exact this) GW151.out)) | (dsimp only; exact Nat.ne_of_lt (Nat.lt_of_lt_of_le (by have := World.block_lt_of_cell? _ _ hw149_0; first | rwa [add_block] at this | exact this) GW151.out))) _).trans (((cell_far (p := ⟨gb151, _, none⟩) (by first | exact Nat.ne_of_lt (Nat.lt_of_lt_of_le (by have := World.block_lt_of_cell? _ _ hw149_0; first | rwa [add_block] at this | exact this) GW151.out) | (rw [add_block]; exact Nat.ne_of_lt (Nat.lt_of_lt_of_le (by have := World.block_lt_of_cell? _ _ hw149_0; first | rwa [add_block] at this | exact this) GW151.out)) | (show (Addr.add _ _).block ≠ _; rw [add_block]; exact Nat.ne_of_lt (Nat.lt_of_lt_of_le (by have := World.block_lt_of_cell? _ _ hw149_0; first | rwa [add_block] at this | exact this) GW151.out)) | (dsimp only; exact Nat.ne_of_lt (Nat.lt_of_lt_of_le (by have := World.block_lt_of_cell? _ _ hw149_0; first | rwa [add_block] at this | exact this) GW151.out))) _).trans (hHeld.1)))))), ((cell_far (p := ⟨gb151, _, none⟩) (by first | exact Nat.ne_of_lt (Nat.lt_of_lt_of_le (by have := World.block_lt_of_cell? _ _ hw149_1; first | rwa [add_block] at this | exact this) GW151.out) | (rw [add_block]; exact Nat.ne_of_lt (Nat.lt_of_lt_of_le (by have := World.block_lt_of_cell? _ _ hw149_1; first | rwa [add_block] at this | exact this) GW151.out)) | (show (Addr.add _ _).block ≠ _; rw [add_block]; exact Nat.ne_of_lt (Nat.lt_of_lt_of_le (by have := World.block_lt_of_cell? _ _ hw149_1; first | rwa [add_block] at this | exact this) GW151.out)) | (dsimp only; exact Nat.ne_of_lt (Nat.lt_of_lt_of_le (by have := World.block_lt_of_cell? _ _ hw149_1; first | rwa [add_block] at this | exact this) GW151.out))) _).trans (((cell_far (p := ⟨gb151, _, none⟩) (by first | exact Nat.ne_of_lt (Nat.lt_of_lt_of_le (by have := World.block_lt_of_cell? _ _ hw149_1; first | rwa [add_block] at this | exact this) GW151.out) | (rw [add_block]; exact Nat.ne_of_lt (Nat.lt_of_lt_of_le (by have := World.block_lt_of_cell? _ _ hw149_1; first | rwa [add_block] at this | exact this) GW151.out)) | (show (Addr.add _ _).block ≠ _; rw [add_block]; exact Nat.ne_of_lt (Nat.lt_of_lt_of_le (by have := World.block_lt_of_cell? _ _ hw149_1; first | rwa [add_block] at this | exact this) GW151.out)) | (dsimp only; exact Nat.ne_of_lt (Nat.lt_of_lt_of_le (by have := World.block_lt_of_cell? _ _ hw149_1; first | rwa [add_block] at this | exact this) GW151.out))) _).trans (((cell_far (p := ⟨gb151, _, none⟩) (by first | exact Nat.ne_of_lt (Nat.lt_of_lt_of_le (by have := World.block_lt_of_cell? _ _ hw149_1; first | rwa [add_block] at this | exact this) GW151.out) | (rw [add_block]; exact Nat.ne_of_lt (Nat.lt_of_lt_of_le (by have := World.block_lt_of_cell? _ _ hw149_1; first | rwa [add_block] at this | exact this) GW151.out)) | (show (Addr.add _ _).block ≠ _; rw [add_block]; exact Nat.ne_of_lt (Nat.lt_of_lt_of_le (by have := World.block_lt_of_cell? _ _ hw149_1; first | rwa [add_block] at this | exact this) GW151.out)) | (dsimp only; exact Nat.ne_of_lt (Nat.lt_of_lt_of_le (by have := World.block_lt_of_cell? _ _ hw149_1; first | rwa [add_block] at this | exact this) GW151.out))) _).trans (hHeld.2.1)))))), ((cell_far (p := ⟨gb151, _, none⟩) (by first | exact Nat.ne_of_lt (Nat.lt_of_lt_of_le (by have := World.block_lt_of_cell? _ _ hw149_2; first | rwa [add_block] at this | exact this) GW151.out) | (rw [add_block]; exact Nat.ne_of_lt (Nat.lt_of_lt_of_le (by have := World.block_lt_of_cell? _ _ hw149_2; first | rwa [add_block] at this | exact this) GW151.out)) | (show (Addr.add _ _).block ≠ _; rw [add_block]; exact Nat.ne_of_lt (Nat.lt_of_lt_of_le (by have := World.block_lt_of_cell? _ _ hw149_2; first | rwa [add_block] at this | exact this) GW151.out)) | (dsimp only; exact Nat.ne_of_lt (Nat.lt_of_lt_of_le (by have := World.block_lt_of_cell? _ _ hw149_2; first | rwa [add_block] at this | exact this) GW151.out))) _).trans (((cell_far (p := ⟨gb151, _, none⟩) (by first | exact Nat.ne_of_lt (Nat.lt_of_lt_of_le (by have := World.block_lt_of_cell? _ _ hw149_2; first | rwa [add_block] at this | exact this) GW151.out) | (rw [add_block]; exact Nat.ne_of_lt (Nat.lt_of_lt_of_le (by have := World.block_lt_of_cell? _ _ hw149_2; first | rwa [add_block] at this | exact this) GW151.out)) | (show (Addr.add _ _).block ≠ _; rw [add_block]; exact Nat.ne_of_lt (Nat.lt_of_lt_of_le (by have := World.block_lt_of_cell? _ _ hw149_2; first | rwa [add_block] at this | exact this) GW151.out)) | (dsimp only; exact Nat.ne_of_lt (Nat.lt_of_lt_of_le (by have := World.block_lt_of_cell? _ _ hw149_2; first | rwa [add_block] at this | exact this) GW151.out))) _).trans (((cell_far (p := ⟨gb151, _, none⟩) (by first | exact Nat.ne_of_lt (Nat.lt_of_lt_of_le (by have := World.block_lt_of_cell? _ _ hw149_2; first | rwa [add_block] at this | exact this) GW151.out) | (rw [add_block]; exact Nat.ne_of_lt (Nat.lt_of_lt_of_le (by have := World.block_lt_of_cell? _ _ hw149_2; first | rwa [add_block] at this | exact this) GW151.out)) | (show (Addr.add _ _).block ≠ _; rw [add_block]; exact Nat.ne_of_lt (Nat.lt_of_lt_of_le (by have := World.block_lt_of_cell? _ _ hw149_2; first | rwa [add_block] at this | exact this) GW151.out)) | (dsimp only; exact Nat.ne_of_lt (Nat.lt_of_lt_of_le (by have := World.block_lt_of_cell? _ _ hw149_2; first | rwa [add_block] at this | exact this) GW151.out))) _).trans (hHeld.2.2.1)))))), ((cell_far (p := ⟨gb151, _, none⟩) (by first | exact Nat.ne_of_lt (Nat.lt_of_lt_of_le (by have := World.block_lt_of_cell? _ _ hw150_0; first | rwa [add_block] at this | exact this) GW151.out) | (rw [add_block]; exact Nat.ne_of_lt (Nat.lt_of_lt_of_le (by have := World.block_lt_of_cell? _ _ hw150_0; first | rwa [add_block] at this | exact this) GW151.out)) | (show (Addr.add _ _).block ≠ _; rw [add_block]; exact Nat.ne_of_lt (Nat.lt_of_lt_of_le (by have := World.block_lt_of_cell? _ _ hw150_0; first | rwa [add_block] at this | exact this) GW151.out)) | (dsimp only; exact Nat.ne_of_lt (Nat.lt_of_lt_of_le (by have := World.block_lt_of_cell? _ _ hw150_0; first | rwa [add_block] at this | exact this) GW151.out))) _).trans (((cell_far (p := ⟨gb151, _, none⟩) (by first | exact Nat.ne_of_lt (Nat.lt_of_lt_of_le (by have := World.block_lt_of_cell? _ _ hw150_0; first | rwa [add_block] at this | exact this) GW151.out) | (rw [add_block]; exact Nat.ne_of_lt (Nat.lt_of_lt_of_le (by have := World.block_lt_of_cell? _ _ hw150_0; first | rwa [add_block] at this | exact this) GW151.out)) | (show (Addr.add _ _).block ≠ _; rw [add_block]; exact Nat.ne_of_lt (Nat.lt_of_lt_of_le (by have := World.block_lt_of_cell? _ _ hw150_0; first | rwa [add_block] at this | exact this) GW151.out)) | (dsimp only; exact Nat.ne_of_lt (Nat.lt_of_lt_of_le (by have := World.block_lt_of_cell? _ _ hw150_0; first | rwa [add_block] at this | exact this) GW151.out))) _).trans (((cell_far (p := ⟨gb151, _, none⟩) (by first | exact Nat.ne_of_lt (Nat.lt_of_lt_of_le (by have := World.block_lt_of_cell? _ _ hw150_0; first | rwa [add_block] at this | exact this) GW151.out) | (rw [add_block]; exact Nat.ne_of_lt (Nat.lt_of_lt_of_le (by have := World.block_lt_of_cell? _ _ hw150_0; first | rwa [add_block] at this | exact this) GW151.out)) | (show (Addr.add _ _).block ≠ _; rw [add_block]; exact Nat.ne_of_lt (Nat.lt_of_lt_of_le (by have := World.block_lt_of_cell? _ _ hw150_0; first | rwa [add_block] at this | exact this) GW151.out)) | (dsimp only; exact Nat.ne_of_lt (Nat.lt_of_lt_of_le (by have := World.block_lt_of_cell? _ _ hw150_0; first | rwa [add_block] at this | exact this) GW151.out))) _).trans (hHeld.2.2.2.1)))))), ((cell_far (p := ⟨gb151, _, none⟩) (by first | exact Nat.ne_of_lt (Nat.lt_of_lt_of_le (by have := World.block_lt_of_cell? _ _ hw150_1; first | rwa [add_block] at this | exact this) GW151.out) | (rw [add_block]; exact Nat.ne_of_lt (Nat.lt_of_lt_of_le (by have := World.block_lt_of_cell? _ _ hw150_1; first | rwa [add_block] at this | exact this) GW151.out)) | (show (Addr.add _ _).block ≠ _; rw [add_block]; exact Nat.ne_of_lt (Nat.lt_of_lt_of_le (by have := World.block_lt_of_cell? _ _ hw150_1; first | rwa [add_block] at this | exact this) GW151.out)) | (dsimp only; exact Nat.ne_of_lt (Nat.lt_of_lt_of_le (by have := World.block_lt_of_cell? _ _ hw150_1; first | rwa [add_block] at this | exact this) GW151.out))) _).trans (((cell_far (p := ⟨gb151, _, none⟩) (by first | exact Nat.ne_of_lt (Nat.lt_of_lt_of_le (by have := World.block_lt_of_cell? _ _ hw150_1; first | rwa [add_block] at this | exact this) GW151.out) | (rw [add_block]; exact Nat.ne_of_lt (Nat.lt_of_lt_of_le (by have := World.block_lt_of_cell? _ _ hw150_1; first | rwa [add_block] at this | exact this) GW151.out)) | (show (Addr.add _ _).block ≠ _; rw [add_block]; exact Nat.ne_of_lt (Nat.lt_of_lt_of_le (by have := World.block_lt_of_cell? _ _ hw150_1; first | rwa [add_block] at this | exact this) GW151.out)) | (dsimp only; exact Nat.ne_of_lt (Nat.lt_of_lt_of_le (by have := World.block_lt_of_cell? _ _ hw150_1; first | rwa [add_block] at this | exact this) GW151.out))) _).trans (((cell_far (p := ⟨gb151, _, none⟩) (by first | exact Nat.ne_of_lt (Nat.lt_of_lt_of_le (by have := World.block_lt_of_cell? _ _ hw150_1; first | rwa [add_block] at this | exact this) GW151.out) | (rw [add_block]; exact Nat.ne_of_lt (Nat.lt_of_lt_of_le (by have := World.block_lt_of_cell? _ _ hw150_1; first | rwa [add_block] at this | exact this) GW151.out)) | (show (Addr.add _ _).block ≠ _; rw [add_block]; exact Nat.ne_of_lt (Nat.lt_of_lt_of_le (by have := World.block_lt_of_cell? _ _ hw150_1; first | rwa [add_block] at this | exact this) GW151.out)) | (dsimp only; exact Nat.ne_of_lt (Nat.lt_of_lt_of_le (by have := World.block_lt_of_cell? _ _ hw150_1; first | rwa [add_block] at this | exact this) GW151.out))) _).trans (hHeld.2.2.2.2.1)))))), ((cell_far (p := ⟨gb151, _, none⟩) (by first | exact Nat.ne_of_lt (Nat.lt_of_lt_of_le (by have := World.block_lt_of_cell? _ _ hw150_2; first | rwa [add_block] at this | exact this) GW151.out) | (rw [add_block]; exact Nat.ne_of_lt (Nat.lt_of_lt_of_le (by have := World.block_lt_of_cell? _ _ hw150_2; first | rwa [add_block] at this | exact this) GW151.out)) | (show (Addr.add _ _).block ≠ _; rw [add_block]; exact Nat.ne_of_lt (Nat.lt_of_lt_of_le (by have := World.block_lt_of_cell? _ _ hw150_2; first | rwa [add_block] at this | exact this) GW151.out)) | (dsimp only; exact Nat.ne_of_lt (Nat.lt_of_lt_of_le (by have := World.block_lt_of_cell? _ _ hw150_2; first | rwa [add_block] at this | exact this) GW151.out))) _).trans (((cell_far (p := ⟨gb151, _, none⟩) (by first | exact Nat.ne_of_lt (Nat.lt_of_lt_of_le (by have := World.block_lt_of_cell? _ _ hw150_2; first | rwa [add_block] at this | exact this) GW151.out) | (rw [add_block]; exact Nat.ne_of_lt (Nat.lt_of_lt_of_le (by have := World.block_lt_of_cell? _ _ hw150_2; first | rwa [add_block] at this | exact this) GW151.out)) | (show (Addr.add _ _).block ≠ _; rw [add_block]; exact Nat.ne_of_lt (Nat.lt_of_lt_of_le (by have := World.block_lt_of_cell? _ _ hw150_2; first | rwa [add_block] at this | exact this) GW151.out)) | (dsimp only; exact Nat.ne_of_lt (Nat.lt_of_lt_of_le (by have := World.block_lt_of_cell? _ _ hw150_2; first | rwa [add_block] at this | exact this) GW151.out))) _).trans (((cell_far (p := ⟨gb151, _, none⟩) (by first | exact Nat.ne_of_lt (Nat.lt_of_lt_of_le (by have := World.block_lt_of_cell? _ _ hw150_2; first | rwa [add_block] at this | exact this) GW151.out) | (rw [add_block]; exact Nat.ne_of_lt (Nat.lt_of_lt_of_le (by have := World.block_lt_of_cell? _ _ hw150_2; first | rwa [add_block] at this | exact this) GW151.out)) | (show (Addr.add _ _).block ≠ _; rw [add_block]; exact Nat.ne_of_lt (Nat.lt_of_lt_of_le (by have := World.block_lt_of_cell? _ _ hw150_2; first | rwa [add_block] at this | exact this) GW151.out)) | (dsimp only; exact Nat.ne_of_lt (Nat.lt_of_lt_of_le (by have := World.block_lt_of_cell? _ _ hw150_2; first | rwa [add_block] at this | exact this) GW151.out))) _).trans (hHeld.2.2.2.2.2))))))⟩ (fun hHeld => ?_)
              clear hK K
              refine one_ (i := 12) (N := none) #[true, true, true, true, true, true, true, true, true, true, true, true, true] rfl rfl (one_of HT_.out (by kernel_rfl)) (by decide) (fun K hK => ?_)
              have hs27 : w23.cell? ⟨gb152, 0, none⟩ = some (.int .i64 0) := (blk_cell BK152.out 0).trans rfl
              have hfs27 := blk_frozen BK152.out 0
              have hns27_0 := NB145_152.out
              have hns27_1 := NB146_152.out
              have hns27_2 := NB151_152.out
              have hms27_0 := NB152_145.out
              have hms27_1 := NB152_146.out
              have hms27_2 := NB152_151.out
              have hs28 : w23.cell? ⟨gb152, 1, none⟩ = some (.int .i64 0) := (blk_cell BK152.out 1).trans rfl
              have hfs28 := blk_frozen BK152.out 1
              have hns28_0 := NB145_152.out
              have hns28_1 := NB146_152.out
              have hns28_2 := NB151_152.out
              have hms28_0 := NB152_145.out
              have hms28_1 := NB152_146.out
              have hms28_2 := NB152_151.out
              have hs29 : w23.cell? ⟨gb152, 2, none⟩ = some (.string (⟨#[]⟩ : ByteArray)) := (blk_cell BK152.out 2).trans rfl
              have hfs29 := blk_frozen BK152.out 2
              have hns29_0 := NB145_152.out
              have hns29_1 := NB146_152.out
              have hns29_2 := NB151_152.out
              have hms29_0 := NB152_145.out
              have hms29_1 := NB152_146.out
              have hms29_2 := NB152_151.out
              refine skip_ (w1 := ?_) (by rfl) rfl ?_ ?_
              rotate_left
              · go_simp
                rfl
              refine hK.out _ _ ⟨((cell_far (p := ⟨gb152, _, none⟩) (by first | exact Nat.ne_of_lt (Nat.lt_of_lt_of_le (by have := World.block_lt_of_cell? _ _ hw149_0; first | rwa [add_block] at this | exact this) GW152.out) | (rw [add_block]; exact Nat.ne_of_lt (Nat.lt_of_lt_of_le (by have := World.block_lt_of_cell? _ _ hw149_0; first | rwa [add_block] at this | exact this) GW152.out)) | (show (Addr.add _ _).block ≠ _; rw [add_block]; exact Nat.ne_of_lt (Nat.lt_of_lt_of_le (by have := World.block_lt_of_cell? _ _ hw149_0; first | rwa [add_block] at this | exact this) GW152.out)) | (dsimp only; exact Nat.ne_of_lt (Nat.lt_of_lt_of_le (by have := World.block_lt_of_cell? _ _ hw149_0; first | rwa [add_block] at this | exact this) GW152.out))) _).trans (((cell_far (p := ⟨gb152, _, none⟩) (by first | exact Nat.ne_of_lt (Nat.lt_of_lt_of_le (by have := World.block_lt_of_cell? _ _ hw149_0; first | rwa [add_block] at this | exact this) GW152.out) | (rw [add_block]; exact Nat.ne_of_lt (Nat.lt_of_lt_of_le (by have := World.block_lt_of_cell? _ _ hw149_0; first | rwa [add_block] at this | exact this) GW152.out)) | (show (Addr.add _ _).block ≠ _; rw [add_block]; exact Nat.ne_of_lt (Nat.lt_of_lt_of_le (by have := World.block_lt_of_cell? _ _ hw149_0; first | rwa [add_block] at this | exact this) GW152.out)) | (dsimp only; exact Nat.ne_of_lt (Nat.lt_of_lt_of_le (by have := World.block_lt_of_cell? _ _ hw149_0; first | rwa [add_block] at this | exact this) GW152.out))) _).trans (((cell_far (p := ⟨gb152, _, none⟩) (by first | exact Nat.ne_of_lt (Nat.lt_of_lt_of_le (by have := World.block_lt_of_cell? _ _ hw149_0; first | rwa [add_block] at this | exact this) GW152.out) | (rw [add_block]; exact Nat.ne_of_lt (Nat.lt_of_lt_of_le (by have := World.block_lt_of_cell? _ _ hw149_0; first | rwa [add_block] at this | exact this) GW152.out)) | (show (Addr.add _ _).block ≠ _; rw [add_block]; exact Nat.ne_of_lt (Nat.lt_of_lt_of_le (by have := World.block_lt_of_cell? _ _ hw149_0; first | rwa [add_block] at this | exact this) GW152.out)) | (dsimp only; exact Nat.ne_of_lt (Nat.lt_of_lt_of_le (by have := World.block_lt_of_cell? _ _ hw149_0; first | rwa [add_block] at this | exact this) GW152.out))) _).trans (hHeld.1)))))), ((cell_far (p := ⟨gb152, _, none⟩) (by first | exact Nat.ne_of_lt (Nat.lt_of_lt_of_le (by have := World.block_lt_of_cell? _ _ hw149_1; first | rwa [add_block] at this | exact this) GW152.out) | (rw [add_block]; exact Nat.ne_of_lt (Nat.lt_of_lt_of_le (by have := World.block_lt_of_cell? _ _ hw149_1; first | rwa [add_block] at this | exact this) GW152.out)) | (show (Addr.add _ _).block ≠ _; rw [add_block]; exact Nat.ne_of_lt (Nat.lt_of_lt_of_le (by have := World.block_lt_of_cell? _ _ hw149_1; first | rwa [add_block] at this | exact this) GW152.out)) | (dsimp only; exact Nat.ne_of_lt (Nat.lt_of_lt_of_le (by have := World.block_lt_of_cell? _ _ hw149_1; first | rwa [add_block] at this | exact this) GW152.out))) _).trans (((cell_far (p := ⟨gb152, _, none⟩) (by first | exact Nat.ne_of_lt (Nat.lt_of_lt_of_le (by have := World.block_lt_of_cell? _ _ hw149_1; first | rwa [add_block] at this | exact this) GW152.out) | (rw [add_block]; exact Nat.ne_of_lt (Nat.lt_of_lt_of_le (by have := World.block_lt_of_cell? _ _ hw149_1; first | rwa [add_block] at this | exact this) GW152.out)) | (show (Addr.add _ _).block ≠ _; rw [add_block]; exact Nat.ne_of_lt (Nat.lt_of_lt_of_le (by have := World.block_lt_of_cell? _ _ hw149_1; first | rwa [add_block] at this | exact this) GW152.out)) | (dsimp only; exact Nat.ne_of_lt (Nat.lt_of_lt_of_le (by have := World.block_lt_of_cell? _ _ hw149_1; first | rwa [add_block] at this | exact this) GW152.out))) _).trans (((cell_far (p := ⟨gb152, _, none⟩) (by first | exact Nat.ne_of_lt (Nat.lt_of_lt_of_le (by have := World.block_lt_of_cell? _ _ hw149_1; first | rwa [add_block] at this | exact this) GW152.out) | (rw [add_block]; exact Nat.ne_of_lt (Nat.lt_of_lt_of_le (by have := World.block_lt_of_cell? _ _ hw149_1; first | rwa [add_block] at this | exact this) GW152.out)) | (show (Addr.add _ _).block ≠ _; rw [add_block]; exact Nat.ne_of_lt (Nat.lt_of_lt_of_le (by have := World.block_lt_of_cell? _ _ hw149_1; first | rwa [add_block] at this | exact this) GW152.out)) | (dsimp only; exact Nat.ne_of_lt (Nat.lt_of_lt_of_le (by have := World.block_lt_of_cell? _ _ hw149_1; first | rwa [add_block] at this | exact this) GW152.out))) _).trans (hHeld.2.1)))))), ((cell_far (p := ⟨gb152, _, none⟩) (by first | exact Nat.ne_of_lt (Nat.lt_of_lt_of_le (by have := World.block_lt_of_cell? _ _ hw149_2; first | rwa [add_block] at this | exact this) GW152.out) | (rw [add_block]; exact Nat.ne_of_lt (Nat.lt_of_lt_of_le (by have := World.block_lt_of_cell? _ _ hw149_2; first | rwa [add_block] at this | exact this) GW152.out)) | (show (Addr.add _ _).block ≠ _; rw [add_block]; exact Nat.ne_of_lt (Nat.lt_of_lt_of_le (by have := World.block_lt_of_cell? _ _ hw149_2; first | rwa [add_block] at this | exact this) GW152.out)) | (dsimp only; exact Nat.ne_of_lt (Nat.lt_of_lt_of_le (by have := World.block_lt_of_cell? _ _ hw149_2; first | rwa [add_block] at this | exact this) GW152.out))) _).trans (((cell_far (p := ⟨gb152, _, none⟩) (by first | exact Nat.ne_of_lt (Nat.lt_of_lt_of_le (by have := World.block_lt_of_cell? _ _ hw149_2; first | rwa [add_block] at this | exact this) GW152.out) | (rw [add_block]; exact Nat.ne_of_lt (Nat.lt_of_lt_of_le (by have := World.block_lt_of_cell? _ _ hw149_2; first | rwa [add_block] at this | exact this) GW152.out)) | (show (Addr.add _ _).block ≠ _; rw [add_block]; exact Nat.ne_of_lt (Nat.lt_of_lt_of_le (by have := World.block_lt_of_cell? _ _ hw149_2; first | rwa [add_block] at this | exact this) GW152.out)) | (dsimp only; exact Nat.ne_of_lt (Nat.lt_of_lt_of_le (by have := World.block_lt_of_cell? _ _ hw149_2; first | rwa [add_block] at this | exact this) GW152.out))) _).trans (((cell_far (p := ⟨gb152, _, none⟩) (by first | exact Nat.ne_of_lt (Nat.lt_of_lt_of_le (by have := World.block_lt_of_cell? _ _ hw149_2; first | rwa [add_block] at this | exact this) GW152.out) | (rw [add_block]; exact Nat.ne_of_lt (Nat.lt_of_lt_of_le (by have := World.block_lt_of_cell? _ _ hw149_2; first | rwa [add_block] at this | exact this) GW152.out)) | (show (Addr.add _ _).block ≠ _; rw [add_block]; exact Nat.ne_of_lt (Nat.lt_of_lt_of_le (by have := World.block_lt_of_cell? _ _ hw149_2; first | rwa [add_block] at this | exact this) GW152.out)) | (dsimp only; exact Nat.ne_of_lt (Nat.lt_of_lt_of_le (by have := World.block_lt_of_cell? _ _ hw149_2; first | rwa [add_block] at this | exact this) GW152.out))) _).trans (hHeld.2.2.1)))))), ((cell_far (p := ⟨gb152, _, none⟩) (by first | exact Nat.ne_of_lt (Nat.lt_of_lt_of_le (by have := World.block_lt_of_cell? _ _ hw150_0; first | rwa [add_block] at this | exact this) GW152.out) | (rw [add_block]; exact Nat.ne_of_lt (Nat.lt_of_lt_of_le (by have := World.block_lt_of_cell? _ _ hw150_0; first | rwa [add_block] at this | exact this) GW152.out)) | (show (Addr.add _ _).block ≠ _; rw [add_block]; exact Nat.ne_of_lt (Nat.lt_of_lt_of_le (by have := World.block_lt_of_cell? _ _ hw150_0; first | rwa [add_block] at this | exact this) GW152.out)) | (dsimp only; exact Nat.ne_of_lt (Nat.lt_of_lt_of_le (by have := World.block_lt_of_cell? _ _ hw150_0; first | rwa [add_block] at this | exact this) GW152.out))) _).trans (((cell_far (p := ⟨gb152, _, none⟩) (by first | exact Nat.ne_of_lt (Nat.lt_of_lt_of_le (by have := World.block_lt_of_cell? _ _ hw150_0; first | rwa [add_block] at this | exact this) GW152.out) | (rw [add_block]; exact Nat.ne_of_lt (Nat.lt_of_lt_of_le (by have := World.block_lt_of_cell? _ _ hw150_0; first | rwa [add_block] at this | exact this) GW152.out)) | (show (Addr.add _ _).block ≠ _; rw [add_block]; exact Nat.ne_of_lt (Nat.lt_of_lt_of_le (by have := World.block_lt_of_cell? _ _ hw150_0; first | rwa [add_block] at this | exact this) GW152.out)) | (dsimp only; exact Nat.ne_of_lt (Nat.lt_of_lt_of_le (by have := World.block_lt_of_cell? _ _ hw150_0; first | rwa [add_block] at this | exact this) GW152.out))) _).trans (((cell_far (p := ⟨gb152, _, none⟩) (by first | exact Nat.ne_of_lt (Nat.lt_of_lt_of_le (by have := World.block_lt_of_cell? _ _ hw150_0; first | rwa [add_block] at this | exact this) GW152.out) | (rw [add_block]; exact Nat.ne_of_lt (Nat.lt_of_lt_of_le (by have := World.block_lt_of_cell? _ _ hw150_0; first | rwa [add_block] at this | exact this) GW152.out)) | (show (Addr.add _ _).block ≠ _; rw [add_block]; exact Nat.ne_of_lt (Nat.lt_of_lt_of_le (by have := World.block_lt_of_cell? _ _ hw150_0; first | rwa [add_block] at this | exact this) GW152.out)) | (dsimp only; exact Nat.ne_of_lt (Nat.lt_of_lt_of_le (by have := World.block_lt_of_cell? _ _ hw150_0; first | rwa [add_block] at this | exact this) GW152.out))) _).trans (hHeld.2.2.2.1)))))), ((cell_far (p := ⟨gb152, _, none⟩) (by first | exact Nat.ne_of_lt (Nat.lt_of_lt_of_le (by have := World.block_lt_of_cell? _ _ hw150_1; first | rwa [add_block] at this | exact this) GW152.out) | (rw [add_block]; exact Nat.ne_of_lt (Nat.lt_of_lt_of_le (by have := World.block_lt_of_cell? _ _ hw150_1; first | rwa [add_block] at this | exact this) GW152.out)) | (show (Addr.add _ _).block ≠ _; rw [add_block]; exact Nat.ne_of_lt (Nat.lt_of_lt_of_le (by have := World.block_lt_of_cell? _ _ hw150_1; first | rwa [add_block] at this | exact this) GW152.out)) | (dsimp only; exact Nat.ne_of_lt (Nat.lt_of_lt_of_le (by have := World.block_lt_of_cell? _ _ hw150_1; first | rwa [add_block] at this | exact this) GW152.out))) _).trans (((cell_far (p := ⟨gb152, _, none⟩) (by first | exact Nat.ne_of_lt (Nat.lt_of_lt_of_le (by have := World.block_lt_of_cell? _ _ hw150_1; first | rwa [add_block] at this | exact this) GW152.out) | (rw [add_block]; exact Nat.ne_of_lt (Nat.lt_of_lt_of_le (by have := World.block_lt_of_cell? _ _ hw150_1; first | rwa [add_block] at this | exact this) GW152.out)) | (show (Addr.add _ _).block ≠ _; rw [add_block]; exact Nat.ne_of_lt (Nat.lt_of_lt_of_le (by have := World.block_lt_of_cell? _ _ hw150_1; first | rwa [add_block] at this | exact this) GW152.out)) | (dsimp only; exact Nat.ne_of_lt (Nat.lt_of_lt_of_le (by have := World.block_lt_of_cell? _ _ hw150_1; first | rwa [add_block] at this | exact this) GW152.out))) _).trans (((cell_far (p := ⟨gb152, _, none⟩) (by first | exact Nat.ne_of_lt (Nat.lt_of_lt_of_le (by have := World.block_lt_of_cell? _ _ hw150_1; first | rwa [add_block] at this | exact this) GW152.out) | (rw [add_block]; exact Nat.ne_of_lt (Nat.lt_of_lt_of_le (by have := World.block_lt_of_cell? _ _ hw150_1; first | rwa [add_block] at this | exact this) GW152.out)) | (show (Addr.add _ _).block ≠ _; rw [add_block]; exact Nat.ne_of_lt (Nat.lt_of_lt_of_le (by have := World.block_lt_of_cell? _ _ hw150_1; first | rwa [add_block] at this | exact this) GW152.out)) | (dsimp only; exact Nat.ne_of_lt (Nat.lt_of_lt_of_le (by have := World.block_lt_of_cell? _ _ hw150_1; first | rwa [add_block] at this | exact this) GW152.out))) _).trans (hHeld.2.2.2.2.1)))))), ((cell_far (p := ⟨gb152, _, none⟩) (by first | exact Nat.ne_of_lt (Nat.lt_of_lt_of_le (by have := World.block_lt_of_cell? _ _ hw150_2; first | rwa [add_block] at this | exact this) GW152.out) | (rw [add_block]; exact Nat.ne_of_lt (Nat.lt_of_lt_of_le (by have := World.block_lt_of_cell? _ _ hw150_2; first | rwa [add_block] at this | exact this) GW152.out)) | (show (Addr.add _ _).block ≠ _; rw [add_block]; exact Nat.ne_of_lt (Nat.lt_of_lt_of_le (by have := World.block_lt_of_cell? _ _ hw150_2; first | rwa [add_block] at this | exact this) GW152.out)) | (dsimp only; exact Nat.ne_of_lt (Nat.lt_of_lt_of_le (by have := World.block_lt_of_cell? _ _ hw150_2; first | rwa [add_block] at this | exact this) GW152.out))) _).trans (((cell_far (p := ⟨gb152, _, none⟩) (by first | exact Nat.ne_of_lt (Nat.lt_of_lt_of_le (by have := World.block_lt_of_cell? _ _ hw150_2; first | rwa [add_block] at this | exact this) GW152.out) | (rw [add_block]; exact Nat.ne_of_lt (Nat.lt_of_lt_of_le (by have := World.block_lt_of_cell? _ _ hw150_2; first | rwa [add_block] at this | exact this) GW152.out)) | (show (Addr.add _ _).block ≠ _; rw [add_block]; exact Nat.ne_of_lt (Nat.lt_of_lt_of_le (by have := World.block_lt_of_cell? _ _ hw150_2; first | rwa [add_block] at this | exact this) GW152.out)) | (dsimp only; exact Nat.ne_of_lt (Nat.lt_of_lt_of_le (by have := World.block_lt_of_cell? _ _ hw150_2; first | rwa [add_block] at this | exact this) GW152.out))) _).trans (((cell_far (p := ⟨gb152, _, none⟩) (by first | exact Nat.ne_of_lt (Nat.lt_of_lt_of_le (by have := World.block_lt_of_cell? _ _ hw150_2; first | rwa [add_block] at this | exact this) GW152.out) | (rw [add_block]; exact Nat.ne_of_lt (Nat.lt_of_lt_of_le (by have := World.block_lt_of_cell? _ _ hw150_2; first | rwa [add_block] at this | exact this) GW152.out)) | (show (Addr.add _ _).block ≠ _; rw [add_block]; exact Nat.ne_of_lt (Nat.lt_of_lt_of_le (by have := World.block_lt_of_cell? _ _ hw150_2; first | rwa [add_block] at this | exact this) GW152.out)) | (dsimp only; exact Nat.ne_of_lt (Nat.lt_of_lt_of_le (by have := World.block_lt_of_cell? _ _ hw150_2; first | rwa [add_block] at this | exact this) GW152.out))) _).trans (hHeld.2.2.2.2.2))))))⟩ (fun hHeld => ?_)
              clear hK K
              refine done_ (done_of HT_.out (by kernel_rfl)) ?_
              go_upto_region 5 with (fail)
              go_cut [40] (fun v40 wc => ∃ (kq : Nat) (x40_18 : Bool), v40 = .bool x40_18 ∧ Aside0 (haspref03_Do.j1 kq a0 x40_18 0 0 (⟨#[]⟩ : ByteArray) ((rd_T25 l1 0).f0) ((rd_T25 l1 0).f1) ((rd_T25 l1 0).f2) ((rd_T25 l1 (ji16)).f0) ((rd_T25 l1 (ji16)).f1) ((rd_T25 l1 (ji16)).f2) = some (r1, r2, r3, r4)) ∧ Aside0 (kq ≤ kj2) ∧ Aside0 (wc.heap[gb145]? = some (.cells #[.int .i64 0, .int .i64 0, .string (⟨#[]⟩ : ByteArray)] 25 (0, 0))) ∧ Aside0 (wc.heap[gb146]? = some (.cells #[.int .i64 0, .int .i64 0, .string (⟨#[]⟩ : ByteArray)] 25 (0, 0))) ∧ Aside0 (wc.heap[gb151]? = some (.cells #[.int .i64 ((rd_T25 l1 0).f0), .int .i64 ((rd_T25 l1 0).f1), .string ((rd_T25 l1 0).f2)] 25 (0, 0))) ∧ Aside0 (wc.heap[gb152]? = some (.cells #[.int .i64 ((rd_T25 l1 (ji16)).f0), .int .i64 ((rd_T25 l1 (ji16)).f1), .string ((rd_T25 l1 (ji16)).f2)] 25 (0, 0))) ∧ Aside0 (Below w.heap.size w wc))
              case first =>
                have H := HC19.out
                clear HC19
                by_cases c30 : ((rd_T25 l1 0).f0) = 0
                · rw [if_pos c30] at H
                  have c30b0 : (((rd_T25 l1 0).f0) == 0) = true := beq_iff_eq.mpr c30
                  have c30b1 : (((rd_T25 l1 0).f0) != 0) = false := bne_eq_false_iff_eq.mpr c30
                  clear c30
                  (first | rw [c30b0] | (simp only [i64_w, i32_w]; rw [c30b0]) | skip)
                  have H' := Aside0.mk H
                  clear H
                  have hnb31 := NB151_145.out
                  have hnc31 := NB145_151.out
                  have hnb32 := NB151_146.out
                  have hnc32 := NB146_151.out
                  have hnb33 := NB151_152.out
                  have hnc33 := NB152_151.out
                  have hcz34_0 : w23.cell? ⟨gb151, 0, none⟩ = some (.int .i64 0) := (blk_cell BK151.out 0).trans rfl
                  have hcz34_1 : w23.cell? ⟨gb151, 1, none⟩ = some (.int .i64 0) := (blk_cell BK151.out 1).trans rfl
                  have hcz34_2 : w23.cell? ⟨gb151, 2, none⟩ = some (.string (⟨#[]⟩ : ByteArray)) := (blk_cell BK151.out 2).trans rfl
                  have hfz34_0 := blk_frozen BK151.out 0
                  have hfz34_1 := blk_frozen BK151.out 1
                  have hfz34_2 := blk_frozen BK151.out 2
                  go_wp2
                  go_meet
                  case rel => exact ⟨_, (true), (by first | rfl | (simp; done) | (simp [*]; done) | (simp; exact isEmpty_bne _) | (simp [*]; exact isEmpty_bne _)), H', ⟨by have := HJ2.out; first | omega | exact Nat.le_refl _⟩, ⟨by (with_reducible repeat (first | refine blk_drewN ?_ _ | refine blk_drew ?_ | refine blk_alloc ?_ _)); refine blk_far ?_ NB145_152.out _; (with_reducible repeat (first | refine blk_drewN ?_ _ | refine blk_drew ?_ | refine blk_alloc ?_ _)); refine blk_far ?_ NB145_152.out _; (with_reducible repeat (first | refine blk_drewN ?_ _ | refine blk_drew ?_ | refine blk_alloc ?_ _)); refine blk_far ?_ NB145_152.out _; (with_reducible repeat (first | refine blk_drewN ?_ _ | refine blk_drew ?_ | refine blk_alloc ?_ _)); refine blk_far ?_ NB145_151.out _; (with_reducible repeat (first | refine blk_drewN ?_ _ | refine blk_drew ?_ | refine blk_alloc ?_ _)); refine blk_far ?_ NB145_151.out _; (with_reducible repeat (first | refine blk_drewN ?_ _ | refine blk_drew ?_ | refine blk_alloc ?_ _)); refine blk_far ?_ NB145_151.out _; (with_reducible repeat (first | refine blk_drewN ?_ _ | refine blk_drew ?_ | refine blk_alloc ?_ _)); exact BK145.out⟩, ⟨by (with_reducible repeat (first | refine blk_drewN ?_ _ | refine blk_drew ?_ | refine blk_alloc ?_ _)); refine blk_far ?_ NB146_152.out _; (with_reducible repeat (first | refine blk_drewN ?_ _ | refine blk_drew ?_ | refine blk_alloc ?_ _)); refine blk_far ?_ NB146_152.out _; (with_reducible repeat (first | refine blk_drewN ?_ _ | refine blk_drew ?_ | refine blk_alloc ?_ _)); refine blk_far ?_ NB146_152.out _; (with_reducible repeat (first | refine blk_drewN ?_ _ | refine blk_drew ?_ | refine blk_alloc ?_ _)); refine blk_far ?_ NB146_151.out _; (with_reducible repeat (first | refine blk_drewN ?_ _ | refine blk_drew ?_ | refine blk_alloc ?_ _)); refine blk_far ?_ NB146_151.out _; (with_reducible repeat (first | refine blk_drewN ?_ _ | refine blk_drew ?_ | refine blk_alloc ?_ _)); refine blk_far ?_ NB146_151.out _; (with_reducible repeat (first | refine blk_drewN ?_ _ | refine blk_drew ?_ | refine blk_alloc ?_ _)); exact BK146.out⟩, ⟨by (with_reducible repeat (first | refine blk_drewN ?_ _ | refine blk_drew ?_ | refine blk_alloc ?_ _)); refine blk_far ?_ NB151_152.out _; (with_reducible repeat (first | refine blk_drewN ?_ _ | refine blk_drew ?_ | refine blk_alloc ?_ _)); refine blk_far ?_ NB151_152.out _; (with_reducible repeat (first | refine blk_drewN ?_ _ | refine blk_drew ?_ | refine blk_alloc ?_ _)); refine blk_far ?_ NB151_152.out _; (with_reducible repeat (first | refine blk_drewN ?_ _ | refine blk_drew ?_ | refine blk_alloc ?_ _)); refine blk_put (cs := #[.int .i64 ((rd_T25 l1 0).f0), .int .i64 ((rd_T25 l1 0).f1), .string (⟨#[]⟩ : ByteArray)]) ?_ 2 _ rfl; (with_reducible repeat (first | refine blk_drewN ?_ _ | refine blk_drew ?_ | refine blk_alloc ?_ _)); refine blk_put (cs := #[.int .i64 ((rd_T25 l1 0).f0), .int .i64 0, .string (⟨#[]⟩ : ByteArray)]) ?_ 1 _ rfl; (with_reducible repeat (first | refine blk_drewN ?_ _ | refine blk_drew ?_ | refine blk_alloc ?_ _)); refine blk_put (cs := #[.int .i64 0, .int .i64 0, .string (⟨#[]⟩ : ByteArray)]) ?_ 0 _ rfl; (with_reducible repeat (first | refine blk_drewN ?_ _ | refine blk_drew ?_ | refine blk_alloc ?_ _)); exact BK151.out⟩, ⟨by (with_reducible repeat (first | refine blk_drewN ?_ _ | refine blk_drew ?_ | refine blk_alloc ?_ _)); refine blk_put (cs := #[.int .i64 ((rd_T25 l1 (ji16)).f0), .int .i64 ((rd_T25 l1 (ji16)).f1), .string (⟨#[]⟩ : ByteArray)]) ?_ 2 _ rfl; (with_reducible repeat (first | refine blk_drewN ?_ _ | refine blk_drew ?_ | refine blk_alloc ?_ _)); refine blk_put (cs := #[.int .i64 ((rd_T25 l1 (ji16)).f0), .int .i64 0, .string (⟨#[]⟩ : ByteArray)]) ?_ 1 _ rfl; (with_reducible repeat (first | refine blk_drewN ?_ _ | refine blk_drew ?_ | refine blk_alloc ?_ _)); refine blk_put (cs := #[.int .i64 0, .int .i64 0, .string (⟨#[]⟩ : ByteArray)]) ?_ 0 _ rfl; (with_reducible repeat (first | refine blk_drewN ?_ _ | refine blk_drew ?_ | refine blk_alloc ?_ _)); refine blk_far ?_ NB152_151.out _; (with_reducible repeat (first | refine blk_drewN ?_ _ | refine blk_drew ?_ | refine blk_alloc ?_ _)); refine blk_far ?_ NB152_151.out _; (with_reducible repeat (first | refine blk_drewN ?_ _ | refine blk_drew ?_ | refine blk_alloc ?_ _)); refine blk_far ?_ NB152_151.out _; (with_reducible repeat (first | refine blk_drewN ?_ _ | refine blk_drew ?_ | refine blk_alloc ?_ _)); exact BK152.out⟩, ⟨by repeat (first | (with_reducible first | exact HB.out | apply below_alloc | apply pw_below_drewN | apply below_drew1 | refine below_set ?_ GE145.out | refine below_set ?_ GE146.out | refine below_set ?_ GE151.out | refine below_set ?_ GE152.out) | exact HB.out)⟩⟩
                · rw [if_neg c30] at H
                  have c30b0 : (((rd_T25 l1 0).f0) == 0) = false := beq_eq_false_iff_ne.mpr c30
                  have c30b1 : (((rd_T25 l1 0).f0) != 0) = true := bne_iff_ne.mpr c30
                  (first | rw [c30b0] | (simp only [i64_w, i32_w]; rw [c30b0]) | skip)
                  have H' := Aside0.mk H
                  clear H
                  have hnb35 := NB151_145.out
                  have hnc35 := NB145_151.out
                  have hnb36 := NB151_146.out
                  have hnc36 := NB146_151.out
                  have hnb37 := NB151_152.out
                  have hnc37 := NB152_151.out
                  have hcz38_0 : w23.cell? ⟨gb151, 0, none⟩ = some (.int .i64 0) := (blk_cell BK151.out 0).trans rfl
                  have hcz38_1 : w23.cell? ⟨gb151, 1, none⟩ = some (.int .i64 0) := (blk_cell BK151.out 1).trans rfl
                  have hcz38_2 : w23.cell? ⟨gb151, 2, none⟩ = some (.string (⟨#[]⟩ : ByteArray)) := (blk_cell BK151.out 2).trans rfl
                  have hfz38_0 := blk_frozen BK151.out 0
                  have hfz38_1 := blk_frozen BK151.out 1
                  have hfz38_2 := blk_frozen BK151.out 2
                  have hnb39 := NB152_145.out
                  have hnc39 := NB145_152.out
                  have hnb40 := NB152_146.out
                  have hnc40 := NB146_152.out
                  have hcz41_0 : w23.cell? ⟨gb152, 0, none⟩ = some (.int .i64 0) := (blk_cell BK152.out 0).trans rfl
                  have hcz41_1 : w23.cell? ⟨gb152, 1, none⟩ = some (.int .i64 0) := (blk_cell BK152.out 1).trans rfl
                  have hcz41_2 : w23.cell? ⟨gb152, 2, none⟩ = some (.string (⟨#[]⟩ : ByteArray)) := (blk_cell BK152.out 2).trans rfl
                  have hfz41_0 := blk_frozen BK152.out 0
                  have hfz41_1 := blk_frozen BK152.out 1
                  have hfz41_2 := blk_frozen BK152.out 2
                  go_wp2
                  go_meet
                  case rel => exact ⟨_, ((((rd_T25 l1 (ji16)).f0) == 0)), (by first | rfl | (simp; done) | (simp only [← hji16] <;> (first | rfl | simp)) | (simp [*]; done) | (simp; exact isEmpty_bne _) | (simp [*]; exact isEmpty_bne _)), H', ⟨by have := HJ2.out; first | omega | exact Nat.le_refl _⟩, ⟨by (with_reducible repeat (first | refine blk_drewN ?_ _ | refine blk_drew ?_ | refine blk_alloc ?_ _)); refine blk_far ?_ NB145_152.out _; (with_reducible repeat (first | refine blk_drewN ?_ _ | refine blk_drew ?_ | refine blk_alloc ?_ _)); refine blk_far ?_ NB145_152.out _; (with_reducible repeat (first | refine blk_drewN ?_ _ | refine blk_drew ?_ | refine blk_alloc ?_ _)); refine blk_far ?_ NB145_152.out _; (with_reducible repeat (first | refine blk_drewN ?_ _ | refine blk_drew ?_ | refine blk_alloc ?_ _)); refine blk_far ?_ NB145_151.out _; (with_reducible repeat (first | refine blk_drewN ?_ _ | refine blk_drew ?_ | refine blk_alloc ?_ _)); refine blk_far ?_ NB145_151.out _; (with_reducible repeat (first | refine blk_drewN ?_ _ | refine blk_drew ?_ | refine blk_alloc ?_ _)); refine blk_far ?_ NB145_151.out _; (with_reducible repeat (first | refine blk_drewN ?_ _ | refine blk_drew ?_ | refine blk_alloc ?_ _)); exact BK145.out⟩, ⟨by (with_reducible repeat (first | refine blk_drewN ?_ _ | refine blk_drew ?_ | refine blk_alloc ?_ _)); refine blk_far ?_ NB146_152.out _; (with_reducible repeat (first | refine blk_drewN ?_ _ | refine blk_drew ?_ | refine blk_alloc ?_ _)); refine blk_far ?_ NB146_152.out _; (with_reducible repeat (first | refine blk_drewN ?_ _ | refine blk_drew ?_ | refine blk_alloc ?_ _)); refine blk_far ?_ NB146_152.out _; (with_reducible repeat (first | refine blk_drewN ?_ _ | refine blk_drew ?_ | refine blk_alloc ?_ _)); refine blk_far ?_ NB146_151.out _; (with_reducible repeat (first | refine blk_drewN ?_ _ | refine blk_drew ?_ | refine blk_alloc ?_ _)); refine blk_far ?_ NB146_151.out _; (with_reducible repeat (first | refine blk_drewN ?_ _ | refine blk_drew ?_ | refine blk_alloc ?_ _)); refine blk_far ?_ NB146_151.out _; (with_reducible repeat (first | refine blk_drewN ?_ _ | refine blk_drew ?_ | refine blk_alloc ?_ _)); exact BK146.out⟩, ⟨by (with_reducible repeat (first | refine blk_drewN ?_ _ | refine blk_drew ?_ | refine blk_alloc ?_ _)); refine blk_far ?_ NB151_152.out _; (with_reducible repeat (first | refine blk_drewN ?_ _ | refine blk_drew ?_ | refine blk_alloc ?_ _)); refine blk_far ?_ NB151_152.out _; (with_reducible repeat (first | refine blk_drewN ?_ _ | refine blk_drew ?_ | refine blk_alloc ?_ _)); refine blk_far ?_ NB151_152.out _; (with_reducible repeat (first | refine blk_drewN ?_ _ | refine blk_drew ?_ | refine blk_alloc ?_ _)); refine blk_put (cs := #[.int .i64 ((rd_T25 l1 0).f0), .int .i64 ((rd_T25 l1 0).f1), .string (⟨#[]⟩ : ByteArray)]) ?_ 2 _ rfl; (with_reducible repeat (first | refine blk_drewN ?_ _ | refine blk_drew ?_ | refine blk_alloc ?_ _)); refine blk_put (cs := #[.int .i64 ((rd_T25 l1 0).f0), .int .i64 0, .string (⟨#[]⟩ : ByteArray)]) ?_ 1 _ rfl; (with_reducible repeat (first | refine blk_drewN ?_ _ | refine blk_drew ?_ | refine blk_alloc ?_ _)); refine blk_put (cs := #[.int .i64 0, .int .i64 0, .string (⟨#[]⟩ : ByteArray)]) ?_ 0 _ rfl; (with_reducible repeat (first | refine blk_drewN ?_ _ | refine blk_drew ?_ | refine blk_alloc ?_ _)); exact BK151.out⟩, ⟨by (with_reducible repeat (first | refine blk_drewN ?_ _ | refine blk_drew ?_ | refine blk_alloc ?_ _)); refine blk_put (cs := #[.int .i64 ((rd_T25 l1 (ji16)).f0), .int .i64 ((rd_T25 l1 (ji16)).f1), .string (⟨#[]⟩ : ByteArray)]) ?_ 2 _ rfl; (with_reducible repeat (first | refine blk_drewN ?_ _ | refine blk_drew ?_ | refine blk_alloc ?_ _)); refine blk_put (cs := #[.int .i64 ((rd_T25 l1 (ji16)).f0), .int .i64 0, .string (⟨#[]⟩ : ByteArray)]) ?_ 1 _ rfl; (with_reducible repeat (first | refine blk_drewN ?_ _ | refine blk_drew ?_ | refine blk_alloc ?_ _)); refine blk_put (cs := #[.int .i64 0, .int .i64 0, .string (⟨#[]⟩ : ByteArray)]) ?_ 0 _ rfl; (with_reducible repeat (first | refine blk_drewN ?_ _ | refine blk_drew ?_ | refine blk_alloc ?_ _)); refine blk_far ?_ NB152_151.out _; (with_reducible repeat (first | refine blk_drewN ?_ _ | refine blk_drew ?_ | refine blk_alloc ?_ _)); refine blk_far ?_ NB152_151.out _; (with_reducible repeat (first | refine blk_drewN ?_ _ | refine blk_drew ?_ | refine blk_alloc ?_ _)); refine blk_far ?_ NB152_151.out _; (with_reducible repeat (first | refine blk_drewN ?_ _ | refine blk_drew ?_ | refine blk_alloc ?_ _)); exact BK152.out⟩, ⟨by repeat (first | (with_reducible first | exact HB.out | apply below_alloc | apply pw_below_drewN | apply below_drew1 | refine below_set ?_ GE145.out | refine below_set ?_ GE146.out | refine below_set ?_ GE151.out | refine below_set ?_ GE152.out) | exact HB.out)⟩⟩
              case rest =>
                clear HC19
                try clear c1
                try clear p1
                try clear q1
                try clear hx1
                try clear qi1
                try clear c2
                try clear p2
                try clear c3
                try clear c4
                try clear c6
                try clear p6
                try clear c9
                try clear c9b0
                try clear c9b1
                try clear c11
                try clear c12
                try clear c13
                try clear p14
                try clear q14
                try clear hx14
                try clear qi14
                try clear c15
                try clear c15b0
                try clear c15b1
                try clear p15
                try clear q15
                try clear hx15
                try clear c17
                try clear c17b0
                try clear c18
                try clear c18b0
                try clear c24
                try clear c30
                try clear c30b0
                try clear c30b1
                try clear c31
                try clear c32
                try clear c33
                try clear c35
                try clear c36
                try clear c37
                try clear c39
                try clear c40
                try clear hcz13_0
                try clear hcz13_1
                try clear hcz13_2
                try clear hcz14_0
                try clear hcz14_1
                try clear hcz14_2
                try clear hcz34_0
                try clear hcz34_1
                try clear hcz34_2
                try clear hcz38_0
                try clear hcz38_1
                try clear hcz38_2
                try clear hcz41_0
                try clear hcz41_1
                try clear hcz41_2
                try clear hcz7_0
                try clear hcz7_1
                try clear hcz7_2
                try clear hfz13_0
                try clear hfz13_1
                try clear hfz13_2
                try clear hfz14_0
                try clear hfz14_1
                try clear hfz14_2
                try clear hfz34_0
                try clear hfz34_1
                try clear hfz34_2
                try clear hfz38_0
                try clear hfz38_1
                try clear hfz38_2
                try clear hfz41_0
                try clear hfz41_1
                try clear hfz41_2
                try clear hfz7_0
                try clear hfz7_1
                try clear hfz7_2
                try clear hx149_0
                try clear hx149_1
                try clear hx149_2
                try clear hx150_0
                try clear hx150_1
                try clear hx150_2
                try clear p149
                try clear p150
                try clear p2
                try clear q149
                try clear q150
                obtain ⟨kq, x40_18, rfl, HA, HJ18, BK145, BK146, BK151, BK152, HB⟩ := hcut
                cases kq with
                | zero => exact absurd HA.out (by simp [haspref03_Do.j1])
                | succ kj18 =>
                  have H := HA.out
                  clear HA
                  simp only [haspref03_Do.j1] at H
                  by_cases c42 : x40_18 = true
                  · subst c42
                    have H1 : (some (0, 0, (⟨#[]⟩ : ByteArray), 0)) = some (r1, r2, r3, r4) := by rw [if_pos rfl] at H; exact H
                    clear H
                    have H := H1
                    clear H1
                    simp only [Option.some.injEq, Prod.mk.injEq] at H
                    obtain ⟨rfl, rfl, rfl, rfl⟩ := H
                    have hnb43 := NB146_145.out
                    have hnc43 := NB145_146.out
                    have hnb44 := NB146_151.out
                    have hnc44 := NB151_146.out
                    have hnb45 := NB146_152.out
                    have hnc45 := NB152_146.out
                    have hcz46_0 : wc.cell? ⟨gb146, 0, none⟩ = some (.int .i64 0) := (blk_cell BK146.out 0).trans rfl
                    have hcz46_1 : wc.cell? ⟨gb146, 1, none⟩ = some (.int .i64 0) := (blk_cell BK146.out 1).trans rfl
                    have hcz46_2 : wc.cell? ⟨gb146, 2, none⟩ = some (.string (⟨#[]⟩ : ByteArray)) := (blk_cell BK146.out 2).trans rfl
                    have hfz46_0 := blk_frozen BK146.out 0
                    have hfz46_1 := blk_frozen BK146.out 1
                    have hfz46_2 := blk_frozen BK146.out 2
                    have hnb47 := NB145_151.out
                    have hnc47 := NB151_145.out
                    have hnb48 := NB145_152.out
                    have hnc48 := NB152_145.out
                    have hcz49_0 : wc.cell? ⟨gb145, 0, none⟩ = some (.int .i64 0) := (blk_cell BK145.out 0).trans rfl
                    have hcz49_1 : wc.cell? ⟨gb145, 1, none⟩ = some (.int .i64 0) := (blk_cell BK145.out 1).trans rfl
                    have hcz49_2 : wc.cell? ⟨gb145, 2, none⟩ = some (.string (⟨#[]⟩ : ByteArray)) := (blk_cell BK145.out 2).trans rfl
                    have hfz49_0 := blk_frozen BK145.out 0
                    have hfz49_1 := blk_frozen BK145.out 1
                    have hfz49_2 := blk_frozen BK145.out 2
                    go_wp2
                    refine bodyPost_ret (results_ct rfl _ _ gb145 25 #[.int .i64 0, .int .i64 0, .string (⟨#[]⟩ : ByteArray)] (0, 0) _ rfl (by (with_reducible repeat (first | refine blk_drewN ?_ _ | refine blk_drew ?_ | refine blk_alloc ?_ _)); refine blk_put (cs := #[.int .i64 0, .int .i64 0, .string (⟨#[]⟩ : ByteArray)]) ?_ 2 _ rfl; (with_reducible repeat (first | refine blk_drewN ?_ _ | refine blk_drew ?_ | refine blk_alloc ?_ _)); refine blk_put (cs := #[.int .i64 0, .int .i64 0, .string (⟨#[]⟩ : ByteArray)]) ?_ 1 _ rfl; (with_reducible repeat (first | refine blk_drewN ?_ _ | refine blk_drew ?_ | refine blk_alloc ?_ _)); refine blk_put (cs := #[.int .i64 0, .int .i64 0, .string (⟨#[]⟩ : ByteArray)]) ?_ 0 _ rfl; (with_reducible repeat (first | refine blk_drewN ?_ _ | refine blk_drew ?_ | refine blk_alloc ?_ _)); exact BK145.out) Try.underlying25 rfl (by kernel_rfl)) rfl ?_
                    exact ⟨by first | rfl | (simp [errW_none, errW_some] <;> rfl) | (simp only [← hji16]; first | rfl | (simp [errW_none, errW_some] <;> rfl)) | (simp [*, errW_none, errW_some] <;> rfl), by repeat (first | (with_reducible first | exact HB.out | apply below_alloc | apply pw_below_drewN | apply below_drew1 | refine below_set ?_ GE145.out | refine below_set ?_ GE146.out | refine below_set ?_ GE151.out | refine below_set ?_ GE152.out) | exact HB.out)⟩
                  · replace c42 := Bool.eq_false_iff.mpr c42
                    subst c42
                    have H1 : ((haspref03_One.f kj18 a0 ((rd_T25 l1 0).f0)).bind fun t153 => (if ((rd_T25 l1 0).f0) = ((rd_T25 l1 (ji16)).f0) then (haspref03_Do.j2 kj18 a0 t153 (t153 == 0) 0 0 (⟨#[]⟩ : ByteArray) ((rd_T25 l1 0).f0) ((rd_T25 l1 0).f1) ((rd_T25 l1 0).f2) ((rd_T25 l1 (ji16)).f0) ((rd_T25 l1 (ji16)).f1) ((rd_T25 l1 (ji16)).f2)) else (haspref03_Do.j2 kj18 a0 t153 true 0 0 (⟨#[]⟩ : ByteArray) ((rd_T25 l1 0).f0) ((rd_T25 l1 0).f1) ((rd_T25 l1 0).f2) ((rd_T25 l1 (ji16)).f0) ((rd_T25 l1 (ji16)).f1) ((rd_T25 l1 (ji16)).f2)))) = some (r1, r2, r3, r4) := by rw [if_neg (show ¬ (false = true) by decide)] at H; exact H
                    clear H
                    have H := H1
                    clear H1
                    replace H := Option.bind_eq_some_iff.mp H
                    obtain ⟨t153, A500, H⟩ := H
                    replace H : (if ((rd_T25 l1 0).f0) = ((rd_T25 l1 (ji16)).f0) then (haspref03_Do.j2 kj18 a0 t153 (t153 == 0) 0 0 (⟨#[]⟩ : ByteArray) ((rd_T25 l1 0).f0) ((rd_T25 l1 0).f1) ((rd_T25 l1 0).f2) ((rd_T25 l1 (ji16)).f0) ((rd_T25 l1 (ji16)).f1) ((rd_T25 l1 (ji16)).f2)) else (haspref03_Do.j2 kj18 a0 t153 true 0 0 (⟨#[]⟩ : ByteArray) ((rd_T25 l1 0).f0) ((rd_T25 l1 0).f1) ((rd_T25 l1 0).f2) ((rd_T25 l1 (ji16)).f0) ((rd_T25 l1 (ji16)).f1) ((rd_T25 l1 (ji16)).f2))) = some (r1, r2, r3, r4) := H
                    have A50 := Aside0.mk A500
                    clear A500
                    have HC51 := Aside0.mk H
                    clear H
                    have hnb52 := NB151_145.out
                    have hnc52 := NB145_151.out
                    have hnb53 := NB151_146.out
                    have hnc53 := NB146_151.out
                    have hnb54 := NB151_152.out
                    have hnc54 := NB152_151.out
                    have hcz55_0 : wc.cell? ⟨gb151, 0, none⟩ = some (.int .i64 ((rd_T25 l1 0).f0)) := (blk_cell BK151.out 0).trans rfl
                    have hcz55_1 : wc.cell? ⟨gb151, 1, none⟩ = some (.int .i64 ((rd_T25 l1 0).f1)) := (blk_cell BK151.out 1).trans rfl
                    have hcz55_2 : wc.cell? ⟨gb151, 2, none⟩ = some (.string ((rd_T25 l1 0).f2)) := (blk_cell BK151.out 2).trans rfl
                    have hfz55_0 := blk_frozen BK151.out 0
                    have hfz55_1 := blk_frozen BK151.out 1
                    have hfz55_2 := blk_frozen BK151.out 2
                    go_upto_region 8 with (first | ((with_reducible refine gate_callee (f := 25) rfl ?_); refine goesL_ (some 45) rfl rfl Try.func25 (by kernel_rfl) rfl #[.int .i64 a0, .int .i64 ((rd_T25 l1 0).f0)] rfl (by (try simp only [List.map_toArray, List.map_cons, List.map_nil]); first | done | rfl | (simp only [List.length_drop, List.length_take]; rfl)) ?_; (with_reducible refine (haspref03_One.calls kj18 a0 ((rd_T25 l1 0).f0) t153 _ A50.out).mono ?_); rintro e w' ⟨rfl, ⟨nd, rfl⟩⟩; refine ⟨_, rfl, ?_⟩))
                    (try simp only [Act.put, List.setIfInBounds_toArray, List.set_cons_zero, List.set_cons_succ])
                    go_cut [54] (fun v54 wc => ∃ (kq : Nat) (x54_50 : Bool), v54 = .bool x54_50 ∧ Aside0 (haspref03_Do.j2 kq a0 t153 x54_50 0 0 (⟨#[]⟩ : ByteArray) ((rd_T25 l1 0).f0) ((rd_T25 l1 0).f1) ((rd_T25 l1 0).f2) ((rd_T25 l1 (ji16)).f0) ((rd_T25 l1 (ji16)).f1) ((rd_T25 l1 (ji16)).f2) = some (r1, r2, r3, r4)) ∧ Aside0 (kq ≤ kj18) ∧ Aside0 (wc.heap[gb145]? = some (.cells #[.int .i64 0, .int .i64 0, .string (⟨#[]⟩ : ByteArray)] 25 (0, 0))) ∧ Aside0 (wc.heap[gb146]? = some (.cells #[.int .i64 0, .int .i64 0, .string (⟨#[]⟩ : ByteArray)] 25 (0, 0))) ∧ Aside0 (wc.heap[gb151]? = some (.cells #[.int .i64 ((rd_T25 l1 0).f0), .int .i64 ((rd_T25 l1 0).f1), .string ((rd_T25 l1 0).f2)] 25 (0, 0))) ∧ Aside0 (wc.heap[gb152]? = some (.cells #[.int .i64 ((rd_T25 l1 (ji16)).f0), .int .i64 ((rd_T25 l1 (ji16)).f1), .string ((rd_T25 l1 (ji16)).f2)] 25 (0, 0))) ∧ Aside0 (Below w.heap.size w wc))
                    case first =>
                      have H := HC51.out
                      clear HC51
                      by_cases c56 : ((rd_T25 l1 0).f0) = ((rd_T25 l1 (ji16)).f0)
                      · rw [if_pos c56] at H
                        have c56b0 : (((rd_T25 l1 0).f0) == ((rd_T25 l1 (ji16)).f0)) = true := beq_iff_eq.mpr c56
                        have c56b1 : (((rd_T25 l1 0).f0) != ((rd_T25 l1 (ji16)).f0)) = false := bne_eq_false_iff_eq.mpr c56
                        clear c56
                        (first | rw [c56b0] | (simp only [i64_w, i32_w]; rw [c56b0]) | skip)
                        have H' := Aside0.mk H
                        clear H
                        have hnb57 := NB151_145.out
                        have hnc57 := NB145_151.out
                        have hnb58 := NB151_146.out
                        have hnc58 := NB146_151.out
                        have hnb59 := NB151_152.out
                        have hnc59 := NB152_151.out
                        have hcz60_0 : wc.cell? ⟨gb151, 0, none⟩ = some (.int .i64 ((rd_T25 l1 0).f0)) := (blk_cell BK151.out 0).trans rfl
                        have hcz60_1 : wc.cell? ⟨gb151, 1, none⟩ = some (.int .i64 ((rd_T25 l1 0).f1)) := (blk_cell BK151.out 1).trans rfl
                        have hcz60_2 : wc.cell? ⟨gb151, 2, none⟩ = some (.string ((rd_T25 l1 0).f2)) := (blk_cell BK151.out 2).trans rfl
                        have hfz60_0 := blk_frozen BK151.out 0
                        have hfz60_1 := blk_frozen BK151.out 1
                        have hfz60_2 := blk_frozen BK151.out 2
                        have hnb61 := NB152_145.out
                        have hnc61 := NB145_152.out
                        have hnb62 := NB152_146.out
                        have hnc62 := NB146_152.out
                        have hcz63_0 : wc.cell? ⟨gb152, 0, none⟩ = some (.int .i64 ((rd_T25 l1 (ji16)).f0)) := (blk_cell BK152.out 0).trans rfl
                        have hcz63_1 : wc.cell? ⟨gb152, 1, none⟩ = some (.int .i64 ((rd_T25 l1 (ji16)).f1)) := (blk_cell BK152.out 1).trans rfl
                        have hcz63_2 : wc.cell? ⟨gb152, 2, none⟩ = some (.string ((rd_T25 l1 (ji16)).f2)) := (blk_cell BK152.out 2).trans rfl
                        have hfz63_0 := blk_frozen BK152.out 0
                        have hfz63_1 := blk_frozen BK152.out 1
                        have hfz63_2 := blk_frozen BK152.out 2
                        go_wp2
                        go_meet
                        case rel => exact ⟨_, ((t153 == 0)), (by first | rfl | (simp; done) | (simp [*]; done) | (simp; exact isEmpty_bne _) | (simp [*]; exact isEmpty_bne _)), H', ⟨by have := HJ2.out; have := HJ18.out; first | omega | exact Nat.le_refl _⟩, ⟨by (with_reducible repeat (first | refine blk_drewN ?_ _ | refine blk_drew ?_ | refine blk_alloc ?_ _)); exact BK145.out⟩, ⟨by (with_reducible repeat (first | refine blk_drewN ?_ _ | refine blk_drew ?_ | refine blk_alloc ?_ _)); exact BK146.out⟩, ⟨by (with_reducible repeat (first | refine blk_drewN ?_ _ | refine blk_drew ?_ | refine blk_alloc ?_ _)); exact BK151.out⟩, ⟨by (with_reducible repeat (first | refine blk_drewN ?_ _ | refine blk_drew ?_ | refine blk_alloc ?_ _)); exact BK152.out⟩, ⟨by repeat (first | (with_reducible first | exact HB.out | apply below_alloc | apply pw_below_drewN | apply below_drew1 | refine below_set ?_ GE145.out | refine below_set ?_ GE146.out | refine below_set ?_ GE151.out | refine below_set ?_ GE152.out) | exact HB.out)⟩⟩
                      · rw [if_neg c56] at H
                        have c56b0 : (((rd_T25 l1 0).f0) == ((rd_T25 l1 (ji16)).f0)) = false := beq_eq_false_iff_ne.mpr c56
                        have c56b1 : (((rd_T25 l1 0).f0) != ((rd_T25 l1 (ji16)).f0)) = true := bne_iff_ne.mpr c56
                        (first | rw [c56b0] | (simp only [i64_w, i32_w]; rw [c56b0]) | skip)
                        have H' := Aside0.mk H
                        clear H
                        have hnb64 := NB151_145.out
                        have hnc64 := NB145_151.out
                        have hnb65 := NB151_146.out
                        have hnc65 := NB146_151.out
                        have hnb66 := NB151_152.out
                        have hnc66 := NB152_151.out
                        have hcz67_0 : wc.cell? ⟨gb151, 0, none⟩ = some (.int .i64 ((rd_T25 l1 0).f0)) := (blk_cell BK151.out 0).trans rfl
                        have hcz67_1 : wc.cell? ⟨gb151, 1, none⟩ = some (.int .i64 ((rd_T25 l1 0).f1)) := (blk_cell BK151.out 1).trans rfl
                        have hcz67_2 : wc.cell? ⟨gb151, 2, none⟩ = some (.string ((rd_T25 l1 0).f2)) := (blk_cell BK151.out 2).trans rfl
                        have hfz67_0 := blk_frozen BK151.out 0
                        have hfz67_1 := blk_frozen BK151.out 1
                        have hfz67_2 := blk_frozen BK151.out 2
                        have hnb68 := NB152_145.out
                        have hnc68 := NB145_152.out
                        have hnb69 := NB152_146.out
                        have hnc69 := NB146_152.out
                        have hcz70_0 : wc.cell? ⟨gb152, 0, none⟩ = some (.int .i64 ((rd_T25 l1 (ji16)).f0)) := (blk_cell BK152.out 0).trans rfl
                        have hcz70_1 : wc.cell? ⟨gb152, 1, none⟩ = some (.int .i64 ((rd_T25 l1 (ji16)).f1)) := (blk_cell BK152.out 1).trans rfl
                        have hcz70_2 : wc.cell? ⟨gb152, 2, none⟩ = some (.string ((rd_T25 l1 (ji16)).f2)) := (blk_cell BK152.out 2).trans rfl
                        have hfz70_0 := blk_frozen BK152.out 0
                        have hfz70_1 := blk_frozen BK152.out 1
                        have hfz70_2 := blk_frozen BK152.out 2
                        go_wp2
                        go_meet
                        case rel => exact ⟨_, (true), (by first | rfl | (simp; done) | (simp [*]; done) | (simp; exact isEmpty_bne _) | (simp [*]; exact isEmpty_bne _)), H', ⟨by have := HJ2.out; have := HJ18.out; first | omega | exact Nat.le_refl _⟩, ⟨by (with_reducible repeat (first | refine blk_drewN ?_ _ | refine blk_drew ?_ | refine blk_alloc ?_ _)); exact BK145.out⟩, ⟨by (with_reducible repeat (first | refine blk_drewN ?_ _ | refine blk_drew ?_ | refine blk_alloc ?_ _)); exact BK146.out⟩, ⟨by (with_reducible repeat (first | refine blk_drewN ?_ _ | refine blk_drew ?_ | refine blk_alloc ?_ _)); exact BK151.out⟩, ⟨by (with_reducible repeat (first | refine blk_drewN ?_ _ | refine blk_drew ?_ | refine blk_alloc ?_ _)); exact BK152.out⟩, ⟨by repeat (first | (with_reducible first | exact HB.out | apply below_alloc | apply pw_below_drewN | apply below_drew1 | refine below_set ?_ GE145.out | refine below_set ?_ GE146.out | refine below_set ?_ GE151.out | refine below_set ?_ GE152.out) | exact HB.out)⟩⟩
                    case rest =>
                      clear HC51
                      try clear c1
                      try clear p1
                      try clear q1
                      try clear hx1
                      try clear qi1
                      try clear c2
                      try clear p2
                      try clear c3
                      try clear c4
                      try clear c5
                      try clear c6
                      try clear p6
                      try clear c9
                      try clear c9b0
                      try clear c9b1
                      try clear c11
                      try clear c12
                      try clear c13
                      try clear p14
                      try clear q14
                      try clear hx14
                      try clear qi14
                      try clear c15
                      try clear c15b0
                      try clear c15b1
                      try clear p15
                      try clear q15
                      try clear hx15
                      try clear c17
                      try clear c17b0
                      try clear c18
                      try clear c18b0
                      try clear c24
                      try clear c25
                      try clear c30
                      try clear c30b0
                      try clear c30b1
                      try clear c31
                      try clear c32
                      try clear c33
                      try clear c35
                      try clear c36
                      try clear c37
                      try clear c39
                      try clear c40
                      try clear c42
                      try clear c43
                      try clear c44
                      try clear c45
                      try clear c47
                      try clear c48
                      try clear c52
                      try clear c53
                      try clear c54
                      try clear c56
                      try clear c56b0
                      try clear c56b1
                      try clear c57
                      try clear c58
                      try clear c59
                      try clear c61
                      try clear c62
                      try clear c64
                      try clear c65
                      try clear c66
                      try clear c68
                      try clear c69
                      try clear hcz13_0
                      try clear hcz13_1
                      try clear hcz13_2
                      try clear hcz14_0
                      try clear hcz14_1
                      try clear hcz14_2
                      try clear hcz34_0
                      try clear hcz34_1
                      try clear hcz34_2
                      try clear hcz38_0
                      try clear hcz38_1
                      try clear hcz38_2
                      try clear hcz41_0
                      try clear hcz41_1
                      try clear hcz41_2
                      try clear hcz46_0
                      try clear hcz46_1
                      try clear hcz46_2
                      try clear hcz49_0
                      try clear hcz49_1
                      try clear hcz49_2
                      try clear hcz55_0
                      try clear hcz55_1
                      try clear hcz55_2
                      try clear hcz60_0
                      try clear hcz60_1
                      try clear hcz60_2
                      try clear hcz63_0
                      try clear hcz63_1
                      try clear hcz63_2
                      try clear hcz67_0
                      try clear hcz67_1
                      try clear hcz67_2
                      try clear hcz70_0
                      try clear hcz70_1
                      try clear hcz70_2
                      try clear hcz7_0
                      try clear hcz7_1
                      try clear hcz7_2
                      try clear hfz13_0
                      try clear hfz13_1
                      try clear hfz13_2
                      try clear hfz14_0
                      try clear hfz14_1
                      try clear hfz14_2
                      try clear hfz34_0
                      try clear hfz34_1
                      try clear hfz34_2
                      try clear hfz38_0
                      try clear hfz38_1
                      try clear hfz38_2
                      try clear hfz41_0
                      try clear hfz41_1
                      try clear hfz41_2
                      try clear hfz46_0
                      try clear hfz46_1
                      try clear hfz46_2
                      try clear hfz49_0
                      try clear hfz49_1
                      try clear hfz49_2
                      try clear hfz55_0
                      try clear hfz55_1
                      try clear hfz55_2
                      try clear hfz60_0
                      try clear hfz60_1
                      try clear hfz60_2
                      try clear hfz63_0
                      try clear hfz63_1
                      try clear hfz63_2
                      try clear hfz67_0
                      try clear hfz67_1
                      try clear hfz67_2
                      try clear hfz70_0
                      try clear hfz70_1
                      try clear hfz70_2
                      try clear hfz7_0
                      try clear hfz7_1
                      try clear hfz7_2
                      try clear hx149_0
                      try clear hx149_1
                      try clear hx149_2
                      try clear hx150_0
                      try clear hx150_1
                      try clear hx150_2
                      try clear p1
                      try clear p14
                      try clear p149
                      try clear p15
                      try clear p150
                      try clear p2
                      try clear p6
                      try clear q1
                      try clear q14
                      try clear q149
                      try clear q15
                      try clear q150
                      obtain ⟨kq, x54_50, rfl, HA, HJ50, BK145, BK146, BK151, BK152, HB⟩ := hcut
                      cases kq with
                      | zero => exact absurd HA.out (by simp [haspref03_Do.j2])
                      | succ kj50 =>
                        have H := HA.out
                        clear HA
                        simp only [haspref03_Do.j2] at H
                        by_cases c71 : x54_50 = true
                        · subst c71
                          have H1 : (some (0, 0, (⟨#[]⟩ : ByteArray), 30)) = some (r1, r2, r3, r4) := by rw [if_pos rfl] at H; exact H
                          clear H
                          have H := H1
                          clear H1
                          simp only [Option.some.injEq, Prod.mk.injEq] at H
                          obtain ⟨rfl, rfl, rfl, rfl⟩ := H
                          have hnb72 := NB146_145.out
                          have hnc72 := NB145_146.out
                          have hnb73 := NB146_151.out
                          have hnc73 := NB151_146.out
                          have hnb74 := NB146_152.out
                          have hnc74 := NB152_146.out
                          have hcz75_0 : wc.cell? ⟨gb146, 0, none⟩ = some (.int .i64 0) := (blk_cell BK146.out 0).trans rfl
                          have hcz75_1 : wc.cell? ⟨gb146, 1, none⟩ = some (.int .i64 0) := (blk_cell BK146.out 1).trans rfl
                          have hcz75_2 : wc.cell? ⟨gb146, 2, none⟩ = some (.string (⟨#[]⟩ : ByteArray)) := (blk_cell BK146.out 2).trans rfl
                          have hfz75_0 := blk_frozen BK146.out 0
                          have hfz75_1 := blk_frozen BK146.out 1
                          have hfz75_2 := blk_frozen BK146.out 2
                          have hnb76 := NB145_151.out
                          have hnc76 := NB151_145.out
                          have hnb77 := NB145_152.out
                          have hnc77 := NB152_145.out
                          have hcz78_0 : wc.cell? ⟨gb145, 0, none⟩ = some (.int .i64 0) := (blk_cell BK145.out 0).trans rfl
                          have hcz78_1 : wc.cell? ⟨gb145, 1, none⟩ = some (.int .i64 0) := (blk_cell BK145.out 1).trans rfl
                          have hcz78_2 : wc.cell? ⟨gb145, 2, none⟩ = some (.string (⟨#[]⟩ : ByteArray)) := (blk_cell BK145.out 2).trans rfl
                          have hfz78_0 := blk_frozen BK145.out 0
                          have hfz78_1 := blk_frozen BK145.out 1
                          have hfz78_2 := blk_frozen BK145.out 2
                          go_wp2
                          refine bodyPost_ret (results_ct rfl _ _ gb145 25 #[.int .i64 0, .int .i64 0, .string (⟨#[]⟩ : ByteArray)] (0, 0) _ rfl (by (with_reducible repeat (first | refine blk_drewN ?_ _ | refine blk_drew ?_ | refine blk_alloc ?_ _)); refine blk_put (cs := #[.int .i64 0, .int .i64 0, .string (⟨#[]⟩ : ByteArray)]) ?_ 2 _ rfl; (with_reducible repeat (first | refine blk_drewN ?_ _ | refine blk_drew ?_ | refine blk_alloc ?_ _)); refine blk_put (cs := #[.int .i64 0, .int .i64 0, .string (⟨#[]⟩ : ByteArray)]) ?_ 1 _ rfl; (with_reducible repeat (first | refine blk_drewN ?_ _ | refine blk_drew ?_ | refine blk_alloc ?_ _)); refine blk_put (cs := #[.int .i64 0, .int .i64 0, .string (⟨#[]⟩ : ByteArray)]) ?_ 0 _ rfl; (with_reducible repeat (first | refine blk_drewN ?_ _ | refine blk_drew ?_ | refine blk_alloc ?_ _)); exact BK145.out) Try.underlying25 rfl (by kernel_rfl)) rfl ?_
                          exact ⟨by first | rfl | (simp [errW_none, errW_some] <;> rfl) | (simp only [← hji16]; first | rfl | (simp [errW_none, errW_some] <;> rfl)) | (simp [*, errW_none, errW_some] <;> rfl), by repeat (first | (with_reducible first | exact HB.out | apply below_alloc | apply pw_below_drewN | apply below_drew1 | refine below_set ?_ GE145.out | refine below_set ?_ GE146.out | refine below_set ?_ GE151.out | refine below_set ?_ GE152.out) | exact HB.out)⟩
                        · replace c71 := Bool.eq_false_iff.mpr c71
                          subst c71
                          have H1 : (if a0 = 12 then (if (wrap64 ((((rd_T25 l1 0).f2).size : Int) + (((rd_T25 l1 (ji16)).f2).size : Int))) > 200 then (some (0, 0, (⟨#[]⟩ : ByteArray), 1)) else (if ((rd_T25 l1 0).f2).size + ((rd_T25 l1 (ji16)).f2).size ≤ 9223372036854775807 then (some (4, 0, ((rd_T25 l1 0).f2) ++ ((rd_T25 l1 (ji16)).f2), 0)) else (none))) else (if a0 = 14 then (if ((rd_T25 l1 0).f0) = 3 then ((haspref01_ToInt.f ((rd_T25 l1 0).f1)).bind fun bt154 => (if bt154.2 = 0 then (some (t153, bt154.1, (⟨#[]⟩ : ByteArray), 0)) else (some (0, 0, (⟨#[]⟩ : ByteArray), bt154.2)))) else (if 0 = 0 then (some (t153, ((rd_T25 l1 0).f1), (⟨#[]⟩ : ByteArray), 0)) else (some (0, 0, (⟨#[]⟩ : ByteArray), 0)))) else (if a0 = 15 then (if ((rd_T25 l1 0).f0) = 2 then ((haspref01_OfInt.f ((rd_T25 l1 0).f1)).bind fun t156 => (if 0 = 0 then (some (t153, t156, (⟨#[]⟩ : ByteArray), 0)) else (some (0, 0, (⟨#[]⟩ : ByteArray), 0)))) else (if 0 = 0 then (some (t153, ((rd_T25 l1 0).f1), (⟨#[]⟩ : ByteArray), 0)) else (some (0, 0, (⟨#[]⟩ : ByteArray), 0)))) else (if t153 = 2 then ((haspref03_Whole.f a0 ((rd_T25 l1 0).f1) ((rd_T25 l1 (ji16)).f1)).bind fun bt157 => (if bt157.2 = 0 then (some (t153, bt157.1, (⟨#[]⟩ : ByteArray), 0)) else (some (0, 0, (⟨#[]⟩ : ByteArray), bt157.2)))) else ((haspref03_point.f a0 ((rd_T25 l1 0).f1) ((rd_T25 l1 (ji16)).f1)).bind fun t159 => (if 0 = 0 then (some (t153, t159, (⟨#[]⟩ : ByteArray), 0)) else (some (0, 0, (⟨#[]⟩ : ByteArray), 0)))))))) = some (r1, r2, r3, r4) := by rw [if_neg (show ¬ (false = true) by decide)] at H; exact H
                          clear H
                          have H := H1
                          clear H1
                          by_cases c79 : a0 = 12
                          · rw [if_pos c79] at H
                            have c79b0 : (a0 == 12) = true := beq_iff_eq.mpr c79
                            have c79b1 : (a0 != 12) = false := bne_eq_false_iff_eq.mpr c79
                            clear c79
                            by_cases c80 : (wrap64 ((((rd_T25 l1 0).f2).size : Int) + (((rd_T25 l1 (ji16)).f2).size : Int))) > 200
                            · rw [if_pos c80] at H
                              have c80b0 : decide (200 < (wrap64 ((((rd_T25 l1 0).f2).size : Int) + (((rd_T25 l1 (ji16)).f2).size : Int)))) = true := decide_eq_true c80
                              clear c80
                              simp only [Option.some.injEq, Prod.mk.injEq] at H
                              obtain ⟨rfl, rfl, rfl, rfl⟩ := H
                              have hnb81 := NB151_145.out
                              have hnc81 := NB145_151.out
                              have hnb82 := NB151_146.out
                              have hnc82 := NB146_151.out
                              have hnb83 := NB151_152.out
                              have hnc83 := NB152_151.out
                              have hcz84_0 : wc.cell? ⟨gb151, 0, none⟩ = some (.int .i64 ((rd_T25 l1 0).f0)) := (blk_cell BK151.out 0).trans rfl
                              have hcz84_1 : wc.cell? ⟨gb151, 1, none⟩ = some (.int .i64 ((rd_T25 l1 0).f1)) := (blk_cell BK151.out 1).trans rfl
                              have hcz84_2 : wc.cell? ⟨gb151, 2, none⟩ = some (.string ((rd_T25 l1 0).f2)) := (blk_cell BK151.out 2).trans rfl
                              have hfz84_0 := blk_frozen BK151.out 0
                              have hfz84_1 := blk_frozen BK151.out 1
                              have hfz84_2 := blk_frozen BK151.out 2
                              have hnb85 := NB152_145.out
                              have hnc85 := NB145_152.out
                              have hnb86 := NB152_146.out
                              have hnc86 := NB146_152.out
                              have hcz87_0 : wc.cell? ⟨gb152, 0, none⟩ = some (.int .i64 ((rd_T25 l1 (ji16)).f0)) := (blk_cell BK152.out 0).trans rfl
                              have hcz87_1 : wc.cell? ⟨gb152, 1, none⟩ = some (.int .i64 ((rd_T25 l1 (ji16)).f1)) := (blk_cell BK152.out 1).trans rfl
                              have hcz87_2 : wc.cell? ⟨gb152, 2, none⟩ = some (.string ((rd_T25 l1 (ji16)).f2)) := (blk_cell BK152.out 2).trans rfl
                              have hfz87_0 := blk_frozen BK152.out 0
                              have hfz87_1 := blk_frozen BK152.out 1
                              have hfz87_2 := blk_frozen BK152.out 2
                              have hnb88 := NB146_145.out
                              have hnc88 := NB145_146.out
                              have hcz89_0 : wc.cell? ⟨gb146, 0, none⟩ = some (.int .i64 0) := (blk_cell BK146.out 0).trans rfl
                              have hcz89_1 : wc.cell? ⟨gb146, 1, none⟩ = some (.int .i64 0) := (blk_cell BK146.out 1).trans rfl
                              have hcz89_2 : wc.cell? ⟨gb146, 2, none⟩ = some (.string (⟨#[]⟩ : ByteArray)) := (blk_cell BK146.out 2).trans rfl
                              have hfz89_0 := blk_frozen BK146.out 0
                              have hfz89_1 := blk_frozen BK146.out 1
                              have hfz89_2 := blk_frozen BK146.out 2
                              have hcz90_0 : wc.cell? ⟨gb145, 0, none⟩ = some (.int .i64 0) := (blk_cell BK145.out 0).trans rfl
                              have hcz90_1 : wc.cell? ⟨gb145, 1, none⟩ = some (.int .i64 0) := (blk_cell BK145.out 1).trans rfl
                              have hcz90_2 : wc.cell? ⟨gb145, 2, none⟩ = some (.string (⟨#[]⟩ : ByteArray)) := (blk_cell BK145.out 2).trans rfl
                              have hfz90_0 := blk_frozen BK145.out 0
                              have hfz90_1 := blk_frozen BK145.out 1
                              have hfz90_2 := blk_frozen BK145.out 2
                              go_wp2
                              refine bodyPost_ret (results_ct rfl _ _ gb145 25 #[.int .i64 0, .int .i64 0, .string (⟨#[]⟩ : ByteArray)] (0, 0) _ rfl (by (with_reducible repeat (first | refine blk_drewN ?_ _ | refine blk_drew ?_ | refine blk_alloc ?_ _)); refine blk_put (cs := #[.int .i64 0, .int .i64 0, .string (⟨#[]⟩ : ByteArray)]) ?_ 2 _ rfl; (with_reducible repeat (first | refine blk_drewN ?_ _ | refine blk_drew ?_ | refine blk_alloc ?_ _)); refine blk_put (cs := #[.int .i64 0, .int .i64 0, .string (⟨#[]⟩ : ByteArray)]) ?_ 1 _ rfl; (with_reducible repeat (first | refine blk_drewN ?_ _ | refine blk_drew ?_ | refine blk_alloc ?_ _)); refine blk_put (cs := #[.int .i64 0, .int .i64 0, .string (⟨#[]⟩ : ByteArray)]) ?_ 0 _ rfl; (with_reducible repeat (first | refine blk_drewN ?_ _ | refine blk_drew ?_ | refine blk_alloc ?_ _)); exact BK145.out) Try.underlying25 rfl (by kernel_rfl)) rfl ?_
                              exact ⟨by first | rfl | (simp [errW_none, errW_some] <;> rfl) | (simp only [← hji16]; first | rfl | (simp [errW_none, errW_some] <;> rfl)) | (simp [*, errW_none, errW_some] <;> rfl), by repeat (first | (with_reducible first | exact HB.out | apply below_alloc | apply pw_below_drewN | apply below_drew1 | refine below_set ?_ GE145.out | refine below_set ?_ GE146.out | refine below_set ?_ GE151.out | refine below_set ?_ GE152.out) | exact HB.out)⟩
                            · rw [if_neg c80] at H
                              have c80b0 : decide (200 < (wrap64 ((((rd_T25 l1 0).f2).size : Int) + (((rd_T25 l1 (ji16)).f2).size : Int)))) = false := decide_eq_false c80
                              clear c80
                              by_cases c91 : ((rd_T25 l1 0).f2).size + ((rd_T25 l1 (ji16)).f2).size ≤ 9223372036854775807
                              · rw [if_pos c91] at H
                                have c91b0 := eq_true c91
                                have c91b1 : decide (((rd_T25 l1 0).f2).size + ((rd_T25 l1 (ji16)).f2).size ≤ 9223372036854775807) = true := decide_eq_true c91
                                try have c91b2 : (9223372036854775807 < ((rd_T25 l1 0).f2).size + ((rd_T25 l1 (ji16)).f2).size) = False := eq_false (Nat.not_lt.2 c91)
                                simp only [Option.some.injEq, Prod.mk.injEq] at H
                                obtain ⟨rfl, rfl, rfl, rfl⟩ := H
                                obtain ⟨s_, hs_⟩ : ∃ s : ByteArray, s = ((rd_T25 l1 0).f2) ++ ((rd_T25 l1 (ji16)).f2) := ⟨_, rfl⟩
                                have hadd_ : ∀ W, (Op.stringOp .add (rd_T25 l1 0).f2 (rd_T25 l1 (ji16)).f2).run Try.prog W = .ok (.string s_) W := fun W => by rw [hs_]; apply run_string_add_sum; exact c91
                                have HS_ := Lib.hid hs_
                                try rw [← hs_]
                                clear hs_ c91 c91b0 c91b1
                                try clear c91b2
                                have hnb92 := NB151_145.out
                                have hnc92 := NB145_151.out
                                have hnb93 := NB151_146.out
                                have hnc93 := NB146_151.out
                                have hnb94 := NB151_152.out
                                have hnc94 := NB152_151.out
                                have hcz95_0 : wc.cell? ⟨gb151, 0, none⟩ = some (.int .i64 ((rd_T25 l1 0).f0)) := (blk_cell BK151.out 0).trans rfl
                                have hcz95_1 : wc.cell? ⟨gb151, 1, none⟩ = some (.int .i64 ((rd_T25 l1 0).f1)) := (blk_cell BK151.out 1).trans rfl
                                have hcz95_2 : wc.cell? ⟨gb151, 2, none⟩ = some (.string ((rd_T25 l1 0).f2)) := (blk_cell BK151.out 2).trans rfl
                                have hfz95_0 := blk_frozen BK151.out 0
                                have hfz95_1 := blk_frozen BK151.out 1
                                have hfz95_2 := blk_frozen BK151.out 2
                                have hnb96 := NB152_145.out
                                have hnc96 := NB145_152.out
                                have hnb97 := NB152_146.out
                                have hnc97 := NB146_152.out
                                have hcz98_0 : wc.cell? ⟨gb152, 0, none⟩ = some (.int .i64 ((rd_T25 l1 (ji16)).f0)) := (blk_cell BK152.out 0).trans rfl
                                have hcz98_1 : wc.cell? ⟨gb152, 1, none⟩ = some (.int .i64 ((rd_T25 l1 (ji16)).f1)) := (blk_cell BK152.out 1).trans rfl
                                have hcz98_2 : wc.cell? ⟨gb152, 2, none⟩ = some (.string ((rd_T25 l1 (ji16)).f2)) := (blk_cell BK152.out 2).trans rfl
                                have hfz98_0 := blk_frozen BK152.out 0
                                have hfz98_1 := blk_frozen BK152.out 1
                                have hfz98_2 := blk_frozen BK152.out 2
                                have hnb99 := NB145_146.out
                                have hnc99 := NB146_145.out
                                have hcz100_0 : wc.cell? ⟨gb145, 0, none⟩ = some (.int .i64 0) := (blk_cell BK145.out 0).trans rfl
                                have hcz100_1 : wc.cell? ⟨gb145, 1, none⟩ = some (.int .i64 0) := (blk_cell BK145.out 1).trans rfl
                                have hcz100_2 : wc.cell? ⟨gb145, 2, none⟩ = some (.string (⟨#[]⟩ : ByteArray)) := (blk_cell BK145.out 2).trans rfl
                                have hfz100_0 := blk_frozen BK145.out 0
                                have hfz100_1 := blk_frozen BK145.out 1
                                have hfz100_2 := blk_frozen BK145.out 2
                                go_wp2
                                refine bodyPost_ret (results_ct rfl _ _ gb145 25 #[.int .i64 4, .int .i64 0, .string s_] (0, 0) _ rfl (by (with_reducible repeat (first | refine blk_drewN ?_ _ | refine blk_drew ?_ | refine blk_alloc ?_ _)); refine blk_put (cs := #[.int .i64 4, .int .i64 0, .string (⟨#[]⟩ : ByteArray)]) ?_ 2 _ rfl; (with_reducible repeat (first | refine blk_drewN ?_ _ | refine blk_drew ?_ | refine blk_alloc ?_ _)); refine blk_put (cs := #[.int .i64 4, .int .i64 0, .string (⟨#[]⟩ : ByteArray)]) ?_ 1 _ rfl; (with_reducible repeat (first | refine blk_drewN ?_ _ | refine blk_drew ?_ | refine blk_alloc ?_ _)); refine blk_put (cs := #[.int .i64 0, .int .i64 0, .string (⟨#[]⟩ : ByteArray)]) ?_ 0 _ rfl; (with_reducible repeat (first | refine blk_drewN ?_ _ | refine blk_drew ?_ | refine blk_alloc ?_ _)); exact BK145.out) Try.underlying25 rfl (by kernel_rfl)) rfl ?_
                                exact ⟨by first | (rw [HS_.out]; done) | (rw [HS_.out]; rfl) | rfl | (simp [errW_none, errW_some] <;> rfl) | (simp only [← hji16]; first | rfl | (simp [errW_none, errW_some] <;> rfl)) | (simp [*, errW_none, errW_some] <;> rfl), by repeat (first | (with_reducible first | exact HB.out | apply below_alloc | apply pw_below_drewN | apply below_drew1 | refine below_set ?_ GE145.out | refine below_set ?_ GE146.out | refine below_set ?_ GE151.out | refine below_set ?_ GE152.out) | exact HB.out)⟩
                              · rw [if_neg c91] at H
                                exact absurd H (by simp)
                          · rw [if_neg c79] at H
                            have c79b0 : (a0 == 12) = false := beq_eq_false_iff_ne.mpr c79
                            have c79b1 : (a0 != 12) = true := bne_iff_ne.mpr c79
                            by_cases c101 : a0 = 14
                            · rw [if_pos c101] at H
                              have c101b0 : (a0 == 14) = true := beq_iff_eq.mpr c101
                              have c101b1 : (a0 != 14) = false := bne_eq_false_iff_eq.mpr c101
                              clear c101
                              by_cases c102 : ((rd_T25 l1 0).f0) = 3
                              · rw [if_pos c102] at H
                                have c102b0 : (((rd_T25 l1 0).f0) == 3) = true := beq_iff_eq.mpr c102
                                have c102b1 : (((rd_T25 l1 0).f0) != 3) = false := bne_eq_false_iff_eq.mpr c102
                                clear c102
                                replace H := Option.bind_eq_some_iff.mp H
                                obtain ⟨⟨t154, t155⟩, A1030, H⟩ := H
                                replace H : (if t155 = 0 then (some (t153, t154, (⟨#[]⟩ : ByteArray), 0)) else (some (0, 0, (⟨#[]⟩ : ByteArray), t155))) = some (r1, r2, r3, r4) := H
                                have A103 := Aside0.mk A1030
                                clear A1030
                                by_cases c104 : t155 = 0
                                · rw [if_pos c104] at H
                                  have c104b0 : (t155 == 0) = true := beq_iff_eq.mpr c104
                                  have c104b1 : (t155 != 0) = false := bne_eq_false_iff_eq.mpr c104
                                  clear c104
                                  simp only [Option.some.injEq, Prod.mk.injEq] at H
                                  obtain ⟨rfl, rfl, rfl, rfl⟩ := H
                                  have hnb105 := NB151_145.out
                                  have hnc105 := NB145_151.out
                                  have hnb106 := NB151_146.out
                                  have hnc106 := NB146_151.out
                                  have hnb107 := NB151_152.out
                                  have hnc107 := NB152_151.out
                                  have hcz108_0 : wc.cell? ⟨gb151, 0, none⟩ = some (.int .i64 ((rd_T25 l1 0).f0)) := (blk_cell BK151.out 0).trans rfl
                                  have hcz108_1 : wc.cell? ⟨gb151, 1, none⟩ = some (.int .i64 ((rd_T25 l1 0).f1)) := (blk_cell BK151.out 1).trans rfl
                                  have hcz108_2 : wc.cell? ⟨gb151, 2, none⟩ = some (.string ((rd_T25 l1 0).f2)) := (blk_cell BK151.out 2).trans rfl
                                  have hfz108_0 := blk_frozen BK151.out 0
                                  have hfz108_1 := blk_frozen BK151.out 1
                                  have hfz108_2 := blk_frozen BK151.out 2
                                  go_wp2_with (first | ((with_reducible refine gate_callee (f := 26) rfl ?_); refine goesL_ (some 82) rfl rfl Try.func26 (by kernel_rfl) rfl #[.int .i64 ((rd_T25 l1 0).f1)] rfl (by (try simp only [List.map_toArray, List.map_cons, List.map_nil]); first | done | rfl | (simp only [List.length_drop, List.length_take]; rfl)) ?_; (with_reducible refine (haspref01_ToInt.calls ((rd_T25 l1 0).f1) t154 t155 _ A103.out).mono ?_); rintro e w' ⟨rfl, ⟨nd, rfl⟩⟩; refine ⟨_, rfl, ?_⟩; (try (rw [drewN_self wc]; generalize hq_ : World.drewN wc _ = wc; have n0_ : Aside0 (wc.heap[gb145]? = some (.cells #[.int .i64 0, .int .i64 0, .string (⟨#[]⟩ : ByteArray)] 25 (0, 0))) := ⟨by rw [← hq_]; exact (by (with_reducible repeat (first | refine blk_drewN ?_ _ | refine blk_drew ?_ | refine blk_alloc ?_ _)); exact BK145.out)⟩; have n1_ : Aside0 (wc.heap[gb146]? = some (.cells #[.int .i64 0, .int .i64 0, .string (⟨#[]⟩ : ByteArray)] 25 (0, 0))) := ⟨by rw [← hq_]; exact (by (with_reducible repeat (first | refine blk_drewN ?_ _ | refine blk_drew ?_ | refine blk_alloc ?_ _)); exact BK146.out)⟩; have n2_ : Aside0 (wc.heap[gb151]? = some (.cells #[.int .i64 ((rd_T25 l1 0).f0), .int .i64 ((rd_T25 l1 0).f1), .string ((rd_T25 l1 0).f2)] 25 (0, 0))) := ⟨by rw [← hq_]; exact (by (with_reducible repeat (first | refine blk_drewN ?_ _ | refine blk_drew ?_ | refine blk_alloc ?_ _)); exact BK151.out)⟩; have n3_ : Aside0 (wc.heap[gb152]? = some (.cells #[.int .i64 ((rd_T25 l1 (ji16)).f0), .int .i64 ((rd_T25 l1 (ji16)).f1), .string ((rd_T25 l1 (ji16)).f2)] 25 (0, 0))) := ⟨by rw [← hq_]; exact (by (with_reducible repeat (first | refine blk_drewN ?_ _ | refine blk_drew ?_ | refine blk_alloc ?_ _)); exact BK152.out)⟩; have n4_ : Aside0 (Below w.heap.size w wc) := ⟨by rw [← hq_]; exact (by repeat (first | (with_reducible first | exact HB.out | apply below_alloc | apply pw_below_drewN | apply below_drew1 | refine below_set ?_ GE145.out | refine below_set ?_ GE146.out | refine below_set ?_ GE151.out | refine below_set ?_ GE152.out) | exact HB.out))⟩; clear BK145 BK146 BK151 BK152 HB hq_; have BK145 := n0_; have BK146 := n1_; have BK151 := n2_; have BK152 := n3_; have HB := n4_; clear n0_ n1_ n2_ n3_ n4_)); have hnb109 := NB145_146.out; have hnc109 := NB146_145.out; have hnb110 := NB145_152.out; have hnc110 := NB152_145.out; have hcz111_0 : wc.cell? ⟨gb145, 0, none⟩ = some (.int .i64 0) := (blk_cell BK145.out 0).trans rfl; have hcz111_1 : wc.cell? ⟨gb145, 1, none⟩ = some (.int .i64 0) := (blk_cell BK145.out 1).trans rfl; have hcz111_2 : wc.cell? ⟨gb145, 2, none⟩ = some (.string (⟨#[]⟩ : ByteArray)) := (blk_cell BK145.out 2).trans rfl; have hfz111_0 := blk_frozen BK145.out 0; have hfz111_1 := blk_frozen BK145.out 1; have hfz111_2 := blk_frozen BK145.out 2))
                                  refine bodyPost_ret (results_ct rfl _ _ gb145 25 #[.int .i64 t153, .int .i64 t154, .string (⟨#[]⟩ : ByteArray)] (0, 0) _ rfl (by (with_reducible repeat (first | refine blk_drewN ?_ _ | refine blk_drew ?_ | refine blk_alloc ?_ _)); refine blk_put (cs := #[.int .i64 t153, .int .i64 t154, .string (⟨#[]⟩ : ByteArray)]) ?_ 2 _ rfl; (with_reducible repeat (first | refine blk_drewN ?_ _ | refine blk_drew ?_ | refine blk_alloc ?_ _)); refine blk_put (cs := #[.int .i64 t153, .int .i64 0, .string (⟨#[]⟩ : ByteArray)]) ?_ 1 _ rfl; (with_reducible repeat (first | refine blk_drewN ?_ _ | refine blk_drew ?_ | refine blk_alloc ?_ _)); refine blk_put (cs := #[.int .i64 0, .int .i64 0, .string (⟨#[]⟩ : ByteArray)]) ?_ 0 _ rfl; (with_reducible repeat (first | refine blk_drewN ?_ _ | refine blk_drew ?_ | refine blk_alloc ?_ _)); exact BK145.out) Try.underlying25 rfl (by kernel_rfl)) rfl ?_
                                  exact ⟨by first | rfl | (simp [errW_none, errW_some] <;> rfl) | (simp only [← hji16]; first | rfl | (simp [errW_none, errW_some] <;> rfl)) | (simp [*, errW_none, errW_some] <;> rfl), by repeat (first | (with_reducible first | exact HB.out | apply below_alloc | apply pw_below_drewN | apply below_drew1 | refine below_set ?_ GE145.out | refine below_set ?_ GE146.out | refine below_set ?_ GE151.out | refine below_set ?_ GE152.out) | exact HB.out)⟩
                                · rw [if_neg c104] at H
                                  have c104b0 : (t155 == 0) = false := beq_eq_false_iff_ne.mpr c104
                                  have c104b1 : (t155 != 0) = true := bne_iff_ne.mpr c104
                                  simp only [Option.some.injEq, Prod.mk.injEq] at H
                                  obtain ⟨rfl, rfl, rfl, rfl⟩ := H
                                  have hnb112 := NB151_145.out
                                  have hnc112 := NB145_151.out
                                  have hnb113 := NB151_146.out
                                  have hnc113 := NB146_151.out
                                  have hnb114 := NB151_152.out
                                  have hnc114 := NB152_151.out
                                  have hcz115_0 : wc.cell? ⟨gb151, 0, none⟩ = some (.int .i64 ((rd_T25 l1 0).f0)) := (blk_cell BK151.out 0).trans rfl
                                  have hcz115_1 : wc.cell? ⟨gb151, 1, none⟩ = some (.int .i64 ((rd_T25 l1 0).f1)) := (blk_cell BK151.out 1).trans rfl
                                  have hcz115_2 : wc.cell? ⟨gb151, 2, none⟩ = some (.string ((rd_T25 l1 0).f2)) := (blk_cell BK151.out 2).trans rfl
                                  have hfz115_0 := blk_frozen BK151.out 0
                                  have hfz115_1 := blk_frozen BK151.out 1
                                  have hfz115_2 := blk_frozen BK151.out 2
                                  go_wp2_with (first | ((with_reducible refine gate_callee (f := 26) rfl ?_); refine goesL_ (some 82) rfl rfl Try.func26 (by kernel_rfl) rfl #[.int .i64 ((rd_T25 l1 0).f1)] rfl (by (try simp only [List.map_toArray, List.map_cons, List.map_nil]); first | done | rfl | (simp only [List.length_drop, List.length_take]; rfl)) ?_; (with_reducible refine (haspref01_ToInt.calls ((rd_T25 l1 0).f1) t154 t155 _ A103.out).mono ?_); rintro e w' ⟨rfl, ⟨nd, rfl⟩⟩; refine ⟨_, rfl, ?_⟩; (try (rw [drewN_self wc]; generalize hq_ : World.drewN wc _ = wc; have n0_ : Aside0 (wc.heap[gb145]? = some (.cells #[.int .i64 0, .int .i64 0, .string (⟨#[]⟩ : ByteArray)] 25 (0, 0))) := ⟨by rw [← hq_]; exact (by (with_reducible repeat (first | refine blk_drewN ?_ _ | refine blk_drew ?_ | refine blk_alloc ?_ _)); exact BK145.out)⟩; have n1_ : Aside0 (wc.heap[gb146]? = some (.cells #[.int .i64 0, .int .i64 0, .string (⟨#[]⟩ : ByteArray)] 25 (0, 0))) := ⟨by rw [← hq_]; exact (by (with_reducible repeat (first | refine blk_drewN ?_ _ | refine blk_drew ?_ | refine blk_alloc ?_ _)); exact BK146.out)⟩; have n2_ : Aside0 (wc.heap[gb151]? = some (.cells #[.int .i64 ((rd_T25 l1 0).f0), .int .i64 ((rd_T25 l1 0).f1), .string ((rd_T25 l1 0).f2)] 25 (0, 0))) := ⟨by rw [← hq_]; exact (by (with_reducible repeat (first | refine blk_drewN ?_ _ | refine blk_drew ?_ | refine blk_alloc ?_ _)); exact BK151.out)⟩; have n3_ : Aside0 (wc.heap[gb152]? = some (.cells #[.int .i64 ((rd_T25 l1 (ji16)).f0), .int .i64 ((rd_T25 l1 (ji16)).f1), .string ((rd_T25 l1 (ji16)).f2)] 25 (0, 0))) := ⟨by rw [← hq_]; exact (by (with_reducible repeat (first | refine blk_drewN ?_ _ | refine blk_drew ?_ | refine blk_alloc ?_ _)); exact BK152.out)⟩; have n4_ : Aside0 (Below w.heap.size w wc) := ⟨by rw [← hq_]; exact (by repeat (first | (with_reducible first | exact HB.out | apply below_alloc | apply pw_below_drewN | apply below_drew1 | refine below_set ?_ GE145.out | refine below_set ?_ GE146.out | refine below_set ?_ GE151.out | refine below_set ?_ GE152.out) | exact HB.out))⟩; clear BK145 BK146 BK151 BK152 HB hq_; have BK145 := n0_; have BK146 := n1_; have BK151 := n2_; have BK152 := n3_; have HB := n4_; clear n0_ n1_ n2_ n3_ n4_)); have hnb116 := NB146_145.out; have hnc116 := NB145_146.out; have hnb117 := NB146_152.out; have hnc117 := NB152_146.out; have hcz118_0 : wc.cell? ⟨gb146, 0, none⟩ = some (.int .i64 0) := (blk_cell BK146.out 0).trans rfl; have hcz118_1 : wc.cell? ⟨gb146, 1, none⟩ = some (.int .i64 0) := (blk_cell BK146.out 1).trans rfl; have hcz118_2 : wc.cell? ⟨gb146, 2, none⟩ = some (.string (⟨#[]⟩ : ByteArray)) := (blk_cell BK146.out 2).trans rfl; have hfz118_0 := blk_frozen BK146.out 0; have hfz118_1 := blk_frozen BK146.out 1; have hfz118_2 := blk_frozen BK146.out 2; have hnb119 := NB145_152.out; have hnc119 := NB152_145.out; have hcz120_0 : wc.cell? ⟨gb145, 0, none⟩ = some (.int .i64 0) := (blk_cell BK145.out 0).trans rfl; have hcz120_1 : wc.cell? ⟨gb145, 1, none⟩ = some (.int .i64 0) := (blk_cell BK145.out 1).trans rfl; have hcz120_2 : wc.cell? ⟨gb145, 2, none⟩ = some (.string (⟨#[]⟩ : ByteArray)) := (blk_cell BK145.out 2).trans rfl; have hfz120_0 := blk_frozen BK145.out 0; have hfz120_1 := blk_frozen BK145.out 1; have hfz120_2 := blk_frozen BK145.out 2))
                                  refine bodyPost_ret (results_ct rfl _ _ gb145 25 #[.int .i64 0, .int .i64 0, .string (⟨#[]⟩ : ByteArray)] (0, 0) _ rfl (by (with_reducible repeat (first | refine blk_drewN ?_ _ | refine blk_drew ?_ | refine blk_alloc ?_ _)); refine blk_put (cs := #[.int .i64 0, .int .i64 0, .string (⟨#[]⟩ : ByteArray)]) ?_ 2 _ rfl; (with_reducible repeat (first | refine blk_drewN ?_ _ | refine blk_drew ?_ | refine blk_alloc ?_ _)); refine blk_put (cs := #[.int .i64 0, .int .i64 0, .string (⟨#[]⟩ : ByteArray)]) ?_ 1 _ rfl; (with_reducible repeat (first | refine blk_drewN ?_ _ | refine blk_drew ?_ | refine blk_alloc ?_ _)); refine blk_put (cs := #[.int .i64 0, .int .i64 0, .string (⟨#[]⟩ : ByteArray)]) ?_ 0 _ rfl; (with_reducible repeat (first | refine blk_drewN ?_ _ | refine blk_drew ?_ | refine blk_alloc ?_ _)); exact BK145.out) Try.underlying25 rfl (by kernel_rfl)) rfl ?_
                                  exact ⟨by first | rfl | (simp [errW_none, errW_some] <;> rfl) | (simp only [← hji16]; first | rfl | (simp [errW_none, errW_some] <;> rfl)) | (simp [*, errW_none, errW_some] <;> rfl), by repeat (first | (with_reducible first | exact HB.out | apply below_alloc | apply pw_below_drewN | apply below_drew1 | refine below_set ?_ GE145.out | refine below_set ?_ GE146.out | refine below_set ?_ GE151.out | refine below_set ?_ GE152.out) | exact HB.out)⟩
                              · rw [if_neg c102] at H
                                have c102b0 : (((rd_T25 l1 0).f0) == 3) = false := beq_eq_false_iff_ne.mpr c102
                                have c102b1 : (((rd_T25 l1 0).f0) != 3) = true := bne_iff_ne.mpr c102
                                by_cases c121 : 0 = 0
                                · rw [if_pos c121] at H
                                  have c121b0 : (0 == 0) = true := beq_iff_eq.mpr c121
                                  have c121b1 : (0 != 0) = false := bne_eq_false_iff_eq.mpr c121
                                  clear c121
                                  simp only [Option.some.injEq, Prod.mk.injEq] at H
                                  obtain ⟨rfl, rfl, rfl, rfl⟩ := H
                                  have hnb122 := NB151_145.out
                                  have hnc122 := NB145_151.out
                                  have hnb123 := NB151_146.out
                                  have hnc123 := NB146_151.out
                                  have hnb124 := NB151_152.out
                                  have hnc124 := NB152_151.out
                                  have hcz125_0 : wc.cell? ⟨gb151, 0, none⟩ = some (.int .i64 ((rd_T25 l1 0).f0)) := (blk_cell BK151.out 0).trans rfl
                                  have hcz125_1 : wc.cell? ⟨gb151, 1, none⟩ = some (.int .i64 ((rd_T25 l1 0).f1)) := (blk_cell BK151.out 1).trans rfl
                                  have hcz125_2 : wc.cell? ⟨gb151, 2, none⟩ = some (.string ((rd_T25 l1 0).f2)) := (blk_cell BK151.out 2).trans rfl
                                  have hfz125_0 := blk_frozen BK151.out 0
                                  have hfz125_1 := blk_frozen BK151.out 1
                                  have hfz125_2 := blk_frozen BK151.out 2
                                  have hnb126 := NB145_146.out
                                  have hnc126 := NB146_145.out
                                  have hnb127 := NB145_152.out
                                  have hnc127 := NB152_145.out
                                  have hcz128_0 : wc.cell? ⟨gb145, 0, none⟩ = some (.int .i64 0) := (blk_cell BK145.out 0).trans rfl
                                  have hcz128_1 : wc.cell? ⟨gb145, 1, none⟩ = some (.int .i64 0) := (blk_cell BK145.out 1).trans rfl
                                  have hcz128_2 : wc.cell? ⟨gb145, 2, none⟩ = some (.string (⟨#[]⟩ : ByteArray)) := (blk_cell BK145.out 2).trans rfl
                                  have hfz128_0 := blk_frozen BK145.out 0
                                  have hfz128_1 := blk_frozen BK145.out 1
                                  have hfz128_2 := blk_frozen BK145.out 2
                                  go_wp2
                                  refine bodyPost_ret (results_ct rfl _ _ gb145 25 #[.int .i64 t153, .int .i64 ((rd_T25 l1 0).f1), .string (⟨#[]⟩ : ByteArray)] (0, 0) _ rfl (by (with_reducible repeat (first | refine blk_drewN ?_ _ | refine blk_drew ?_ | refine blk_alloc ?_ _)); refine blk_put (cs := #[.int .i64 t153, .int .i64 ((rd_T25 l1 0).f1), .string (⟨#[]⟩ : ByteArray)]) ?_ 2 _ rfl; (with_reducible repeat (first | refine blk_drewN ?_ _ | refine blk_drew ?_ | refine blk_alloc ?_ _)); refine blk_put (cs := #[.int .i64 t153, .int .i64 0, .string (⟨#[]⟩ : ByteArray)]) ?_ 1 _ rfl; (with_reducible repeat (first | refine blk_drewN ?_ _ | refine blk_drew ?_ | refine blk_alloc ?_ _)); refine blk_put (cs := #[.int .i64 0, .int .i64 0, .string (⟨#[]⟩ : ByteArray)]) ?_ 0 _ rfl; (with_reducible repeat (first | refine blk_drewN ?_ _ | refine blk_drew ?_ | refine blk_alloc ?_ _)); exact BK145.out) Try.underlying25 rfl (by kernel_rfl)) rfl ?_
                                  exact ⟨by first | rfl | (simp [errW_none, errW_some] <;> rfl) | (simp only [← hji16]; first | rfl | (simp [errW_none, errW_some] <;> rfl)) | (simp [*, errW_none, errW_some] <;> rfl), by repeat (first | (with_reducible first | exact HB.out | apply below_alloc | apply pw_below_drewN | apply below_drew1 | refine below_set ?_ GE145.out | refine below_set ?_ GE146.out | refine below_set ?_ GE151.out | refine below_set ?_ GE152.out) | exact HB.out)⟩
                                · exact absurd (by decide) c121
                            · rw [if_neg c101] at H
                              have c101b0 : (a0 == 14) = false := beq_eq_false_iff_ne.mpr c101
                              have c101b1 : (a0 != 14) = true := bne_iff_ne.mpr c101
                              by_cases c138 : a0 = 15
                              · rw [if_pos c138] at H
                                have c138b0 : (a0 == 15) = true := beq_iff_eq.mpr c138
                                have c138b1 : (a0 != 15) = false := bne_eq_false_iff_eq.mpr c138
                                clear c138
                                by_cases c139 : ((rd_T25 l1 0).f0) = 2
                                · rw [if_pos c139] at H
                                  have c139b0 : (((rd_T25 l1 0).f0) == 2) = true := beq_iff_eq.mpr c139
                                  have c139b1 : (((rd_T25 l1 0).f0) != 2) = false := bne_eq_false_iff_eq.mpr c139
                                  clear c139
                                  replace H := Option.bind_eq_some_iff.mp H
                                  obtain ⟨t156, A1400, H⟩ := H
                                  replace H : (if 0 = 0 then (some (t153, t156, (⟨#[]⟩ : ByteArray), 0)) else (some (0, 0, (⟨#[]⟩ : ByteArray), 0))) = some (r1, r2, r3, r4) := H
                                  have A140 := Aside0.mk A1400
                                  clear A1400
                                  by_cases c141 : 0 = 0
                                  · rw [if_pos c141] at H
                                    have c141b0 : (0 == 0) = true := beq_iff_eq.mpr c141
                                    have c141b1 : (0 != 0) = false := bne_eq_false_iff_eq.mpr c141
                                    clear c141
                                    simp only [Option.some.injEq, Prod.mk.injEq] at H
                                    obtain ⟨rfl, rfl, rfl, rfl⟩ := H
                                    have hnb142 := NB151_145.out
                                    have hnc142 := NB145_151.out
                                    have hnb143 := NB151_146.out
                                    have hnc143 := NB146_151.out
                                    have hnb144 := NB151_152.out
                                    have hnc144 := NB152_151.out
                                    have hcz145_0 : wc.cell? ⟨gb151, 0, none⟩ = some (.int .i64 ((rd_T25 l1 0).f0)) := (blk_cell BK151.out 0).trans rfl
                                    have hcz145_1 : wc.cell? ⟨gb151, 1, none⟩ = some (.int .i64 ((rd_T25 l1 0).f1)) := (blk_cell BK151.out 1).trans rfl
                                    have hcz145_2 : wc.cell? ⟨gb151, 2, none⟩ = some (.string ((rd_T25 l1 0).f2)) := (blk_cell BK151.out 2).trans rfl
                                    have hfz145_0 := blk_frozen BK151.out 0
                                    have hfz145_1 := blk_frozen BK151.out 1
                                    have hfz145_2 := blk_frozen BK151.out 2
                                    go_wp2_with (first | ((with_reducible refine gate_callee (f := 27) rfl ?_); refine goesL_ (some 91) rfl rfl Try.func27 (by kernel_rfl) rfl #[.int .i64 ((rd_T25 l1 0).f1)] rfl (by (try simp only [List.map_toArray, List.map_cons, List.map_nil]); first | done | rfl | (simp only [List.length_drop, List.length_take]; rfl)) ?_; (with_reducible refine (haspref01_OfInt.calls ((rd_T25 l1 0).f1) t156 _ A140.out).mono ?_); rintro e w' ⟨rfl, ⟨nd, rfl⟩⟩; refine ⟨_, rfl, ?_⟩; (try (rw [drewN_self wc]; generalize hq_ : World.drewN wc _ = wc; have n0_ : Aside0 (wc.heap[gb145]? = some (.cells #[.int .i64 0, .int .i64 0, .string (⟨#[]⟩ : ByteArray)] 25 (0, 0))) := ⟨by rw [← hq_]; exact (by (with_reducible repeat (first | refine blk_drewN ?_ _ | refine blk_drew ?_ | refine blk_alloc ?_ _)); exact BK145.out)⟩; have n1_ : Aside0 (wc.heap[gb146]? = some (.cells #[.int .i64 0, .int .i64 0, .string (⟨#[]⟩ : ByteArray)] 25 (0, 0))) := ⟨by rw [← hq_]; exact (by (with_reducible repeat (first | refine blk_drewN ?_ _ | refine blk_drew ?_ | refine blk_alloc ?_ _)); exact BK146.out)⟩; have n2_ : Aside0 (wc.heap[gb151]? = some (.cells #[.int .i64 ((rd_T25 l1 0).f0), .int .i64 ((rd_T25 l1 0).f1), .string ((rd_T25 l1 0).f2)] 25 (0, 0))) := ⟨by rw [← hq_]; exact (by (with_reducible repeat (first | refine blk_drewN ?_ _ | refine blk_drew ?_ | refine blk_alloc ?_ _)); exact BK151.out)⟩; have n3_ : Aside0 (wc.heap[gb152]? = some (.cells #[.int .i64 ((rd_T25 l1 (ji16)).f0), .int .i64 ((rd_T25 l1 (ji16)).f1), .string ((rd_T25 l1 (ji16)).f2)] 25 (0, 0))) := ⟨by rw [← hq_]; exact (by (with_reducible repeat (first | refine blk_drewN ?_ _ | refine blk_drew ?_ | refine blk_alloc ?_ _)); exact BK152.out)⟩; have n4_ : Aside0 (Below w.heap.size w wc) := ⟨by rw [← hq_]; exact (by repeat (first | (with_reducible first | exact HB.out | apply below_alloc | apply pw_below_drewN | apply below_drew1 | refine below_set ?_ GE145.out | refine below_set ?_ GE146.out | refine below_set ?_ GE151.out | refine below_set ?_ GE152.out) | exact HB.out))⟩; clear BK145 BK146 BK151 BK152 HB hq_; have BK145 := n0_; have BK146 := n1_; have BK151 := n2_; have BK152 := n3_; have HB := n4_; clear n0_ n1_ n2_ n3_ n4_)); have hnb146 := NB145_146.out; have hnc146 := NB146_145.out; have hnb147 := NB145_152.out; have hnc147 := NB152_145.out; have hcz148_0 : wc.cell? ⟨gb145, 0, none⟩ = some (.int .i64 0) := (blk_cell BK145.out 0).trans rfl; have hcz148_1 : wc.cell? ⟨gb145, 1, none⟩ = some (.int .i64 0) := (blk_cell BK145.out 1).trans rfl; have hcz148_2 : wc.cell? ⟨gb145, 2, none⟩ = some (.string (⟨#[]⟩ : ByteArray)) := (blk_cell BK145.out 2).trans rfl; have hfz148_0 := blk_frozen BK145.out 0; have hfz148_1 := blk_frozen BK145.out 1; have hfz148_2 := blk_frozen BK145.out 2))
                                    refine bodyPost_ret (results_ct rfl _ _ gb145 25 #[.int .i64 t153, .int .i64 t156, .string (⟨#[]⟩ : ByteArray)] (0, 0) _ rfl (by (with_reducible repeat (first | refine blk_drewN ?_ _ | refine blk_drew ?_ | refine blk_alloc ?_ _)); refine blk_put (cs := #[.int .i64 t153, .int .i64 t156, .string (⟨#[]⟩ : ByteArray)]) ?_ 2 _ rfl; (with_reducible repeat (first | refine blk_drewN ?_ _ | refine blk_drew ?_ | refine blk_alloc ?_ _)); refine blk_put (cs := #[.int .i64 t153, .int .i64 0, .string (⟨#[]⟩ : ByteArray)]) ?_ 1 _ rfl; (with_reducible repeat (first | refine blk_drewN ?_ _ | refine blk_drew ?_ | refine blk_alloc ?_ _)); refine blk_put (cs := #[.int .i64 0, .int .i64 0, .string (⟨#[]⟩ : ByteArray)]) ?_ 0 _ rfl; (with_reducible repeat (first | refine blk_drewN ?_ _ | refine blk_drew ?_ | refine blk_alloc ?_ _)); exact BK145.out) Try.underlying25 rfl (by kernel_rfl)) rfl ?_
                                    exact ⟨by first | rfl | (simp [errW_none, errW_some] <;> rfl) | (simp only [← hji16]; first | rfl | (simp [errW_none, errW_some] <;> rfl)) | (simp [*, errW_none, errW_some] <;> rfl), by repeat (first | (with_reducible first | exact HB.out | apply below_alloc | apply pw_below_drewN | apply below_drew1 | refine below_set ?_ GE145.out | refine below_set ?_ GE146.out | refine below_set ?_ GE151.out | refine below_set ?_ GE152.out) | exact HB.out)⟩
                                  · exact absurd (by decide) c141
                                · rw [if_neg c139] at H
                                  have c139b0 : (((rd_T25 l1 0).f0) == 2) = false := beq_eq_false_iff_ne.mpr c139
                                  have c139b1 : (((rd_T25 l1 0).f0) != 2) = true := bne_iff_ne.mpr c139
                                  by_cases c158 : 0 = 0
                                  · rw [if_pos c158] at H
                                    have c158b0 : (0 == 0) = true := beq_iff_eq.mpr c158
                                    have c158b1 : (0 != 0) = false := bne_eq_false_iff_eq.mpr c158
                                    clear c158
                                    simp only [Option.some.injEq, Prod.mk.injEq] at H
                                    obtain ⟨rfl, rfl, rfl, rfl⟩ := H
                                    have hnb159 := NB151_145.out
                                    have hnc159 := NB145_151.out
                                    have hnb160 := NB151_146.out
                                    have hnc160 := NB146_151.out
                                    have hnb161 := NB151_152.out
                                    have hnc161 := NB152_151.out
                                    have hcz162_0 : wc.cell? ⟨gb151, 0, none⟩ = some (.int .i64 ((rd_T25 l1 0).f0)) := (blk_cell BK151.out 0).trans rfl
                                    have hcz162_1 : wc.cell? ⟨gb151, 1, none⟩ = some (.int .i64 ((rd_T25 l1 0).f1)) := (blk_cell BK151.out 1).trans rfl
                                    have hcz162_2 : wc.cell? ⟨gb151, 2, none⟩ = some (.string ((rd_T25 l1 0).f2)) := (blk_cell BK151.out 2).trans rfl
                                    have hfz162_0 := blk_frozen BK151.out 0
                                    have hfz162_1 := blk_frozen BK151.out 1
                                    have hfz162_2 := blk_frozen BK151.out 2
                                    have hnb163 := NB145_146.out
                                    have hnc163 := NB146_145.out
                                    have hnb164 := NB145_152.out
                                    have hnc164 := NB152_145.out
                                    have hcz165_0 : wc.cell? ⟨gb145, 0, none⟩ = some (.int .i64 0) := (blk_cell BK145.out 0).trans rfl
                                    have hcz165_1 : wc.cell? ⟨gb145, 1, none⟩ = some (.int .i64 0) := (blk_cell BK145.out 1).trans rfl
                                    have hcz165_2 : wc.cell? ⟨gb145, 2, none⟩ = some (.string (⟨#[]⟩ : ByteArray)) := (blk_cell BK145.out 2).trans rfl
                                    have hfz165_0 := blk_frozen BK145.out 0
                                    have hfz165_1 := blk_frozen BK145.out 1
                                    have hfz165_2 := blk_frozen BK145.out 2
                                    go_wp2
                                    refine bodyPost_ret (results_ct rfl _ _ gb145 25 #[.int .i64 t153, .int .i64 ((rd_T25 l1 0).f1), .string (⟨#[]⟩ : ByteArray)] (0, 0) _ rfl (by (with_reducible repeat (first | refine blk_drewN ?_ _ | refine blk_drew ?_ | refine blk_alloc ?_ _)); refine blk_put (cs := #[.int .i64 t153, .int .i64 ((rd_T25 l1 0).f1), .string (⟨#[]⟩ : ByteArray)]) ?_ 2 _ rfl; (with_reducible repeat (first | refine blk_drewN ?_ _ | refine blk_drew ?_ | refine blk_alloc ?_ _)); refine blk_put (cs := #[.int .i64 t153, .int .i64 0, .string (⟨#[]⟩ : ByteArray)]) ?_ 1 _ rfl; (with_reducible repeat (first | refine blk_drewN ?_ _ | refine blk_drew ?_ | refine blk_alloc ?_ _)); refine blk_put (cs := #[.int .i64 0, .int .i64 0, .string (⟨#[]⟩ : ByteArray)]) ?_ 0 _ rfl; (with_reducible repeat (first | refine blk_drewN ?_ _ | refine blk_drew ?_ | refine blk_alloc ?_ _)); exact BK145.out) Try.underlying25 rfl (by kernel_rfl)) rfl ?_
                                    exact ⟨by first | rfl | (simp [errW_none, errW_some] <;> rfl) | (simp only [← hji16]; first | rfl | (simp [errW_none, errW_some] <;> rfl)) | (simp [*, errW_none, errW_some] <;> rfl), by repeat (first | (with_reducible first | exact HB.out | apply below_alloc | apply pw_below_drewN | apply below_drew1 | refine below_set ?_ GE145.out | refine below_set ?_ GE146.out | refine below_set ?_ GE151.out | refine below_set ?_ GE152.out) | exact HB.out)⟩
                                  · exact absurd (by decide) c158
                              · rw [if_neg c138] at H
                                have c138b0 : (a0 == 15) = false := beq_eq_false_iff_ne.mpr c138
                                have c138b1 : (a0 != 15) = true := bne_iff_ne.mpr c138
                                by_cases c175 : t153 = 2
                                · rw [if_pos c175] at H
                                  have c175b0 : (t153 == 2) = true := beq_iff_eq.mpr c175
                                  have c175b1 : (t153 != 2) = false := bne_eq_false_iff_eq.mpr c175
                                  clear c175
                                  replace H := Option.bind_eq_some_iff.mp H
                                  obtain ⟨⟨t157, t158⟩, A1760, H⟩ := H
                                  replace H : (if t158 = 0 then (some (t153, t157, (⟨#[]⟩ : ByteArray), 0)) else (some (0, 0, (⟨#[]⟩ : ByteArray), t158))) = some (r1, r2, r3, r4) := H
                                  have A176 := Aside0.mk A1760
                                  clear A1760
                                  by_cases c177 : t158 = 0
                                  · rw [if_pos c177] at H
                                    have c177b0 : (t158 == 0) = true := beq_iff_eq.mpr c177
                                    have c177b1 : (t158 != 0) = false := bne_eq_false_iff_eq.mpr c177
                                    clear c177
                                    simp only [Option.some.injEq, Prod.mk.injEq] at H
                                    obtain ⟨rfl, rfl, rfl, rfl⟩ := H
                                    have hnb178 := NB151_145.out
                                    have hnc178 := NB145_151.out
                                    have hnb179 := NB151_146.out
                                    have hnc179 := NB146_151.out
                                    have hnb180 := NB151_152.out
                                    have hnc180 := NB152_151.out
                                    have hcz181_0 : wc.cell? ⟨gb151, 0, none⟩ = some (.int .i64 ((rd_T25 l1 0).f0)) := (blk_cell BK151.out 0).trans rfl
                                    have hcz181_1 : wc.cell? ⟨gb151, 1, none⟩ = some (.int .i64 ((rd_T25 l1 0).f1)) := (blk_cell BK151.out 1).trans rfl
                                    have hcz181_2 : wc.cell? ⟨gb151, 2, none⟩ = some (.string ((rd_T25 l1 0).f2)) := (blk_cell BK151.out 2).trans rfl
                                    have hfz181_0 := blk_frozen BK151.out 0
                                    have hfz181_1 := blk_frozen BK151.out 1
                                    have hfz181_2 := blk_frozen BK151.out 2
                                    have hnb182 := NB152_145.out
                                    have hnc182 := NB145_152.out
                                    have hnb183 := NB152_146.out
                                    have hnc183 := NB146_152.out
                                    have hcz184_0 : wc.cell? ⟨gb152, 0, none⟩ = some (.int .i64 ((rd_T25 l1 (ji16)).f0)) := (blk_cell BK152.out 0).trans rfl
                                    have hcz184_1 : wc.cell? ⟨gb152, 1, none⟩ = some (.int .i64 ((rd_T25 l1 (ji16)).f1)) := (blk_cell BK152.out 1).trans rfl
                                    have hcz184_2 : wc.cell? ⟨gb152, 2, none⟩ = some (.string ((rd_T25 l1 (ji16)).f2)) := (blk_cell BK152.out 2).trans rfl
                                    have hfz184_0 := blk_frozen BK152.out 0
                                    have hfz184_1 := blk_frozen BK152.out 1
                                    have hfz184_2 := blk_frozen BK152.out 2
                                    go_wp2_with (first | ((with_reducible refine gate_callee (f := 28) rfl ?_); refine goesL_ (some 100) rfl rfl Try.func28 (by kernel_rfl) rfl #[.int .i64 a0, .int .i64 ((rd_T25 l1 0).f1), .int .i64 ((rd_T25 l1 (ji16)).f1)] rfl (by (try simp only [List.map_toArray, List.map_cons, List.map_nil]); first | done | (simp only [hji16]; rfl) | rfl | (simp only [List.length_drop, List.length_take]; rfl)) ?_; (with_reducible refine (haspref03_Whole.calls a0 ((rd_T25 l1 0).f1) ((rd_T25 l1 (ji16)).f1) t157 t158 _ A176.out).mono ?_); rintro e w' ⟨rfl, ⟨nd, rfl⟩⟩; refine ⟨_, rfl, ?_⟩; (try (rw [drewN_self wc]; generalize hq_ : World.drewN wc _ = wc; have n0_ : Aside0 (wc.heap[gb145]? = some (.cells #[.int .i64 0, .int .i64 0, .string (⟨#[]⟩ : ByteArray)] 25 (0, 0))) := ⟨by rw [← hq_]; exact (by (with_reducible repeat (first | refine blk_drewN ?_ _ | refine blk_drew ?_ | refine blk_alloc ?_ _)); exact BK145.out)⟩; have n1_ : Aside0 (wc.heap[gb146]? = some (.cells #[.int .i64 0, .int .i64 0, .string (⟨#[]⟩ : ByteArray)] 25 (0, 0))) := ⟨by rw [← hq_]; exact (by (with_reducible repeat (first | refine blk_drewN ?_ _ | refine blk_drew ?_ | refine blk_alloc ?_ _)); exact BK146.out)⟩; have n2_ : Aside0 (wc.heap[gb151]? = some (.cells #[.int .i64 ((rd_T25 l1 0).f0), .int .i64 ((rd_T25 l1 0).f1), .string ((rd_T25 l1 0).f2)] 25 (0, 0))) := ⟨by rw [← hq_]; exact (by (with_reducible repeat (first | refine blk_drewN ?_ _ | refine blk_drew ?_ | refine blk_alloc ?_ _)); exact BK151.out)⟩; have n3_ : Aside0 (wc.heap[gb152]? = some (.cells #[.int .i64 ((rd_T25 l1 (ji16)).f0), .int .i64 ((rd_T25 l1 (ji16)).f1), .string ((rd_T25 l1 (ji16)).f2)] 25 (0, 0))) := ⟨by rw [← hq_]; exact (by (with_reducible repeat (first | refine blk_drewN ?_ _ | refine blk_drew ?_ | refine blk_alloc ?_ _)); exact BK152.out)⟩; have n4_ : Aside0 (Below w.heap.size w wc) := ⟨by rw [← hq_]; exact (by repeat (first | (with_reducible first | exact HB.out | apply below_alloc | apply pw_below_drewN | apply below_drew1 | refine below_set ?_ GE145.out | refine below_set ?_ GE146.out | refine below_set ?_ GE151.out | refine below_set ?_ GE152.out) | exact HB.out))⟩; clear BK145 BK146 BK151 BK152 HB hq_; have BK145 := n0_; have BK146 := n1_; have BK151 := n2_; have BK152 := n3_; have HB := n4_; clear n0_ n1_ n2_ n3_ n4_)); have hnb185 := NB145_146.out; have hnc185 := NB146_145.out; have hcz186_0 : wc.cell? ⟨gb145, 0, none⟩ = some (.int .i64 0) := (blk_cell BK145.out 0).trans rfl; have hcz186_1 : wc.cell? ⟨gb145, 1, none⟩ = some (.int .i64 0) := (blk_cell BK145.out 1).trans rfl; have hcz186_2 : wc.cell? ⟨gb145, 2, none⟩ = some (.string (⟨#[]⟩ : ByteArray)) := (blk_cell BK145.out 2).trans rfl; have hfz186_0 := blk_frozen BK145.out 0; have hfz186_1 := blk_frozen BK145.out 1; have hfz186_2 := blk_frozen BK145.out 2))
                                    refine bodyPost_ret (results_ct rfl _ _ gb145 25 #[.int .i64 t153, .int .i64 t157, .string (⟨#[]⟩ : ByteArray)] (0, 0) _ rfl (by (with_reducible repeat (first | refine blk_drewN ?_ _ | refine blk_drew ?_ | refine blk_alloc ?_ _)); refine blk_put (cs := #[.int .i64 t153, .int .i64 t157, .string (⟨#[]⟩ : ByteArray)]) ?_ 2 _ rfl; (with_reducible repeat (first | refine blk_drewN ?_ _ | refine blk_drew ?_ | refine blk_alloc ?_ _)); refine blk_put (cs := #[.int .i64 t153, .int .i64 0, .string (⟨#[]⟩ : ByteArray)]) ?_ 1 _ rfl; (with_reducible repeat (first | refine blk_drewN ?_ _ | refine blk_drew ?_ | refine blk_alloc ?_ _)); refine blk_put (cs := #[.int .i64 0, .int .i64 0, .string (⟨#[]⟩ : ByteArray)]) ?_ 0 _ rfl; (with_reducible repeat (first | refine blk_drewN ?_ _ | refine blk_drew ?_ | refine blk_alloc ?_ _)); exact BK145.out) Try.underlying25 rfl (by kernel_rfl)) rfl ?_
                                    exact ⟨by first | rfl | (simp [errW_none, errW_some] <;> rfl) | (simp only [← hji16]; first | rfl | (simp [errW_none, errW_some] <;> rfl)) | (simp [*, errW_none, errW_some] <;> rfl), by repeat (first | (with_reducible first | exact HB.out | apply below_alloc | apply pw_below_drewN | apply below_drew1 | refine below_set ?_ GE145.out | refine below_set ?_ GE146.out | refine below_set ?_ GE151.out | refine below_set ?_ GE152.out) | exact HB.out)⟩
                                  · rw [if_neg c177] at H
                                    have c177b0 : (t158 == 0) = false := beq_eq_false_iff_ne.mpr c177
                                    have c177b1 : (t158 != 0) = true := bne_iff_ne.mpr c177
                                    simp only [Option.some.injEq, Prod.mk.injEq] at H
                                    obtain ⟨rfl, rfl, rfl, rfl⟩ := H
                                    have hnb187 := NB151_145.out
                                    have hnc187 := NB145_151.out
                                    have hnb188 := NB151_146.out
                                    have hnc188 := NB146_151.out
                                    have hnb189 := NB151_152.out
                                    have hnc189 := NB152_151.out
                                    have hcz190_0 : wc.cell? ⟨gb151, 0, none⟩ = some (.int .i64 ((rd_T25 l1 0).f0)) := (blk_cell BK151.out 0).trans rfl
                                    have hcz190_1 : wc.cell? ⟨gb151, 1, none⟩ = some (.int .i64 ((rd_T25 l1 0).f1)) := (blk_cell BK151.out 1).trans rfl
                                    have hcz190_2 : wc.cell? ⟨gb151, 2, none⟩ = some (.string ((rd_T25 l1 0).f2)) := (blk_cell BK151.out 2).trans rfl
                                    have hfz190_0 := blk_frozen BK151.out 0
                                    have hfz190_1 := blk_frozen BK151.out 1
                                    have hfz190_2 := blk_frozen BK151.out 2
                                    have hnb191 := NB152_145.out
                                    have hnc191 := NB145_152.out
                                    have hnb192 := NB152_146.out
                                    have hnc192 := NB146_152.out
                                    have hcz193_0 : wc.cell? ⟨gb152, 0, none⟩ = some (.int .i64 ((rd_T25 l1 (ji16)).f0)) := (blk_cell BK152.out 0).trans rfl
                                    have hcz193_1 : wc.cell? ⟨gb152, 1, none⟩ = some (.int .i64 ((rd_T25 l1 (ji16)).f1)) := (blk_cell BK152.out 1).trans rfl
                                    have hcz193_2 : wc.cell? ⟨gb152, 2, none⟩ = some (.string ((rd_T25 l1 (ji16)).f2)) := (blk_cell BK152.out 2).trans rfl
                                    have hfz193_0 := blk_frozen BK152.out 0
                                    have hfz193_1 := blk_frozen BK152.out 1
                                    have hfz193_2 := blk_frozen BK152.out 2
                                    go_wp2_with (first | ((with_reducible refine gate_callee (f := 28) rfl ?_); refine goesL_ (some 100) rfl rfl Try.func28 (by kernel_rfl) rfl #[.int .i64 a0, .int .i64 ((rd_T25 l1 0).f1), .int .i64 ((rd_T25 l1 (ji16)).f1)] rfl (by (try simp only [List.map_toArray, List.map_cons, List.map_nil]); first | done | (simp only [hji16]; rfl) | rfl | (simp only [List.length_drop, List.length_take]; rfl)) ?_; (with_reducible refine (haspref03_Whole.calls a0 ((rd_T25 l1 0).f1) ((rd_T25 l1 (ji16)).f1) t157 t158 _ A176.out).mono ?_); rintro e w' ⟨rfl, ⟨nd, rfl⟩⟩; refine ⟨_, rfl, ?_⟩; (try (rw [drewN_self wc]; generalize hq_ : World.drewN wc _ = wc; have n0_ : Aside0 (wc.heap[gb145]? = some (.cells #[.int .i64 0, .int .i64 0, .string (⟨#[]⟩ : ByteArray)] 25 (0, 0))) := ⟨by rw [← hq_]; exact (by (with_reducible repeat (first | refine blk_drewN ?_ _ | refine blk_drew ?_ | refine blk_alloc ?_ _)); exact BK145.out)⟩; have n1_ : Aside0 (wc.heap[gb146]? = some (.cells #[.int .i64 0, .int .i64 0, .string (⟨#[]⟩ : ByteArray)] 25 (0, 0))) := ⟨by rw [← hq_]; exact (by (with_reducible repeat (first | refine blk_drewN ?_ _ | refine blk_drew ?_ | refine blk_alloc ?_ _)); exact BK146.out)⟩; have n2_ : Aside0 (wc.heap[gb151]? = some (.cells #[.int .i64 ((rd_T25 l1 0).f0), .int .i64 ((rd_T25 l1 0).f1), .string ((rd_T25 l1 0).f2)] 25 (0, 0))) := ⟨by rw [← hq_]; exact (by (with_reducible repeat (first | refine blk_drewN ?_ _ | refine blk_drew ?_ | refine blk_alloc ?_ _)); exact BK151.out)⟩; have n3_ : Aside0 (wc.heap[gb152]? = some (.cells #[.int .i64 ((rd_T25 l1 (ji16)).f0), .int .i64 ((rd_T25 l1 (ji16)).f1), .string ((rd_T25 l1 (ji16)).f2)] 25 (0, 0))) := ⟨by rw [← hq_]; exact (by (with_reducible repeat (first | refine blk_drewN ?_ _ | refine blk_drew ?_ | refine blk_alloc ?_ _)); exact BK152.out)⟩; have n4_ : Aside0 (Below w.heap.size w wc) := ⟨by rw [← hq_]; exact (by repeat (first | (with_reducible first | exact HB.out | apply below_alloc | apply pw_below_drewN | apply below_drew1 | refine below_set ?_ GE145.out | refine below_set ?_ GE146.out | refine below_set ?_ GE151.out | refine below_set ?_ GE152.out) | exact HB.out))⟩; clear BK145 BK146 BK151 BK152 HB hq_; have BK145 := n0_; have BK146 := n1_; have BK151 := n2_; have BK152 := n3_; have HB := n4_; clear n0_ n1_ n2_ n3_ n4_)); have hnb194 := NB146_145.out; have hnc194 := NB145_146.out; have hcz195_0 : wc.cell? ⟨gb146, 0, none⟩ = some (.int .i64 0) := (blk_cell BK146.out 0).trans rfl; have hcz195_1 : wc.cell? ⟨gb146, 1, none⟩ = some (.int .i64 0) := (blk_cell BK146.out 1).trans rfl; have hcz195_2 : wc.cell? ⟨gb146, 2, none⟩ = some (.string (⟨#[]⟩ : ByteArray)) := (blk_cell BK146.out 2).trans rfl; have hfz195_0 := blk_frozen BK146.out 0; have hfz195_1 := blk_frozen BK146.out 1; have hfz195_2 := blk_frozen BK146.out 2; have hcz196_0 : wc.cell? ⟨gb145, 0, none⟩ = some (.int .i64 0) := (blk_cell BK145.out 0).trans rfl; have hcz196_1 : wc.cell? ⟨gb145, 1, none⟩ = some (.int .i64 0) := (blk_cell BK145.out 1).trans rfl; have hcz196_2 : wc.cell? ⟨gb145, 2, none⟩ = some (.string (⟨#[]⟩ : ByteArray)) := (blk_cell BK145.out 2).trans rfl; have hfz196_0 := blk_frozen BK145.out 0; have hfz196_1 := blk_frozen BK145.out 1; have hfz196_2 := blk_frozen BK145.out 2))
                                    refine bodyPost_ret (results_ct rfl _ _ gb145 25 #[.int .i64 0, .int .i64 0, .string (⟨#[]⟩ : ByteArray)] (0, 0) _ rfl (by (with_reducible repeat (first | refine blk_drewN ?_ _ | refine blk_drew ?_ | refine blk_alloc ?_ _)); refine blk_put (cs := #[.int .i64 0, .int .i64 0, .string (⟨#[]⟩ : ByteArray)]) ?_ 2 _ rfl; (with_reducible repeat (first | refine blk_drewN ?_ _ | refine blk_drew ?_ | refine blk_alloc ?_ _)); refine blk_put (cs := #[.int .i64 0, .int .i64 0, .string (⟨#[]⟩ : ByteArray)]) ?_ 1 _ rfl; (with_reducible repeat (first | refine blk_drewN ?_ _ | refine blk_drew ?_ | refine blk_alloc ?_ _)); refine blk_put (cs := #[.int .i64 0, .int .i64 0, .string (⟨#[]⟩ : ByteArray)]) ?_ 0 _ rfl; (with_reducible repeat (first | refine blk_drewN ?_ _ | refine blk_drew ?_ | refine blk_alloc ?_ _)); exact BK145.out) Try.underlying25 rfl (by kernel_rfl)) rfl ?_
                                    exact ⟨by first | rfl | (simp [errW_none, errW_some] <;> rfl) | (simp only [← hji16]; first | rfl | (simp [errW_none, errW_some] <;> rfl)) | (simp [*, errW_none, errW_some] <;> rfl), by repeat (first | (with_reducible first | exact HB.out | apply below_alloc | apply pw_below_drewN | apply below_drew1 | refine below_set ?_ GE145.out | refine below_set ?_ GE146.out | refine below_set ?_ GE151.out | refine below_set ?_ GE152.out) | exact HB.out)⟩
                                · rw [if_neg c175] at H
                                  have c175b0 : (t153 == 2) = false := beq_eq_false_iff_ne.mpr c175
                                  have c175b1 : (t153 != 2) = true := bne_iff_ne.mpr c175
                                  replace H := Option.bind_eq_some_iff.mp H
                                  obtain ⟨t159, A1970, H⟩ := H
                                  replace H : (if 0 = 0 then (some (t153, t159, (⟨#[]⟩ : ByteArray), 0)) else (some (0, 0, (⟨#[]⟩ : ByteArray), 0))) = some (r1, r2, r3, r4) := H
                                  have A197 := Aside0.mk A1970
                                  clear A1970
                                  by_cases c198 : 0 = 0
                                  · rw [if_pos c198] at H
                                    have c198b0 : (0 == 0) = true := beq_iff_eq.mpr c198
                                    have c198b1 : (0 != 0) = false := bne_eq_false_iff_eq.mpr c198
                                    clear c198
                                    simp only [Option.some.injEq, Prod.mk.injEq] at H
                                    obtain ⟨rfl, rfl, rfl, rfl⟩ := H
                                    have hnb199 := NB151_145.out
                                    have hnc199 := NB145_151.out
                                    have hnb200 := NB151_146.out
                                    have hnc200 := NB146_151.out
                                    have hnb201 := NB151_152.out
                                    have hnc201 := NB152_151.out
                                    have hcz202_0 : wc.cell? ⟨gb151, 0, none⟩ = some (.int .i64 ((rd_T25 l1 0).f0)) := (blk_cell BK151.out 0).trans rfl
                                    have hcz202_1 : wc.cell? ⟨gb151, 1, none⟩ = some (.int .i64 ((rd_T25 l1 0).f1)) := (blk_cell BK151.out 1).trans rfl
                                    have hcz202_2 : wc.cell? ⟨gb151, 2, none⟩ = some (.string ((rd_T25 l1 0).f2)) := (blk_cell BK151.out 2).trans rfl
                                    have hfz202_0 := blk_frozen BK151.out 0
                                    have hfz202_1 := blk_frozen BK151.out 1
                                    have hfz202_2 := blk_frozen BK151.out 2
                                    have hnb203 := NB152_145.out
                                    have hnc203 := NB145_152.out
                                    have hnb204 := NB152_146.out
                                    have hnc204 := NB146_152.out
                                    have hcz205_0 : wc.cell? ⟨gb152, 0, none⟩ = some (.int .i64 ((rd_T25 l1 (ji16)).f0)) := (blk_cell BK152.out 0).trans rfl
                                    have hcz205_1 : wc.cell? ⟨gb152, 1, none⟩ = some (.int .i64 ((rd_T25 l1 (ji16)).f1)) := (blk_cell BK152.out 1).trans rfl
                                    have hcz205_2 : wc.cell? ⟨gb152, 2, none⟩ = some (.string ((rd_T25 l1 (ji16)).f2)) := (blk_cell BK152.out 2).trans rfl
                                    have hfz205_0 := blk_frozen BK152.out 0
                                    have hfz205_1 := blk_frozen BK152.out 1
                                    have hfz205_2 := blk_frozen BK152.out 2
                                    go_wp2_with (first | ((with_reducible refine gate_callee (f := 29) rfl ?_); refine goesL_ (some 108) rfl rfl Try.func29 (by kernel_rfl) rfl #[.int .i64 a0, .int .i64 ((rd_T25 l1 0).f1), .int .i64 ((rd_T25 l1 (ji16)).f1)] rfl (by (try simp only [List.map_toArray, List.map_cons, List.map_nil]); first | done | (simp only [hji16]; rfl) | rfl | (simp only [List.length_drop, List.length_take]; rfl)) ?_; (with_reducible refine (haspref03_point.calls a0 ((rd_T25 l1 0).f1) ((rd_T25 l1 (ji16)).f1) t159 _ A197.out).mono ?_); rintro e w' ⟨rfl, ⟨nd, rfl⟩⟩; refine ⟨_, rfl, ?_⟩; (try (rw [drewN_self wc]; generalize hq_ : World.drewN wc _ = wc; have n0_ : Aside0 (wc.heap[gb145]? = some (.cells #[.int .i64 0, .int .i64 0, .string (⟨#[]⟩ : ByteArray)] 25 (0, 0))) := ⟨by rw [← hq_]; exact (by (with_reducible repeat (first | refine blk_drewN ?_ _ | refine blk_drew ?_ | refine blk_alloc ?_ _)); exact BK145.out)⟩; have n1_ : Aside0 (wc.heap[gb146]? = some (.cells #[.int .i64 0, .int .i64 0, .string (⟨#[]⟩ : ByteArray)] 25 (0, 0))) := ⟨by rw [← hq_]; exact (by (with_reducible repeat (first | refine blk_drewN ?_ _ | refine blk_drew ?_ | refine blk_alloc ?_ _)); exact BK146.out)⟩; have n2_ : Aside0 (wc.heap[gb151]? = some (.cells #[.int .i64 ((rd_T25 l1 0).f0), .int .i64 ((rd_T25 l1 0).f1), .string ((rd_T25 l1 0).f2)] 25 (0, 0))) := ⟨by rw [← hq_]; exact (by (with_reducible repeat (first | refine blk_drewN ?_ _ | refine blk_drew ?_ | refine blk_alloc ?_ _)); exact BK151.out)⟩; have n3_ : Aside0 (wc.heap[gb152]? = some (.cells #[.int .i64 ((rd_T25 l1 (ji16)).f0), .int .i64 ((rd_T25 l1 (ji16)).f1), .string ((rd_T25 l1 (ji16)).f2)] 25 (0, 0))) := ⟨by rw [← hq_]; exact (by (with_reducible repeat (first | refine blk_drewN ?_ _ | refine blk_drew ?_ | refine blk_alloc ?_ _)); exact BK152.out)⟩; have n4_ : Aside0 (Below w.heap.size w wc) := ⟨by rw [← hq_]; exact (by repeat (first | (with_reducible first | exact HB.out | apply below_alloc | apply pw_below_drewN | apply below_drew1 | refine below_set ?_ GE145.out | refine below_set ?_ GE146.out | refine below_set ?_ GE151.out | refine below_set ?_ GE152.out) | exact HB.out))⟩; clear BK145 BK146 BK151 BK152 HB hq_; have BK145 := n0_; have BK146 := n1_; have BK151 := n2_; have BK152 := n3_; have HB := n4_; clear n0_ n1_ n2_ n3_ n4_)); have hnb206 := NB145_146.out; have hnc206 := NB146_145.out; have hcz207_0 : wc.cell? ⟨gb145, 0, none⟩ = some (.int .i64 0) := (blk_cell BK145.out 0).trans rfl; have hcz207_1 : wc.cell? ⟨gb145, 1, none⟩ = some (.int .i64 0) := (blk_cell BK145.out 1).trans rfl; have hcz207_2 : wc.cell? ⟨gb145, 2, none⟩ = some (.string (⟨#[]⟩ : ByteArray)) := (blk_cell BK145.out 2).trans rfl; have hfz207_0 := blk_frozen BK145.out 0; have hfz207_1 := blk_frozen BK145.out 1; have hfz207_2 := blk_frozen BK145.out 2))
                                    refine bodyPost_ret (results_ct rfl _ _ gb145 25 #[.int .i64 t153, .int .i64 t159, .string (⟨#[]⟩ : ByteArray)] (0, 0) _ rfl (by (with_reducible repeat (first | refine blk_drewN ?_ _ | refine blk_drew ?_ | refine blk_alloc ?_ _)); refine blk_put (cs := #[.int .i64 t153, .int .i64 t159, .string (⟨#[]⟩ : ByteArray)]) ?_ 2 _ rfl; (with_reducible repeat (first | refine blk_drewN ?_ _ | refine blk_drew ?_ | refine blk_alloc ?_ _)); refine blk_put (cs := #[.int .i64 t153, .int .i64 0, .string (⟨#[]⟩ : ByteArray)]) ?_ 1 _ rfl; (with_reducible repeat (first | refine blk_drewN ?_ _ | refine blk_drew ?_ | refine blk_alloc ?_ _)); refine blk_put (cs := #[.int .i64 0, .int .i64 0, .string (⟨#[]⟩ : ByteArray)]) ?_ 0 _ rfl; (with_reducible repeat (first | refine blk_drewN ?_ _ | refine blk_drew ?_ | refine blk_alloc ?_ _)); exact BK145.out) Try.underlying25 rfl (by kernel_rfl)) rfl ?_
                                    exact ⟨by first | rfl | (simp [errW_none, errW_some] <;> rfl) | (simp only [← hji16]; first | rfl | (simp [errW_none, errW_some] <;> rfl)) | (simp [*, errW_none, errW_some] <;> rfl), by repeat (first | (with_reducible first | exact HB.out | apply below_alloc | apply pw_below_drewN | apply below_drew1 | refine below_set ?_ GE145.out | refine below_set ?_ GE146.out | refine below_set ?_ GE151.out | refine below_set ?_ GE152.out) | exact HB.out)⟩
                                  · exact absurd (by decide) c198
            · rw [if_neg c18] at H
              exact absurd H (by simp)
          · rw [if_neg c17] at H
            exact absurd H (by simp)
        · rw [if_neg c15] at H
          exact absurd H (by simp)
end Go.Proofs.Ytbdengnadgofmaa.V
