import Derived.Test.YtnjobnkkpfaigaaZcAx0
import Derived.Test.YtnjobnkkpfaigaaZcAx1
namespace Go.Proofs.Ytnjobnkkpfaigaa.A
open Go.RowKit Go.Proofs.YtnjobnkkpfaigaaW.PrintWords Go.Proofs.YtnjobnkkpfaigaaW.PrintLast Go.Proofs.YtnjobnkkpfaigaaW.PrintMore
attribute [local go_sem] max2_int min2_int max_two min_two max_three min_three max_four min_four   -- for this text's walks alone
set_option linter.unusedVariables false
set_option linter.unusedSimpArgs false
/-! ### haspref06_one: function 26 -/
mutual
def haspref06_one.j0 : Nat → Int → List Int → Int → Bool → Int → Int → ByteArray → Option (Int × Int × ByteArray × Int × Int)
  | 0, _, _, _, _, _, _, _ => none
  | k + 1, x0, x1, x2, x19, x108000, x108001, x108002 => if x19 = true then (some (x108000, x108001, x108002, x2, 30)) else (if x0 = 2 then (haspref06_one.j1 k x0 x1 x2 1 true x108000 x108001 x108002) else (haspref06_one.j1 k x0 x1 x2 1 (x0 == 3) x108000 x108001 x108002))
def haspref06_one.j1 : Nat → Int → List Int → Int → Int → Bool → Int → Int → ByteArray → Option (Int × Int × ByteArray × Int × Int)
  | 0, _, _, _, _, _, _, _, _ => none
  | k + 1, x0, x1, x2, x10, x27, x108000, x108001, x108002 => if x27 = true then (haspref06_one.j2 k x0 x1 x2 8 x108000 x108001 x108002) else (haspref06_one.j2 k x0 x1 x2 x10 x108000 x108001 x108002)
def haspref06_one.j2 : Nat → Int → List Int → Int → Int → Int → Int → ByteArray → Option (Int × Int × ByteArray × Int × Int)
  | 0, _, _, _, _, _, _, _ => none
  | k + 1, x0, x1, x2, x10, x108000, x108001, x108002 => if (wrap64 ((x1.length : Int) - x2)) < x10 then (some (x108000, x108001, x108002, x2, 3)) else (haspref06_one.l0 k x0 x1 x2 x10 0 (wrap64 (x10 - 1)) x108000 x108001 x108002)
def haspref06_one.l0 : Nat → Int → List Int → Int → Int → Int → Int → Int → Int → ByteArray → Option (Int × Int × ByteArray × Int × Int)
  | 0, _, _, _, _, _, _, _, _, _ => none
  | k + 1, x0, x1, x2, x10, x11, x12, x108000, x108001, x108002 => if x12 ≥ 0 then (if 0 ≤ (wrap64 (x2 + x12)) then (if (wrap64 (x2 + x12)) < (x1.length : Int) then (haspref06_one.l0 k x0 x1 x2 x10 (IntKind.u64.wrap ((IntKind.u64.wrap (x11 * 256)) + (IntKind.u64.wrap (rd x1 (wrap64 (x2 + x12)))))) (wrap64 (x12 - 1)) x108000 x108001 x108002) else (none)) else (none)) else (if x0 = 1 then (haspref06_one.j4 k x0 x1 (wrap64 (x2 + x10)) x11 (decide (x11 > 1)) x108000 x108001 x108002) else (haspref06_one.j4 k x0 x1 (wrap64 (x2 + x10)) x11 false x108000 x108001 x108002))
def haspref06_one.j4 : Nat → Int → List Int → Int → Int → Bool → Int → Int → ByteArray → Option (Int × Int × ByteArray × Int × Int)
  | 0, _, _, _, _, _, _, _, _ => none
  | k + 1, x0, x1, x2, x11, x60, x108000, x108001, x108002 => if x60 = true then (some (x108000, x108001, x108002, x2, 2)) else (if x0 = 3 then ((haspref01_Canon.f (wrap64 (x11))).bind fun t109 => (haspref06_one.j5 k x0 x1 x2 x11 (t109 != (wrap64 (x11))) x108000 x108001 x108002)) else (haspref06_one.j5 k x0 x1 x2 x11 false x108000 x108001 x108002))
def haspref06_one.j5 : Nat → Int → List Int → Int → Int → Bool → Int → Int → ByteArray → Option (Int × Int × ByteArray × Int × Int)
  | 0, _, _, _, _, _, _, _, _ => none
  | k + 1, x0, x1, x2, x11, x72, x108000, x108001, x108002 => if x72 = true then (some (x108000, x108001, x108002, x2, 2)) else (if x0 < 4 then (some (x0, wrap64 (x11), (⟨#[]⟩ : ByteArray), x2, 0)) else (if x11 > 200 then (some (x108000, x108001, x108002, x2, 1)) else (if (wrap64 ((x1.length : Int) - x2)) < (wrap64 (x11)) then (some (x108000, x108001, x108002, x2, 3)) else (if 0 ≤ x2 then (if x2 ≤ (wrap64 (x2 + (wrap64 (x11)))) then (if (wrap64 (x2 + (wrap64 (x11)))) ≤ (x1.length : Int) then (some (4, 0, strOfNums ((x1.take ((wrap64 (x2 + (wrap64 (x11)))) : Int).toNat).drop (x2 : Int).toNat), wrap64 (x2 + (wrap64 (x11))), 0)) else (none)) else (none)) else (none)))))
end
def haspref06_one.f (k : Nat) (a0 : Int) (l1 : List Int) (a2 : Int) : Option (Int × Int × ByteArray × Int × Int) := if a0 < 1 then (haspref06_one.j0 k a0 l1 a2 true 0 0 (⟨#[]⟩ : ByteArray)) else (haspref06_one.j0 k a0 l1 a2 (decide (a0 > 4)) 0 0 (⟨#[]⟩ : ByteArray))
set_option maxHeartbeats 8000000 in
set_option maxRecDepth 100000 in
theorem haspref06_one.calls (k : Nat) (a0 : Int) (A1 : Option Addr) (c1 : Nat) (l1 : List Int) (a2 : Int) (r1 : Int) (r2 : Int) (r3 : ByteArray) (r4 : Int) (r5 : Int) (w : World) (hr1 : Kd.C (Kd.int .u8) w A1 l1.length l1) (hc1 : l1.length ≤ c1) (h : haspref06_one.f k a0 l1 a2 = some (r1, r2, r3, r4, r5)) :
    Calls Try.prog 26 #[.int .i64 a0, .slice A1 l1.length c1, .int .i64 a2] w fun e w' => e = .returned (.tuple #[.agg #[.int .i64 r1, .int .i64 r2, .string r3], .int .i64 r4, .int .i64 r5]) ∧ Below w.heap.size w w' := by
  have hu43 := Try.underlying43
  have HR1 := Aside0.mk hr1
  have HC1 := Aside0.mk hc1
  clear hr1 hc1
  have HB := Aside0.mk (Below.refl w.heap.size w)
  have H : (if a0 < 1 then (haspref06_one.j0 k a0 l1 a2 true 0 0 (⟨#[]⟩ : ByteArray)) else (haspref06_one.j0 k a0 l1 a2 (decide (a0 > 4)) 0 0 (⟨#[]⟩ : ByteArray))) = some (r1, r2, r3, r4, r5) := h
  clear h
  have HC4 := Aside0.mk H
  clear H
  go_enter Try.func26, Try.ntmps26
  go_upto_region 2 with (first | ((with_reducible refine gate_dst (N := 6) rfl ?_); refine box_event ?hg (N := 6) ?hd (cs := #[.int .i64 0, .int .i64 0, .string (⟨#[]⟩ : ByteArray)]) (t := 43) ?hr ?_; (case hd => rfl); (case hg => rfl); (case hr => first | (go_simp; done) | (go_simp; rfl)); intro gb106 hg w5 hbox hb; have n0_ := Aside0.mk (below_step (by repeat (first | (with_reducible first | exact HB.out | apply below_alloc | apply pw_below_drewN | apply below_drew1) | exact HB.out)) hb); have n1_ := Aside0.mk (hbox); have n2_ := Aside0.mk ((by rw [hg]; exact (below_size (by repeat (first | (with_reducible first | exact HB.out | apply below_alloc | apply pw_below_drewN | apply below_drew1) | exact HB.out))) : w.heap.size ≤ gb106)); have n3_ := Aside0.mk ((by rw [hg]; exact (below_size (by repeat (first | (with_reducible first | exact HB.out | apply below_alloc | apply pw_below_drewN | apply below_drew1) | exact HB.out))) : w.heap.size ≤ gb106)); clear HB; have HB := n0_; have BK106 := n1_; have GW106 := n2_; have GE106 := n3_; clear n0_ n1_ n2_ n3_; clear hb hbox hg) | ((with_reducible refine gate_dst (N := 9) rfl ?_); refine box_event ?hg (N := 9) ?hd (cs := #[.int .i64 0, .int .i64 0, .string (⟨#[]⟩ : ByteArray)]) (t := 43) ?hr ?_; (case hd => rfl); (case hg => rfl); (case hr => first | (go_simp; done) | (go_simp; rfl)); intro gb107 hg w6 hbox hb; have n0_ := Aside0.mk (blk_below (g := gb106) (o := .cells #[.int .i64 0, .int .i64 0, .string (⟨#[]⟩ : ByteArray)] 43 (0, 0)) (by (with_reducible repeat (first | refine blk_drewN ?_ _ | refine blk_drew ?_ | refine blk_alloc ?_ _)); exact BK106.out) hb); have n1_ := Aside0.mk (below_step (by repeat (first | (with_reducible first | exact HB.out | apply below_alloc | apply pw_below_drewN | apply below_drew1 | refine below_set ?_ GE106.out) | exact HB.out)) hb); have n2_ := Aside0.mk (hbox); have n3_ := Aside0.mk ((by rw [hg]; exact (below_size (by repeat (first | (with_reducible first | exact HB.out | apply below_alloc | apply pw_below_drewN | apply below_drew1 | refine below_set ?_ GE106.out) | exact HB.out))) : w.heap.size ≤ gb107)); have n4_ := Aside0.mk ((by rw [hg]; exact (below_size (by repeat (first | (with_reducible first | exact HB.out | apply below_alloc | apply pw_below_drewN | apply below_drew1 | refine below_set ?_ GE106.out) | exact HB.out))) : w.heap.size ≤ gb107)); have n5_ := Aside0.mk ((by rw [hg]; exact Nat.ne_of_lt (blk_lt (g := gb106) (o := .cells #[.int .i64 0, .int .i64 0, .string (⟨#[]⟩ : ByteArray)] 43 (0, 0)) (by (with_reducible repeat (first | refine blk_drewN ?_ _ | refine blk_drew ?_ | refine blk_alloc ?_ _)); exact BK106.out)) : gb106 ≠ gb107)); have n6_ := Aside0.mk ((by rw [hg]; exact Nat.ne_of_gt (blk_lt (g := gb106) (o := .cells #[.int .i64 0, .int .i64 0, .string (⟨#[]⟩ : ByteArray)] 43 (0, 0)) (by (with_reducible repeat (first | refine blk_drewN ?_ _ | refine blk_drew ?_ | refine blk_alloc ?_ _)); exact BK106.out)) : gb107 ≠ gb106)); clear BK106; clear HB; have BK106 := n0_; have HB := n1_; have BK107 := n2_; have GW107 := n3_; have GE107 := n4_; have NB106_107 := n5_; have NB107_106 := n6_; clear n0_ n1_ n2_ n3_ n4_ n5_ n6_; clear hb hbox hg; have hnb7 := NB107_106.out; have hnc7 := NB106_107.out; have hcz8_0 : w6.cell? ⟨gb107, 0, none⟩ = some (.int .i64 0) := (blk_cell BK107.out 0).trans rfl; have hcz8_1 : w6.cell? ⟨gb107, 1, none⟩ = some (.int .i64 0) := (blk_cell BK107.out 1).trans rfl; have hcz8_2 : w6.cell? ⟨gb107, 2, none⟩ = some (.string (⟨#[]⟩ : ByteArray)) := (blk_cell BK107.out 2).trans rfl; have hfz8_0 := blk_frozen BK107.out 0; have hfz8_1 := blk_frozen BK107.out 1; have hfz8_2 := blk_frozen BK107.out 2))
  (try simp only [Act.put, List.setIfInBounds_toArray, List.set_cons_zero, List.set_cons_succ])
  go_cut [19] (fun v19 wc => ∃ (kq : Nat) (x19_3 : Bool), v19 = .bool x19_3 ∧ Aside0 (haspref06_one.j0 kq a0 l1 a2 x19_3 0 0 (⟨#[]⟩ : ByteArray) = some (r1, r2, r3, r4, r5)) ∧ Aside0 (kq ≤ k) ∧ Aside0 (wc.heap[gb106]? = some (.cells #[.int .i64 0, .int .i64 0, .string (⟨#[]⟩ : ByteArray)] 43 (0, 0))) ∧ Aside0 (wc.heap[gb107]? = some (.cells #[.int .i64 0, .int .i64 0, .string (⟨#[]⟩ : ByteArray)] 43 (0, 0))) ∧ Aside0 (Below w.heap.size w wc))
  case first =>
    have H := HC4.out
    clear HC4
    by_cases c9 : a0 < 1
    · rw [if_pos c9] at H
      have c9b0 : decide (a0 < 1) = true := decide_eq_true c9
      clear c9
      (first | rw [c9b0] | (simp only [i64_w, i32_w]; rw [c9b0]) | skip)
      have H' := Aside0.mk H
      clear H
      go_wp2
      go_meet
      case rel => exact ⟨_, (true), (by first | rfl | (simp; done) | (simp [*]; done)), H', ⟨by first | omega | exact Nat.le_refl _⟩, ⟨by (with_reducible repeat (first | refine blk_drewN ?_ _ | refine blk_drew ?_ | refine blk_alloc ?_ _)); refine blk_far ?_ NB106_107.out _; (with_reducible repeat (first | refine blk_drewN ?_ _ | refine blk_drew ?_ | refine blk_alloc ?_ _)); refine blk_far ?_ NB106_107.out _; (with_reducible repeat (first | refine blk_drewN ?_ _ | refine blk_drew ?_ | refine blk_alloc ?_ _)); refine blk_far ?_ NB106_107.out _; (with_reducible repeat (first | refine blk_drewN ?_ _ | refine blk_drew ?_ | refine blk_alloc ?_ _)); exact BK106.out⟩, ⟨by (with_reducible repeat (first | refine blk_drewN ?_ _ | refine blk_drew ?_ | refine blk_alloc ?_ _)); refine blk_put (cs := #[.int .i64 0, .int .i64 0, .string (⟨#[]⟩ : ByteArray)]) ?_ 2 _ rfl; (with_reducible repeat (first | refine blk_drewN ?_ _ | refine blk_drew ?_ | refine blk_alloc ?_ _)); refine blk_put (cs := #[.int .i64 0, .int .i64 0, .string (⟨#[]⟩ : ByteArray)]) ?_ 1 _ rfl; (with_reducible repeat (first | refine blk_drewN ?_ _ | refine blk_drew ?_ | refine blk_alloc ?_ _)); refine blk_put (cs := #[.int .i64 0, .int .i64 0, .string (⟨#[]⟩ : ByteArray)]) ?_ 0 _ rfl; (with_reducible repeat (first | refine blk_drewN ?_ _ | refine blk_drew ?_ | refine blk_alloc ?_ _)); exact BK107.out⟩, ⟨by repeat (first | (with_reducible first | exact HB.out | apply below_alloc | apply pw_below_drewN | apply below_drew1 | refine below_set ?_ GE106.out | refine below_set ?_ GE107.out) | exact HB.out)⟩⟩
    · rw [if_neg c9] at H
      have c9b0 : decide (a0 < 1) = false := decide_eq_false c9
      clear c9
      (first | rw [c9b0] | (simp only [i64_w, i32_w]; rw [c9b0]) | skip)
      have H' := Aside0.mk H
      clear H
      go_wp2
      go_meet
      case rel => exact ⟨_, (decide (a0 > 4)), (by first | rfl | (simp; done) | (simp [*]; done)), H', ⟨by first | omega | exact Nat.le_refl _⟩, ⟨by (with_reducible repeat (first | refine blk_drewN ?_ _ | refine blk_drew ?_ | refine blk_alloc ?_ _)); refine blk_far ?_ NB106_107.out _; (with_reducible repeat (first | refine blk_drewN ?_ _ | refine blk_drew ?_ | refine blk_alloc ?_ _)); refine blk_far ?_ NB106_107.out _; (with_reducible repeat (first | refine blk_drewN ?_ _ | refine blk_drew ?_ | refine blk_alloc ?_ _)); refine blk_far ?_ NB106_107.out _; (with_reducible repeat (first | refine blk_drewN ?_ _ | refine blk_drew ?_ | refine blk_alloc ?_ _)); exact BK106.out⟩, ⟨by (with_reducible repeat (first | refine blk_drewN ?_ _ | refine blk_drew ?_ | refine blk_alloc ?_ _)); refine blk_put (cs := #[.int .i64 0, .int .i64 0, .string (⟨#[]⟩ : ByteArray)]) ?_ 2 _ rfl; (with_reducible repeat (first | refine blk_drewN ?_ _ | refine blk_drew ?_ | refine blk_alloc ?_ _)); refine blk_put (cs := #[.int .i64 0, .int .i64 0, .string (⟨#[]⟩ : ByteArray)]) ?_ 1 _ rfl; (with_reducible repeat (first | refine blk_drewN ?_ _ | refine blk_drew ?_ | refine blk_alloc ?_ _)); refine blk_put (cs := #[.int .i64 0, .int .i64 0, .string (⟨#[]⟩ : ByteArray)]) ?_ 0 _ rfl; (with_reducible repeat (first | refine blk_drewN ?_ _ | refine blk_drew ?_ | refine blk_alloc ?_ _)); exact BK107.out⟩, ⟨by repeat (first | (with_reducible first | exact HB.out | apply below_alloc | apply pw_below_drewN | apply below_drew1 | refine below_set ?_ GE106.out | refine below_set ?_ GE107.out) | exact HB.out)⟩⟩
  case rest =>
    clear HC4
    try clear c1
    try clear c2
    try clear p2
    try clear c7
    try clear c9
    try clear c9b0
    try clear hcz8_0
    try clear hcz8_1
    try clear hcz8_2
    try clear hfz8_0
    try clear hfz8_1
    try clear hfz8_2
    obtain ⟨kq, x19_3, rfl, HA, HJ3, BK106, BK107, HB⟩ := hcut
    cases kq with
    | zero => exact absurd HA.out (by simp [haspref06_one.j0])
    | succ kj3 =>
      have H := HA.out
      clear HA
      simp only [haspref06_one.j0] at H
      by_cases c10 : x19_3 = true
      · subst c10
        have H1 : (some (0, 0, (⟨#[]⟩ : ByteArray), a2, 30)) = some (r1, r2, r3, r4, r5) := by rw [if_pos rfl] at H; exact H
        clear H
        have H := H1
        clear H1
        simp only [Option.some.injEq, Prod.mk.injEq] at H
        obtain ⟨rfl, rfl, rfl, rfl, rfl⟩ := H
        have hnb11 := NB107_106.out
        have hnc11 := NB106_107.out
        have hcz12_0 : wc.cell? ⟨gb107, 0, none⟩ = some (.int .i64 0) := (blk_cell BK107.out 0).trans rfl
        have hcz12_1 : wc.cell? ⟨gb107, 1, none⟩ = some (.int .i64 0) := (blk_cell BK107.out 1).trans rfl
        have hcz12_2 : wc.cell? ⟨gb107, 2, none⟩ = some (.string (⟨#[]⟩ : ByteArray)) := (blk_cell BK107.out 2).trans rfl
        have hfz12_0 := blk_frozen BK107.out 0
        have hfz12_1 := blk_frozen BK107.out 1
        have hfz12_2 := blk_frozen BK107.out 2
        have hcz13_0 : wc.cell? ⟨gb106, 0, none⟩ = some (.int .i64 0) := (blk_cell BK106.out 0).trans rfl
        have hcz13_1 : wc.cell? ⟨gb106, 1, none⟩ = some (.int .i64 0) := (blk_cell BK106.out 1).trans rfl
        have hcz13_2 : wc.cell? ⟨gb106, 2, none⟩ = some (.string (⟨#[]⟩ : ByteArray)) := (blk_cell BK106.out 2).trans rfl
        have hfz13_0 := blk_frozen BK106.out 0
        have hfz13_1 := blk_frozen BK106.out 1
        have hfz13_2 := blk_frozen BK106.out 2
        go_wp2
        refine bodyPost_ret (results_ctt rfl _ _ gb106 43 #[.int .i64 0, .int .i64 0, .string (⟨#[]⟩ : ByteArray)] (0, 0) _ rfl (by (with_reducible repeat (first | refine blk_drewN ?_ _ | refine blk_drew ?_ | refine blk_alloc ?_ _)); refine blk_put (cs := #[.int .i64 0, .int .i64 0, .string (⟨#[]⟩ : ByteArray)]) ?_ 2 _ rfl; (with_reducible repeat (first | refine blk_drewN ?_ _ | refine blk_drew ?_ | refine blk_alloc ?_ _)); refine blk_put (cs := #[.int .i64 0, .int .i64 0, .string (⟨#[]⟩ : ByteArray)]) ?_ 1 _ rfl; (with_reducible repeat (first | refine blk_drewN ?_ _ | refine blk_drew ?_ | refine blk_alloc ?_ _)); refine blk_put (cs := #[.int .i64 0, .int .i64 0, .string (⟨#[]⟩ : ByteArray)]) ?_ 0 _ rfl; (with_reducible repeat (first | refine blk_drewN ?_ _ | refine blk_drew ?_ | refine blk_alloc ?_ _)); exact BK106.out) Try.underlying43 rfl (by kernel_rfl)) rfl ?_
        exact ⟨by first | rfl | (simp [errW_none, errW_some] <;> rfl) | (simp [*, errW_none, errW_some] <;> rfl), by repeat (first | (with_reducible first | exact HB.out | apply below_alloc | apply pw_below_drewN | apply below_drew1 | refine below_set ?_ GE106.out | refine below_set ?_ GE107.out) | exact HB.out)⟩
      · replace c10 := Bool.eq_false_iff.mpr c10
        subst c10
        have H1 : (if a0 = 2 then (haspref06_one.j1 kj3 a0 l1 a2 1 true 0 0 (⟨#[]⟩ : ByteArray)) else (haspref06_one.j1 kj3 a0 l1 a2 1 (a0 == 3) 0 0 (⟨#[]⟩ : ByteArray))) = some (r1, r2, r3, r4, r5) := by rw [if_neg (show ¬ (false = true) by decide)] at H; exact H
        clear H
        have H := H1
        clear H1
        have HC14 := Aside0.mk H
        clear H
        go_upto_region 5 with (fail)
        go_cut [27] (fun v27 wc => ∃ (kq : Nat) (x27_13 : Bool), v27 = .bool x27_13 ∧ Aside0 (haspref06_one.j1 kq a0 l1 a2 1 x27_13 0 0 (⟨#[]⟩ : ByteArray) = some (r1, r2, r3, r4, r5)) ∧ Aside0 (kq ≤ kj3) ∧ Aside0 (wc.heap[gb106]? = some (.cells #[.int .i64 0, .int .i64 0, .string (⟨#[]⟩ : ByteArray)] 43 (0, 0))) ∧ Aside0 (wc.heap[gb107]? = some (.cells #[.int .i64 0, .int .i64 0, .string (⟨#[]⟩ : ByteArray)] 43 (0, 0))) ∧ Aside0 (Below w.heap.size w wc))
        case first =>
          have H := HC14.out
          clear HC14
          by_cases c15 : a0 = 2
          · rw [if_pos c15] at H
            have c15b0 : (a0 == 2) = true := beq_iff_eq.mpr c15
            have c15b1 : (a0 != 2) = false := bne_eq_false_iff_eq.mpr c15
            clear c15
            (first | rw [c15b0] | (simp only [i64_w, i32_w]; rw [c15b0]) | skip)
            have H' := Aside0.mk H
            clear H
            go_wp2
            go_meet
            case rel => exact ⟨_, (true), (by first | rfl | (simp; done) | (simp [*]; done)), H', ⟨by have := HJ3.out; first | omega | exact Nat.le_refl _⟩, ⟨by (with_reducible repeat (first | refine blk_drewN ?_ _ | refine blk_drew ?_ | refine blk_alloc ?_ _)); exact BK106.out⟩, ⟨by (with_reducible repeat (first | refine blk_drewN ?_ _ | refine blk_drew ?_ | refine blk_alloc ?_ _)); exact BK107.out⟩, ⟨by repeat (first | (with_reducible first | exact HB.out | apply below_alloc | apply pw_below_drewN | apply below_drew1 | refine below_set ?_ GE106.out | refine below_set ?_ GE107.out) | exact HB.out)⟩⟩
          · rw [if_neg c15] at H
            have c15b0 : (a0 == 2) = false := beq_eq_false_iff_ne.mpr c15
            have c15b1 : (a0 != 2) = true := bne_iff_ne.mpr c15
            (first | rw [c15b0] | (simp only [i64_w, i32_w]; rw [c15b0]) | skip)
            have H' := Aside0.mk H
            clear H
            go_wp2
            go_meet
            case rel => exact ⟨_, ((a0 == 3)), (by first | rfl | (simp; done) | (simp [*]; done)), H', ⟨by have := HJ3.out; first | omega | exact Nat.le_refl _⟩, ⟨by (with_reducible repeat (first | refine blk_drewN ?_ _ | refine blk_drew ?_ | refine blk_alloc ?_ _)); exact BK106.out⟩, ⟨by (with_reducible repeat (first | refine blk_drewN ?_ _ | refine blk_drew ?_ | refine blk_alloc ?_ _)); exact BK107.out⟩, ⟨by repeat (first | (with_reducible first | exact HB.out | apply below_alloc | apply pw_below_drewN | apply below_drew1 | refine below_set ?_ GE106.out | refine below_set ?_ GE107.out) | exact HB.out)⟩⟩
        case rest =>
          clear HC14
          try clear c1
          try clear c2
          try clear p2
          try clear c7
          try clear c9
          try clear c9b0
          try clear c10
          try clear c11
          try clear c15
          try clear c15b0
          try clear c15b1
          try clear hcz12_0
          try clear hcz12_1
          try clear hcz12_2
          try clear hcz13_0
          try clear hcz13_1
          try clear hcz13_2
          try clear hcz8_0
          try clear hcz8_1
          try clear hcz8_2
          try clear hfz12_0
          try clear hfz12_1
          try clear hfz12_2
          try clear hfz13_0
          try clear hfz13_1
          try clear hfz13_2
          try clear hfz8_0
          try clear hfz8_1
          try clear hfz8_2
          try clear p2
          obtain ⟨kq, x27_13, rfl, HA, HJ13, BK106, BK107, HB⟩ := hcut
          cases kq with
          | zero => exact absurd HA.out (by simp [haspref06_one.j1])
          | succ kj13 =>
            have H := HA.out
            clear HA
            simp only [haspref06_one.j1] at H
            have HC16 := Aside0.mk H
            clear H
            go_upto_if 27 with (fail)
            go_cut [10] (fun v10 wc => ∃ (kq : Nat) (x10_15 : Int), v10 = .int .i64 x10_15 ∧ Aside0 (haspref06_one.j2 kq a0 l1 a2 x10_15 0 0 (⟨#[]⟩ : ByteArray) = some (r1, r2, r3, r4, r5)) ∧ Aside0 (kq ≤ kj13) ∧ Aside0 (wc.heap[gb106]? = some (.cells #[.int .i64 0, .int .i64 0, .string (⟨#[]⟩ : ByteArray)] 43 (0, 0))) ∧ Aside0 (wc.heap[gb107]? = some (.cells #[.int .i64 0, .int .i64 0, .string (⟨#[]⟩ : ByteArray)] 43 (0, 0))) ∧ Aside0 (Below w.heap.size w wc))
            case first =>
              have H := HC16.out
              clear HC16
              by_cases c17 : x27_13 = true
              · subst c17
                have H1 : (haspref06_one.j2 kj13 a0 l1 a2 8 0 0 (⟨#[]⟩ : ByteArray)) = some (r1, r2, r3, r4, r5) := by rw [if_pos rfl] at H; exact H
                clear H
                have H := H1
                clear H1
                have H' := Aside0.mk H
                clear H
                go_wp2
                go_meet
                case rel => exact ⟨_, (8), (by first | rfl | (simp; done) | (simp [*]; done)), H', ⟨by have := HJ3.out; have := HJ13.out; first | omega | exact Nat.le_refl _⟩, ⟨by (with_reducible repeat (first | refine blk_drewN ?_ _ | refine blk_drew ?_ | refine blk_alloc ?_ _)); exact BK106.out⟩, ⟨by (with_reducible repeat (first | refine blk_drewN ?_ _ | refine blk_drew ?_ | refine blk_alloc ?_ _)); exact BK107.out⟩, ⟨by repeat (first | (with_reducible first | exact HB.out | apply below_alloc | apply pw_below_drewN | apply below_drew1 | refine below_set ?_ GE106.out | refine below_set ?_ GE107.out) | exact HB.out)⟩⟩
              · replace c17 := Bool.eq_false_iff.mpr c17
                subst c17
                have H1 : (haspref06_one.j2 kj13 a0 l1 a2 1 0 0 (⟨#[]⟩ : ByteArray)) = some (r1, r2, r3, r4, r5) := by rw [if_neg (show ¬ (false = true) by decide)] at H; exact H
                clear H
                have H := H1
                clear H1
                have H' := Aside0.mk H
                clear H
                go_wp2
                go_meet
                case rel => exact ⟨_, (1), (by first | rfl | (simp; done) | (simp [*]; done)), H', ⟨by have := HJ3.out; have := HJ13.out; first | omega | exact Nat.le_refl _⟩, ⟨by (with_reducible repeat (first | refine blk_drewN ?_ _ | refine blk_drew ?_ | refine blk_alloc ?_ _)); exact BK106.out⟩, ⟨by (with_reducible repeat (first | refine blk_drewN ?_ _ | refine blk_drew ?_ | refine blk_alloc ?_ _)); exact BK107.out⟩, ⟨by repeat (first | (with_reducible first | exact HB.out | apply below_alloc | apply pw_below_drewN | apply below_drew1 | refine below_set ?_ GE106.out | refine below_set ?_ GE107.out) | exact HB.out)⟩⟩
            case rest =>
              clear HC16
              try clear c1
              try clear c2
              try clear p2
              try clear c7
              try clear c9
              try clear c9b0
              try clear c10
              try clear c11
              try clear c15
              try clear c15b0
              try clear c15b1
              try clear c17
              try clear hcz12_0
              try clear hcz12_1
              try clear hcz12_2
              try clear hcz13_0
              try clear hcz13_1
              try clear hcz13_2
              try clear hcz8_0
              try clear hcz8_1
              try clear hcz8_2
              try clear hfz12_0
              try clear hfz12_1
              try clear hfz12_2
              try clear hfz13_0
              try clear hfz13_1
              try clear hfz13_2
              try clear hfz8_0
              try clear hfz8_1
              try clear hfz8_2
              try clear p2
              obtain ⟨kq, x10_15, rfl, HA, HJ15, BK106, BK107, HB⟩ := hcut
              cases kq with
              | zero => exact absurd HA.out (by simp [haspref06_one.j2])
              | succ kj15 =>
                have H := HA.out
                clear HA
                simp only [haspref06_one.j2] at H
                by_cases c18 : (wrap64 ((l1.length : Int) - a2)) < x10_15
                · rw [if_pos c18] at H
                  have c18b0 : decide ((wrap64 ((l1.length : Int) - a2)) < x10_15) = true := decide_eq_true c18
                  clear c18
                  simp only [Option.some.injEq, Prod.mk.injEq] at H
                  obtain ⟨rfl, rfl, rfl, rfl, rfl⟩ := H
                  have hnb19 := NB107_106.out
                  have hnc19 := NB106_107.out
                  have hcz20_0 : wc.cell? ⟨gb107, 0, none⟩ = some (.int .i64 0) := (blk_cell BK107.out 0).trans rfl
                  have hcz20_1 : wc.cell? ⟨gb107, 1, none⟩ = some (.int .i64 0) := (blk_cell BK107.out 1).trans rfl
                  have hcz20_2 : wc.cell? ⟨gb107, 2, none⟩ = some (.string (⟨#[]⟩ : ByteArray)) := (blk_cell BK107.out 2).trans rfl
                  have hfz20_0 := blk_frozen BK107.out 0
                  have hfz20_1 := blk_frozen BK107.out 1
                  have hfz20_2 := blk_frozen BK107.out 2
                  have hcz21_0 : wc.cell? ⟨gb106, 0, none⟩ = some (.int .i64 0) := (blk_cell BK106.out 0).trans rfl
                  have hcz21_1 : wc.cell? ⟨gb106, 1, none⟩ = some (.int .i64 0) := (blk_cell BK106.out 1).trans rfl
                  have hcz21_2 : wc.cell? ⟨gb106, 2, none⟩ = some (.string (⟨#[]⟩ : ByteArray)) := (blk_cell BK106.out 2).trans rfl
                  have hfz21_0 := blk_frozen BK106.out 0
                  have hfz21_1 := blk_frozen BK106.out 1
                  have hfz21_2 := blk_frozen BK106.out 2
                  go_wp2
                  refine bodyPost_ret (results_ctt rfl _ _ gb106 43 #[.int .i64 0, .int .i64 0, .string (⟨#[]⟩ : ByteArray)] (0, 0) _ rfl (by (with_reducible repeat (first | refine blk_drewN ?_ _ | refine blk_drew ?_ | refine blk_alloc ?_ _)); refine blk_put (cs := #[.int .i64 0, .int .i64 0, .string (⟨#[]⟩ : ByteArray)]) ?_ 2 _ rfl; (with_reducible repeat (first | refine blk_drewN ?_ _ | refine blk_drew ?_ | refine blk_alloc ?_ _)); refine blk_put (cs := #[.int .i64 0, .int .i64 0, .string (⟨#[]⟩ : ByteArray)]) ?_ 1 _ rfl; (with_reducible repeat (first | refine blk_drewN ?_ _ | refine blk_drew ?_ | refine blk_alloc ?_ _)); refine blk_put (cs := #[.int .i64 0, .int .i64 0, .string (⟨#[]⟩ : ByteArray)]) ?_ 0 _ rfl; (with_reducible repeat (first | refine blk_drewN ?_ _ | refine blk_drew ?_ | refine blk_alloc ?_ _)); exact BK106.out) Try.underlying43 rfl (by kernel_rfl)) rfl ?_
                  exact ⟨by first | rfl | (simp [errW_none, errW_some] <;> rfl) | (simp [*, errW_none, errW_some] <;> rfl), by repeat (first | (with_reducible first | exact HB.out | apply below_alloc | apply pw_below_drewN | apply below_drew1 | refine below_set ?_ GE106.out | refine below_set ?_ GE107.out) | exact HB.out)⟩
                · rw [if_neg c18] at H
                  have c18b0 : decide ((wrap64 ((l1.length : Int) - a2)) < x10_15) = false := decide_eq_false c18
                  clear c18
                  have H' := Aside0.mk H
                  clear H
                  go_wp2
                  go_loopg [11, 12] kj15 (fun kq v11 v12 w' => ∃ (x11_4 : Int) (x12_4 : Int), v11 = .int .u64 x11_4 ∧ v12 = .int .i64 x12_4 ∧ Aside0 (haspref06_one.l0 kq a0 l1 a2 x10_15 x11_4 x12_4 0 0 (⟨#[]⟩ : ByteArray) = some (r1, r2, r3, r4, r5)) ∧ Aside0 (kq ≤ kj15) ∧ Aside0 (w'.heap[gb106]? = some (.cells #[.int .i64 0, .int .i64 0, .string (⟨#[]⟩ : ByteArray)] 43 (0, 0))) ∧ Aside0 (w'.heap[gb107]? = some (.cells #[.int .i64 0, .int .i64 0, .string (⟨#[]⟩ : ByteArray)] 43 (0, 0))) ∧ Aside0 (Below w.heap.size w w'))
                  case atStart => exact ⟨(0), (wrap64 (x10_15 - 1)), (by first | rfl | (simp; done) | (simp [*]; done)), (by first | rfl | (simp; done) | (simp [*]; done)), H', ⟨Nat.le_refl _⟩, ⟨by (with_reducible repeat (first | refine blk_drewN ?_ _ | refine blk_drew ?_ | refine blk_alloc ?_ _)); exact BK106.out⟩, ⟨by (with_reducible repeat (first | refine blk_drewN ?_ _ | refine blk_drew ?_ | refine blk_alloc ?_ _)); exact BK107.out⟩, ⟨by repeat (first | (with_reducible first | exact HB.out | apply below_alloc | apply pw_below_drewN | apply below_drew1 | refine below_set ?_ GE106.out | refine below_set ?_ GE107.out) | exact HB.out)⟩⟩
                  case round =>
                    clear H'
                    try clear c1
                    try clear c2
                    try clear p2
                    try clear p6
                    try clear c7
                    try clear c9
                    try clear c9b0
                    try clear c10
                    try clear c11
                    try clear c15
                    try clear c15b0
                    try clear c15b1
                    try clear c17
                    try clear c18
                    try clear c18b0
                    try clear c19
                    try clear hcz12_0
                    try clear hcz12_1
                    try clear hcz12_2
                    try clear hcz13_0
                    try clear hcz13_1
                    try clear hcz13_2
                    try clear hcz20_0
                    try clear hcz20_1
                    try clear hcz20_2
                    try clear hcz21_0
                    try clear hcz21_1
                    try clear hcz21_2
                    try clear hcz8_0
                    try clear hcz8_1
                    try clear hcz8_2
                    try clear hfz12_0
                    try clear hfz12_1
                    try clear hfz12_2
                    try clear hfz13_0
                    try clear hfz13_1
                    try clear hfz13_2
                    try clear hfz20_0
                    try clear hfz20_1
                    try clear hfz20_2
                    try clear hfz21_0
                    try clear hfz21_1
                    try clear hfz21_2
                    try clear hfz8_0
                    try clear hfz8_1
                    try clear hfz8_2
                    try clear p2
                    obtain ⟨x11_4, x12_4, rfl, rfl, HA, HK4, BK106, BK107, HB⟩ := hrel
                    cases gk with
                    | zero => exact absurd HA.out (by simp [haspref06_one.l0])
                    | succ k4 =>
                      have H := HA.out
                      clear HA
                      simp only [haspref06_one.l0] at H
                      by_cases c22 : x12_4 ≥ 0
                      · rw [if_pos c22] at H
                        have c22b0 : decide (0 ≤ x12_4) = true := decide_eq_true c22
                        clear c22
                        obtain ⟨ji23, hji23⟩ : ∃ j_ : Int, (wrap64 (a2 + x12_4)) = j_ := ⟨_, rfl⟩
                        replace H : (if 0 ≤ (ji23) then (if (ji23) < (l1.length : Int) then (haspref06_one.l0 k4 a0 l1 a2 x10_15 (IntKind.u64.wrap ((IntKind.u64.wrap (x11_4 * 256)) + (IntKind.u64.wrap (rd l1 (ji23))))) (wrap64 (x12_4 - 1)) 0 0 (⟨#[]⟩ : ByteArray)) else (none)) else (none)) = some (r1, r2, r3, r4, r5) := by first | (rw [hji23] at H; exact H) | (simp only [hji23] at H ⊢; exact H)
                        have hji23w : (IntKind.i64.wrap (a2 + x12_4)) = ji23 := (i64_w _).trans hji23
                        by_cases c24 : 0 ≤ (ji23)
                        · rw [if_pos c24] at H
                          have c24b0 : decide (0 ≤ (ji23)) = true := decide_eq_true c24
                          clear c24
                          by_cases c25 : (ji23) < (l1.length : Int)
                          · rw [if_pos c25] at H
                            have c25b0 : decide ((ji23) < (l1.length : Int)) = true := decide_eq_true c25
                            clear c25
                            have H' := Aside0.mk H
                            clear H
                            have p108 : 0 ≤ ((ji23) : Int) := of_decide_eq_true (by first | (with_reducible assumption) | assumption)
                            have q108 : (ji23) < (l1.length : Int) := of_decide_eq_true (by first | (with_reducible assumption) | assumption)
                            obtain ⟨ad108, e108, hx108_0⟩ := Kd.at_int HR1.out (ji23) p108 q108
                            cases e108
                            replace hx108_0 := (HB.out.cell (World.block_lt_of_cell? w _ hx108_0)).trans hx108_0
                            replace p108 := eq_true p108
                            replace q108 := eq_true q108
                            go_wp2
                            go_roundg k4
                            case measure => have := HJ3.out; have := HJ13.out; have := HJ15.out; have := HK4.out; omega
                            case rel => exact ⟨(IntKind.u64.wrap ((IntKind.u64.wrap (x11_4 * 256)) + (IntKind.u64.wrap (rd l1 (ji23))))), (wrap64 (x12_4 - 1)), (by first | rfl | (simp; done) | (simp only [← hji23] <;> (first | rfl | simp)) | (simp [*]; done)), (by first | rfl | (simp; done) | (simp [*]; done)), H', ⟨by have := HJ3.out; have := HJ13.out; have := HJ15.out; have := HK4.out; omega⟩, ⟨by (with_reducible repeat (first | refine blk_drewN ?_ _ | refine blk_drew ?_ | refine blk_alloc ?_ _)); exact BK106.out⟩, ⟨by (with_reducible repeat (first | refine blk_drewN ?_ _ | refine blk_drew ?_ | refine blk_alloc ?_ _)); exact BK107.out⟩, ⟨by repeat (first | (with_reducible first | exact HB.out | apply below_alloc | apply pw_below_drewN | apply below_drew1 | refine below_set ?_ GE106.out | refine below_set ?_ GE107.out) | exact HB.out)⟩⟩
                          · rw [if_neg c25] at H
                            exact absurd H (by simp)
                        · rw [if_neg c24] at H
                          exact absurd H (by simp)
                      · rw [if_neg c22] at H
                        have c22b0 : decide (0 ≤ x12_4) = false := decide_eq_false c22
                        clear c22
                        have HC26 := Aside0.mk H
                        clear H
                        go_upto_region 15 with (fail)
                        go_cut [60] (fun v60 wc => ∃ (kq : Nat) (x60_25 : Bool), v60 = .bool x60_25 ∧ Aside0 (haspref06_one.j4 kq a0 l1 (wrap64 (a2 + x10_15)) x11_4 x60_25 0 0 (⟨#[]⟩ : ByteArray) = some (r1, r2, r3, r4, r5)) ∧ Aside0 (kq ≤ k4) ∧ Aside0 (wc.heap[gb106]? = some (.cells #[.int .i64 0, .int .i64 0, .string (⟨#[]⟩ : ByteArray)] 43 (0, 0))) ∧ Aside0 (wc.heap[gb107]? = some (.cells #[.int .i64 0, .int .i64 0, .string (⟨#[]⟩ : ByteArray)] 43 (0, 0))) ∧ Aside0 (Below w.heap.size w wc))
                        case first =>
                          have H := HC26.out
                          clear HC26
                          by_cases c27 : a0 = 1
                          · rw [if_pos c27] at H
                            have c27b0 : (a0 == 1) = true := beq_iff_eq.mpr c27
                            have c27b1 : (a0 != 1) = false := bne_eq_false_iff_eq.mpr c27
                            clear c27
                            (first | rw [c27b0] | (simp only [i64_w, i32_w]; rw [c27b0]) | skip)
                            have H' := Aside0.mk H
                            clear H
                            go_wp2
                            go_meet
                            case rel => exact ⟨_, (decide (x11_4 > 1)), (by first | rfl | (simp; done) | (simp [*]; done)), H', ⟨by have := HJ3.out; have := HJ13.out; have := HJ15.out; have := HK4.out; first | omega | exact Nat.le_refl _⟩, ⟨by (with_reducible repeat (first | refine blk_drewN ?_ _ | refine blk_drew ?_ | refine blk_alloc ?_ _)); exact BK106.out⟩, ⟨by (with_reducible repeat (first | refine blk_drewN ?_ _ | refine blk_drew ?_ | refine blk_alloc ?_ _)); exact BK107.out⟩, ⟨by repeat (first | (with_reducible first | exact HB.out | apply below_alloc | apply pw_below_drewN | apply below_drew1 | refine below_set ?_ GE106.out | refine below_set ?_ GE107.out) | exact HB.out)⟩⟩
                          · rw [if_neg c27] at H
                            have c27b0 : (a0 == 1) = false := beq_eq_false_iff_ne.mpr c27
                            have c27b1 : (a0 != 1) = true := bne_iff_ne.mpr c27
                            (first | rw [c27b0] | (simp only [i64_w, i32_w]; rw [c27b0]) | skip)
                            have H' := Aside0.mk H
                            clear H
                            go_wp2
                            go_meet
                            case rel => exact ⟨_, (false), (by first | rfl | (simp; done) | (simp [*]; done)), H', ⟨by have := HJ3.out; have := HJ13.out; have := HJ15.out; have := HK4.out; first | omega | exact Nat.le_refl _⟩, ⟨by (with_reducible repeat (first | refine blk_drewN ?_ _ | refine blk_drew ?_ | refine blk_alloc ?_ _)); exact BK106.out⟩, ⟨by (with_reducible repeat (first | refine blk_drewN ?_ _ | refine blk_drew ?_ | refine blk_alloc ?_ _)); exact BK107.out⟩, ⟨by repeat (first | (with_reducible first | exact HB.out | apply below_alloc | apply pw_below_drewN | apply below_drew1 | refine below_set ?_ GE106.out | refine below_set ?_ GE107.out) | exact HB.out)⟩⟩
                        case rest =>
                          clear HC26
                          try clear c1
                          try clear p1
                          try clear q1
                          try clear hx1
                          try clear c2
                          try clear p2
                          try clear p6
                          try clear c7
                          try clear c9
                          try clear c9b0
                          try clear c10
                          try clear p10
                          try clear q10
                          try clear hx10
                          try clear c11
                          try clear c15
                          try clear c15b0
                          try clear c15b1
                          try clear c17
                          try clear c18
                          try clear c18b0
                          try clear c19
                          try clear c22
                          try clear c22b0
                          try clear c24
                          try clear c24b0
                          try clear c25
                          try clear c25b0
                          try clear c26
                          try clear c27
                          try clear c27b0
                          try clear c27b1
                          try clear hcz12_0
                          try clear hcz12_1
                          try clear hcz12_2
                          try clear hcz13_0
                          try clear hcz13_1
                          try clear hcz13_2
                          try clear hcz20_0
                          try clear hcz20_1
                          try clear hcz20_2
                          try clear hcz21_0
                          try clear hcz21_1
                          try clear hcz21_2
                          try clear hcz8_0
                          try clear hcz8_1
                          try clear hcz8_2
                          try clear hfz12_0
                          try clear hfz12_1
                          try clear hfz12_2
                          try clear hfz13_0
                          try clear hfz13_1
                          try clear hfz13_2
                          try clear hfz20_0
                          try clear hfz20_1
                          try clear hfz20_2
                          try clear hfz21_0
                          try clear hfz21_1
                          try clear hfz21_2
                          try clear hfz8_0
                          try clear hfz8_1
                          try clear hfz8_2
                          try clear hx108_0
                          try clear p108
                          try clear p2
                          try clear p6
                          try clear q108
                          obtain ⟨kq, x60_25, rfl, HA, HJ25, BK106, BK107, HB⟩ := hcut
                          cases kq with
                          | zero => exact absurd HA.out (by simp [haspref06_one.j4])
                          | succ kj25 =>
                            have H := HA.out
                            clear HA
                            simp only [haspref06_one.j4] at H
                            by_cases c28 : x60_25 = true
                            · subst c28
                              have H1 : (some (0, 0, (⟨#[]⟩ : ByteArray), (wrap64 (a2 + x10_15)), 2)) = some (r1, r2, r3, r4, r5) := by rw [if_pos rfl] at H; exact H
                              clear H
                              have H := H1
                              clear H1
                              simp only [Option.some.injEq, Prod.mk.injEq] at H
                              obtain ⟨rfl, rfl, rfl, rfl, rfl⟩ := H
                              have hnb29 := NB107_106.out
                              have hnc29 := NB106_107.out
                              have hcz30_0 : wc.cell? ⟨gb107, 0, none⟩ = some (.int .i64 0) := (blk_cell BK107.out 0).trans rfl
                              have hcz30_1 : wc.cell? ⟨gb107, 1, none⟩ = some (.int .i64 0) := (blk_cell BK107.out 1).trans rfl
                              have hcz30_2 : wc.cell? ⟨gb107, 2, none⟩ = some (.string (⟨#[]⟩ : ByteArray)) := (blk_cell BK107.out 2).trans rfl
                              have hfz30_0 := blk_frozen BK107.out 0
                              have hfz30_1 := blk_frozen BK107.out 1
                              have hfz30_2 := blk_frozen BK107.out 2
                              have hcz31_0 : wc.cell? ⟨gb106, 0, none⟩ = some (.int .i64 0) := (blk_cell BK106.out 0).trans rfl
                              have hcz31_1 : wc.cell? ⟨gb106, 1, none⟩ = some (.int .i64 0) := (blk_cell BK106.out 1).trans rfl
                              have hcz31_2 : wc.cell? ⟨gb106, 2, none⟩ = some (.string (⟨#[]⟩ : ByteArray)) := (blk_cell BK106.out 2).trans rfl
                              have hfz31_0 := blk_frozen BK106.out 0
                              have hfz31_1 := blk_frozen BK106.out 1
                              have hfz31_2 := blk_frozen BK106.out 2
                              go_wp2
                              refine bodyPost_ret (results_ctt rfl _ _ gb106 43 #[.int .i64 0, .int .i64 0, .string (⟨#[]⟩ : ByteArray)] (0, 0) _ rfl (by (with_reducible repeat (first | refine blk_drewN ?_ _ | refine blk_drew ?_ | refine blk_alloc ?_ _)); refine blk_put (cs := #[.int .i64 0, .int .i64 0, .string (⟨#[]⟩ : ByteArray)]) ?_ 2 _ rfl; (with_reducible repeat (first | refine blk_drewN ?_ _ | refine blk_drew ?_ | refine blk_alloc ?_ _)); refine blk_put (cs := #[.int .i64 0, .int .i64 0, .string (⟨#[]⟩ : ByteArray)]) ?_ 1 _ rfl; (with_reducible repeat (first | refine blk_drewN ?_ _ | refine blk_drew ?_ | refine blk_alloc ?_ _)); refine blk_put (cs := #[.int .i64 0, .int .i64 0, .string (⟨#[]⟩ : ByteArray)]) ?_ 0 _ rfl; (with_reducible repeat (first | refine blk_drewN ?_ _ | refine blk_drew ?_ | refine blk_alloc ?_ _)); exact BK106.out) Try.underlying43 rfl (by kernel_rfl)) rfl ?_
                              exact ⟨by first | rfl | (simp [errW_none, errW_some] <;> rfl) | (simp [*, errW_none, errW_some] <;> rfl), by repeat (first | (with_reducible first | exact HB.out | apply below_alloc | apply pw_below_drewN | apply below_drew1 | refine below_set ?_ GE106.out | refine below_set ?_ GE107.out) | exact HB.out)⟩
                            · replace c28 := Bool.eq_false_iff.mpr c28
                              subst c28
                              have H1 : (if a0 = 3 then ((haspref01_Canon.f (wrap64 (x11_4))).bind fun t109 => (haspref06_one.j5 kj25 a0 l1 (wrap64 (a2 + x10_15)) x11_4 (t109 != (wrap64 (x11_4))) 0 0 (⟨#[]⟩ : ByteArray))) else (haspref06_one.j5 kj25 a0 l1 (wrap64 (a2 + x10_15)) x11_4 false 0 0 (⟨#[]⟩ : ByteArray))) = some (r1, r2, r3, r4, r5) := by rw [if_neg (show ¬ (false = true) by decide)] at H; exact H
                              clear H
                              have H := H1
                              clear H1
                              have HC32 := Aside0.mk H
                              clear H
                              go_upto_region 17 with (fail)
                              go_cut [72] (fun v72 wc => ∃ (kq : Nat) (x72_31 : Bool), v72 = .bool x72_31 ∧ Aside0 (haspref06_one.j5 kq a0 l1 (wrap64 (a2 + x10_15)) x11_4 x72_31 0 0 (⟨#[]⟩ : ByteArray) = some (r1, r2, r3, r4, r5)) ∧ Aside0 (kq ≤ kj25) ∧ Aside0 (wc.heap[gb106]? = some (.cells #[.int .i64 0, .int .i64 0, .string (⟨#[]⟩ : ByteArray)] 43 (0, 0))) ∧ Aside0 (wc.heap[gb107]? = some (.cells #[.int .i64 0, .int .i64 0, .string (⟨#[]⟩ : ByteArray)] 43 (0, 0))) ∧ Aside0 (Below w.heap.size w wc))
                              case first =>
                                have H := HC32.out
                                clear HC32
                                by_cases c33 : a0 = 3
                                · rw [if_pos c33] at H
                                  have c33b0 : (a0 == 3) = true := beq_iff_eq.mpr c33
                                  have c33b1 : (a0 != 3) = false := bne_eq_false_iff_eq.mpr c33
                                  clear c33
                                  (first | rw [c33b0] | (simp only [i64_w, i32_w]; rw [c33b0]) | skip)
                                  replace H := Option.bind_eq_some_iff.mp H
                                  obtain ⟨t109, A340, H⟩ := H
                                  replace H : (haspref06_one.j5 kj25 a0 l1 (wrap64 (a2 + x10_15)) x11_4 (t109 != (wrap64 (x11_4))) 0 0 (⟨#[]⟩ : ByteArray)) = some (r1, r2, r3, r4, r5) := H
                                  have A34 := Aside0.mk A340
                                  clear A340
                                  have H' := Aside0.mk H
                                  clear H
                                  go_wp2_with (first | (go_at_call 30; (with_reducible refine (haspref01_Canon.calls (wrap64 (x11_4)) t109 _ A34.out).mono ?_); rintro e w' ⟨rfl, ⟨nd, rfl⟩⟩))
                                  go_meet
                                  case rel => exact ⟨_, ((t109 != (wrap64 (x11_4)))), (by first | rfl | (simp; done) | (simp [*]; done)), H', ⟨by have := HJ3.out; have := HJ13.out; have := HJ15.out; have := HK4.out; have := HJ25.out; first | omega | exact Nat.le_refl _⟩, ⟨by (with_reducible repeat (first | refine blk_drewN ?_ _ | refine blk_drew ?_ | refine blk_alloc ?_ _)); exact BK106.out⟩, ⟨by (with_reducible repeat (first | refine blk_drewN ?_ _ | refine blk_drew ?_ | refine blk_alloc ?_ _)); exact BK107.out⟩, ⟨by repeat (first | (with_reducible first | exact HB.out | apply below_alloc | apply pw_below_drewN | apply below_drew1 | refine below_set ?_ GE106.out | refine below_set ?_ GE107.out) | exact HB.out)⟩⟩
                                · rw [if_neg c33] at H
                                  have c33b0 : (a0 == 3) = false := beq_eq_false_iff_ne.mpr c33
                                  have c33b1 : (a0 != 3) = true := bne_iff_ne.mpr c33
                                  (first | rw [c33b0] | (simp only [i64_w, i32_w]; rw [c33b0]) | skip)
                                  have H' := Aside0.mk H
                                  clear H
                                  go_wp2
                                  go_meet
                                  case rel => exact ⟨_, (false), (by first | rfl | (simp; done) | (simp [*]; done)), H', ⟨by have := HJ3.out; have := HJ13.out; have := HJ15.out; have := HK4.out; have := HJ25.out; first | omega | exact Nat.le_refl _⟩, ⟨by (with_reducible repeat (first | refine blk_drewN ?_ _ | refine blk_drew ?_ | refine blk_alloc ?_ _)); exact BK106.out⟩, ⟨by (with_reducible repeat (first | refine blk_drewN ?_ _ | refine blk_drew ?_ | refine blk_alloc ?_ _)); exact BK107.out⟩, ⟨by repeat (first | (with_reducible first | exact HB.out | apply below_alloc | apply pw_below_drewN | apply below_drew1 | refine below_set ?_ GE106.out | refine below_set ?_ GE107.out) | exact HB.out)⟩⟩
                              case rest =>
                                clear HC32
                                try clear c1
                                try clear p1
                                try clear q1
                                try clear hx1
                                try clear c2
                                try clear p2
                                try clear c3
                                try clear p6
                                try clear c7
                                try clear c9
                                try clear c9b0
                                try clear c10
                                try clear p10
                                try clear q10
                                try clear hx10
                                try clear c11
                                try clear c15
                                try clear c15b0
                                try clear c15b1
                                try clear c17
                                try clear c18
                                try clear c18b0
                                try clear c19
                                try clear c22
                                try clear c22b0
                                try clear c24
                                try clear c24b0
                                try clear c25
                                try clear c25b0
                                try clear c26
                                try clear c27
                                try clear c27b0
                                try clear c27b1
                                try clear c28
                                try clear c29
                                try clear c33
                                try clear c33b0
                                try clear c33b1
                                try clear hcz12_0
                                try clear hcz12_1
                                try clear hcz12_2
                                try clear hcz13_0
                                try clear hcz13_1
                                try clear hcz13_2
                                try clear hcz20_0
                                try clear hcz20_1
                                try clear hcz20_2
                                try clear hcz21_0
                                try clear hcz21_1
                                try clear hcz21_2
                                try clear hcz30_0
                                try clear hcz30_1
                                try clear hcz30_2
                                try clear hcz31_0
                                try clear hcz31_1
                                try clear hcz31_2
                                try clear hcz8_0
                                try clear hcz8_1
                                try clear hcz8_2
                                try clear hfz12_0
                                try clear hfz12_1
                                try clear hfz12_2
                                try clear hfz13_0
                                try clear hfz13_1
                                try clear hfz13_2
                                try clear hfz20_0
                                try clear hfz20_1
                                try clear hfz20_2
                                try clear hfz21_0
                                try clear hfz21_1
                                try clear hfz21_2
                                try clear hfz30_0
                                try clear hfz30_1
                                try clear hfz30_2
                                try clear hfz31_0
                                try clear hfz31_1
                                try clear hfz31_2
                                try clear hfz8_0
                                try clear hfz8_1
                                try clear hfz8_2
                                try clear hx108_0
                                try clear p1
                                try clear p10
                                try clear p108
                                try clear p2
                                try clear p6
                                try clear q1
                                try clear q10
                                try clear q108
                                obtain ⟨kq, x72_31, rfl, HA, HJ31, BK106, BK107, HB⟩ := hcut
                                cases kq with
                                | zero => exact absurd HA.out (by simp [haspref06_one.j5])
                                | succ kj31 =>
                                  have H := HA.out
                                  clear HA
                                  simp only [haspref06_one.j5] at H
                                  by_cases c35 : x72_31 = true
                                  · subst c35
                                    have H1 : (some (0, 0, (⟨#[]⟩ : ByteArray), (wrap64 (a2 + x10_15)), 2)) = some (r1, r2, r3, r4, r5) := by rw [if_pos rfl] at H; exact H
                                    clear H
                                    have H := H1
                                    clear H1
                                    simp only [Option.some.injEq, Prod.mk.injEq] at H
                                    obtain ⟨rfl, rfl, rfl, rfl, rfl⟩ := H
                                    have hnb36 := NB107_106.out
                                    have hnc36 := NB106_107.out
                                    have hcz37_0 : wc.cell? ⟨gb107, 0, none⟩ = some (.int .i64 0) := (blk_cell BK107.out 0).trans rfl
                                    have hcz37_1 : wc.cell? ⟨gb107, 1, none⟩ = some (.int .i64 0) := (blk_cell BK107.out 1).trans rfl
                                    have hcz37_2 : wc.cell? ⟨gb107, 2, none⟩ = some (.string (⟨#[]⟩ : ByteArray)) := (blk_cell BK107.out 2).trans rfl
                                    have hfz37_0 := blk_frozen BK107.out 0
                                    have hfz37_1 := blk_frozen BK107.out 1
                                    have hfz37_2 := blk_frozen BK107.out 2
                                    have hcz38_0 : wc.cell? ⟨gb106, 0, none⟩ = some (.int .i64 0) := (blk_cell BK106.out 0).trans rfl
                                    have hcz38_1 : wc.cell? ⟨gb106, 1, none⟩ = some (.int .i64 0) := (blk_cell BK106.out 1).trans rfl
                                    have hcz38_2 : wc.cell? ⟨gb106, 2, none⟩ = some (.string (⟨#[]⟩ : ByteArray)) := (blk_cell BK106.out 2).trans rfl
                                    have hfz38_0 := blk_frozen BK106.out 0
                                    have hfz38_1 := blk_frozen BK106.out 1
                                    have hfz38_2 := blk_frozen BK106.out 2
                                    go_wp2
                                    refine bodyPost_ret (results_ctt rfl _ _ gb106 43 #[.int .i64 0, .int .i64 0, .string (⟨#[]⟩ : ByteArray)] (0, 0) _ rfl (by (with_reducible repeat (first | refine blk_drewN ?_ _ | refine blk_drew ?_ | refine blk_alloc ?_ _)); refine blk_put (cs := #[.int .i64 0, .int .i64 0, .string (⟨#[]⟩ : ByteArray)]) ?_ 2 _ rfl; (with_reducible repeat (first | refine blk_drewN ?_ _ | refine blk_drew ?_ | refine blk_alloc ?_ _)); refine blk_put (cs := #[.int .i64 0, .int .i64 0, .string (⟨#[]⟩ : ByteArray)]) ?_ 1 _ rfl; (with_reducible repeat (first | refine blk_drewN ?_ _ | refine blk_drew ?_ | refine blk_alloc ?_ _)); refine blk_put (cs := #[.int .i64 0, .int .i64 0, .string (⟨#[]⟩ : ByteArray)]) ?_ 0 _ rfl; (with_reducible repeat (first | refine blk_drewN ?_ _ | refine blk_drew ?_ | refine blk_alloc ?_ _)); exact BK106.out) Try.underlying43 rfl (by kernel_rfl)) rfl ?_
                                    exact ⟨by first | rfl | (simp [errW_none, errW_some] <;> rfl) | (simp [*, errW_none, errW_some] <;> rfl), by repeat (first | (with_reducible first | exact HB.out | apply below_alloc | apply pw_below_drewN | apply below_drew1 | refine below_set ?_ GE106.out | refine below_set ?_ GE107.out) | exact HB.out)⟩
                                  · replace c35 := Bool.eq_false_iff.mpr c35
                                    subst c35
                                    have H1 : (if a0 < 4 then (some (a0, wrap64 (x11_4), (⟨#[]⟩ : ByteArray), (wrap64 (a2 + x10_15)), 0)) else (if x11_4 > 200 then (some (0, 0, (⟨#[]⟩ : ByteArray), (wrap64 (a2 + x10_15)), 1)) else (if (wrap64 ((l1.length : Int) - (wrap64 (a2 + x10_15)))) < (wrap64 (x11_4)) then (some (0, 0, (⟨#[]⟩ : ByteArray), (wrap64 (a2 + x10_15)), 3)) else (if 0 ≤ (wrap64 (a2 + x10_15)) then (if (wrap64 (a2 + x10_15)) ≤ (wrap64 ((wrap64 (a2 + x10_15)) + (wrap64 (x11_4)))) then (if (wrap64 ((wrap64 (a2 + x10_15)) + (wrap64 (x11_4)))) ≤ (l1.length : Int) then (some (4, 0, strOfNums ((l1.take ((wrap64 ((wrap64 (a2 + x10_15)) + (wrap64 (x11_4)))) : Int).toNat).drop ((wrap64 (a2 + x10_15)) : Int).toNat), wrap64 ((wrap64 (a2 + x10_15)) + (wrap64 (x11_4))), 0)) else (none)) else (none)) else (none))))) = some (r1, r2, r3, r4, r5) := by rw [if_neg (show ¬ (false = true) by decide)] at H; exact H
                                    clear H
                                    have H := H1
                                    clear H1
                                    by_cases c39 : a0 < 4
                                    · rw [if_pos c39] at H
                                      have c39b0 : decide (a0 < 4) = true := decide_eq_true c39
                                      clear c39
                                      simp only [Option.some.injEq, Prod.mk.injEq] at H
                                      obtain ⟨rfl, rfl, rfl, rfl, rfl⟩ := H
                                      have hnb40 := NB106_107.out
                                      have hnc40 := NB107_106.out
                                      have hcz41_0 : wc.cell? ⟨gb106, 0, none⟩ = some (.int .i64 0) := (blk_cell BK106.out 0).trans rfl
                                      have hcz41_1 : wc.cell? ⟨gb106, 1, none⟩ = some (.int .i64 0) := (blk_cell BK106.out 1).trans rfl
                                      have hcz41_2 : wc.cell? ⟨gb106, 2, none⟩ = some (.string (⟨#[]⟩ : ByteArray)) := (blk_cell BK106.out 2).trans rfl
                                      have hfz41_0 := blk_frozen BK106.out 0
                                      have hfz41_1 := blk_frozen BK106.out 1
                                      have hfz41_2 := blk_frozen BK106.out 2
                                      go_wp2
                                      refine bodyPost_ret (results_ctt rfl _ _ gb106 43 #[.int .i64 a0, .int .i64 (wrap64 (x11_4)), .string (⟨#[]⟩ : ByteArray)] (0, 0) _ rfl (by (with_reducible repeat (first | refine blk_drewN ?_ _ | refine blk_drew ?_ | refine blk_alloc ?_ _)); refine blk_put (cs := #[.int .i64 a0, .int .i64 (wrap64 (x11_4)), .string (⟨#[]⟩ : ByteArray)]) ?_ 2 _ rfl; (with_reducible repeat (first | refine blk_drewN ?_ _ | refine blk_drew ?_ | refine blk_alloc ?_ _)); refine blk_put (cs := #[.int .i64 a0, .int .i64 0, .string (⟨#[]⟩ : ByteArray)]) ?_ 1 _ rfl; (with_reducible repeat (first | refine blk_drewN ?_ _ | refine blk_drew ?_ | refine blk_alloc ?_ _)); refine blk_put (cs := #[.int .i64 0, .int .i64 0, .string (⟨#[]⟩ : ByteArray)]) ?_ 0 _ rfl; (with_reducible repeat (first | refine blk_drewN ?_ _ | refine blk_drew ?_ | refine blk_alloc ?_ _)); exact BK106.out) Try.underlying43 rfl (by kernel_rfl)) rfl ?_
                                      exact ⟨by first | rfl | (simp [errW_none, errW_some] <;> rfl) | (simp [*, errW_none, errW_some] <;> rfl), by repeat (first | (with_reducible first | exact HB.out | apply below_alloc | apply pw_below_drewN | apply below_drew1 | refine below_set ?_ GE106.out | refine below_set ?_ GE107.out) | exact HB.out)⟩
                                    · rw [if_neg c39] at H
                                      have c39b0 : decide (a0 < 4) = false := decide_eq_false c39
                                      clear c39
                                      by_cases c42 : x11_4 > 200
                                      · rw [if_pos c42] at H
                                        have c42b0 : decide (200 < x11_4) = true := decide_eq_true c42
                                        clear c42
                                        simp only [Option.some.injEq, Prod.mk.injEq] at H
                                        obtain ⟨rfl, rfl, rfl, rfl, rfl⟩ := H
                                        have hnb43 := NB107_106.out
                                        have hnc43 := NB106_107.out
                                        have hcz44_0 : wc.cell? ⟨gb107, 0, none⟩ = some (.int .i64 0) := (blk_cell BK107.out 0).trans rfl
                                        have hcz44_1 : wc.cell? ⟨gb107, 1, none⟩ = some (.int .i64 0) := (blk_cell BK107.out 1).trans rfl
                                        have hcz44_2 : wc.cell? ⟨gb107, 2, none⟩ = some (.string (⟨#[]⟩ : ByteArray)) := (blk_cell BK107.out 2).trans rfl
                                        have hfz44_0 := blk_frozen BK107.out 0
                                        have hfz44_1 := blk_frozen BK107.out 1
                                        have hfz44_2 := blk_frozen BK107.out 2
                                        have hcz45_0 : wc.cell? ⟨gb106, 0, none⟩ = some (.int .i64 0) := (blk_cell BK106.out 0).trans rfl
                                        have hcz45_1 : wc.cell? ⟨gb106, 1, none⟩ = some (.int .i64 0) := (blk_cell BK106.out 1).trans rfl
                                        have hcz45_2 : wc.cell? ⟨gb106, 2, none⟩ = some (.string (⟨#[]⟩ : ByteArray)) := (blk_cell BK106.out 2).trans rfl
                                        have hfz45_0 := blk_frozen BK106.out 0
                                        have hfz45_1 := blk_frozen BK106.out 1
                                        have hfz45_2 := blk_frozen BK106.out 2
                                        go_wp2
                                        refine bodyPost_ret (results_ctt rfl _ _ gb106 43 #[.int .i64 0, .int .i64 0, .string (⟨#[]⟩ : ByteArray)] (0, 0) _ rfl (by (with_reducible repeat (first | refine blk_drewN ?_ _ | refine blk_drew ?_ | refine blk_alloc ?_ _)); refine blk_put (cs := #[.int .i64 0, .int .i64 0, .string (⟨#[]⟩ : ByteArray)]) ?_ 2 _ rfl; (with_reducible repeat (first | refine blk_drewN ?_ _ | refine blk_drew ?_ | refine blk_alloc ?_ _)); refine blk_put (cs := #[.int .i64 0, .int .i64 0, .string (⟨#[]⟩ : ByteArray)]) ?_ 1 _ rfl; (with_reducible repeat (first | refine blk_drewN ?_ _ | refine blk_drew ?_ | refine blk_alloc ?_ _)); refine blk_put (cs := #[.int .i64 0, .int .i64 0, .string (⟨#[]⟩ : ByteArray)]) ?_ 0 _ rfl; (with_reducible repeat (first | refine blk_drewN ?_ _ | refine blk_drew ?_ | refine blk_alloc ?_ _)); exact BK106.out) Try.underlying43 rfl (by kernel_rfl)) rfl ?_
                                        exact ⟨by first | rfl | (simp [errW_none, errW_some] <;> rfl) | (simp [*, errW_none, errW_some] <;> rfl), by repeat (first | (with_reducible first | exact HB.out | apply below_alloc | apply pw_below_drewN | apply below_drew1 | refine below_set ?_ GE106.out | refine below_set ?_ GE107.out) | exact HB.out)⟩
                                      · rw [if_neg c42] at H
                                        have c42b0 : decide (200 < x11_4) = false := decide_eq_false c42
                                        clear c42
                                        by_cases c46 : (wrap64 ((l1.length : Int) - (wrap64 (a2 + x10_15)))) < (wrap64 (x11_4))
                                        · rw [if_pos c46] at H
                                          have c46b0 : decide ((wrap64 ((l1.length : Int) - (wrap64 (a2 + x10_15)))) < (wrap64 (x11_4))) = true := decide_eq_true c46
                                          clear c46
                                          simp only [Option.some.injEq, Prod.mk.injEq] at H
                                          obtain ⟨rfl, rfl, rfl, rfl, rfl⟩ := H
                                          have hnb47 := NB107_106.out
                                          have hnc47 := NB106_107.out
                                          have hcz48_0 : wc.cell? ⟨gb107, 0, none⟩ = some (.int .i64 0) := (blk_cell BK107.out 0).trans rfl
                                          have hcz48_1 : wc.cell? ⟨gb107, 1, none⟩ = some (.int .i64 0) := (blk_cell BK107.out 1).trans rfl
                                          have hcz48_2 : wc.cell? ⟨gb107, 2, none⟩ = some (.string (⟨#[]⟩ : ByteArray)) := (blk_cell BK107.out 2).trans rfl
                                          have hfz48_0 := blk_frozen BK107.out 0
                                          have hfz48_1 := blk_frozen BK107.out 1
                                          have hfz48_2 := blk_frozen BK107.out 2
                                          have hcz49_0 : wc.cell? ⟨gb106, 0, none⟩ = some (.int .i64 0) := (blk_cell BK106.out 0).trans rfl
                                          have hcz49_1 : wc.cell? ⟨gb106, 1, none⟩ = some (.int .i64 0) := (blk_cell BK106.out 1).trans rfl
                                          have hcz49_2 : wc.cell? ⟨gb106, 2, none⟩ = some (.string (⟨#[]⟩ : ByteArray)) := (blk_cell BK106.out 2).trans rfl
                                          have hfz49_0 := blk_frozen BK106.out 0
                                          have hfz49_1 := blk_frozen BK106.out 1
                                          have hfz49_2 := blk_frozen BK106.out 2
                                          go_wp2
                                          refine bodyPost_ret (results_ctt rfl _ _ gb106 43 #[.int .i64 0, .int .i64 0, .string (⟨#[]⟩ : ByteArray)] (0, 0) _ rfl (by (with_reducible repeat (first | refine blk_drewN ?_ _ | refine blk_drew ?_ | refine blk_alloc ?_ _)); refine blk_put (cs := #[.int .i64 0, .int .i64 0, .string (⟨#[]⟩ : ByteArray)]) ?_ 2 _ rfl; (with_reducible repeat (first | refine blk_drewN ?_ _ | refine blk_drew ?_ | refine blk_alloc ?_ _)); refine blk_put (cs := #[.int .i64 0, .int .i64 0, .string (⟨#[]⟩ : ByteArray)]) ?_ 1 _ rfl; (with_reducible repeat (first | refine blk_drewN ?_ _ | refine blk_drew ?_ | refine blk_alloc ?_ _)); refine blk_put (cs := #[.int .i64 0, .int .i64 0, .string (⟨#[]⟩ : ByteArray)]) ?_ 0 _ rfl; (with_reducible repeat (first | refine blk_drewN ?_ _ | refine blk_drew ?_ | refine blk_alloc ?_ _)); exact BK106.out) Try.underlying43 rfl (by kernel_rfl)) rfl ?_
                                          exact ⟨by first | rfl | (simp [errW_none, errW_some] <;> rfl) | (simp [*, errW_none, errW_some] <;> rfl), by repeat (first | (with_reducible first | exact HB.out | apply below_alloc | apply pw_below_drewN | apply below_drew1 | refine below_set ?_ GE106.out | refine below_set ?_ GE107.out) | exact HB.out)⟩
                                        · rw [if_neg c46] at H
                                          have c46b0 : decide ((wrap64 ((l1.length : Int) - (wrap64 (a2 + x10_15)))) < (wrap64 (x11_4))) = false := decide_eq_false c46
                                          clear c46
                                          obtain ⟨ji50, hji50⟩ : ∃ j_ : Int, (wrap64 (a2 + x10_15)) = j_ := ⟨_, rfl⟩
                                          replace H : (if 0 ≤ (ji50) then (if (ji50) ≤ (wrap64 ((ji50) + (wrap64 (x11_4)))) then (if (wrap64 ((ji50) + (wrap64 (x11_4)))) ≤ (l1.length : Int) then (some (4, 0, strOfNums ((l1.take ((wrap64 ((ji50) + (wrap64 (x11_4)))) : Int).toNat).drop ((ji50) : Int).toNat), wrap64 ((ji50) + (wrap64 (x11_4))), 0)) else (none)) else (none)) else (none)) = some (r1, r2, r3, r4, r5) := by first | (rw [hji50] at H; exact H) | (simp only [hji50] at H ⊢; exact H)
                                          (try rw [hji50] at c46b0)
                                          have hji50w : (IntKind.i64.wrap (a2 + x10_15)) = ji50 := (i64_w _).trans hji50
                                          by_cases c51 : 0 ≤ (ji50)
                                          · rw [if_pos c51] at H
                                            have c51b0 := eq_true c51
                                            have c51b1 : decide (0 ≤ (ji50)) = true := decide_eq_true c51
                                            clear c51
                                            by_cases c52 : (ji50) ≤ (wrap64 ((ji50) + (wrap64 (x11_4))))
                                            · rw [if_pos c52] at H
                                              have c52b0 := eq_true c52
                                              have c52b1 : decide ((ji50) ≤ (wrap64 ((ji50) + (wrap64 (x11_4))))) = true := decide_eq_true c52
                                              by_cases c53 : (wrap64 ((ji50) + (wrap64 (x11_4)))) ≤ (l1.length : Int)
                                              · rw [if_pos c53] at H
                                                have c53b0 := eq_true c53
                                                have c53b1 : decide ((wrap64 ((ji50) + (wrap64 (x11_4)))) ≤ (l1.length : Int)) = true := decide_eq_true c53
                                                simp only [Option.some.injEq, Prod.mk.injEq] at H
                                                obtain ⟨rfl, rfl, rfl, rfl, rfl⟩ := H
                                                obtain ⟨i054, hi054, _, hsz54, _⟩ := info_parts info5
                                                obtain ⟨A54, hcut54, hA54, hC54⟩ := print_mid_of (P := Try.prog) (Value.int .u8) 0 27 5 .i64 .i64 Try.underlying27 hi054 hsz54 A1 c1 l1 (ji50) (wrap64 ((ji50) + (wrap64 (x11_4)))) (of_decide_eq_true (by first | (with_reducible assumption) | assumption)) (by first | omega | exact of_decide_eq_true (by first | (with_reducible assumption) | assumption)) (of_decide_eq_true (by first | (with_reducible assumption) | assumption)) HC1.out
                                                have HR110 := Aside0.mk (Kd.C_of_reads (h1 := fun _ => rfl) (hA54 _ (Kd.reads_of_C HR1.out)))
                                                have HC110 := Aside0.mk hC54
                                                clear hA54 hC54 hi054 hsz54
                                                have hcv55 := Kd.C_string (P := Try.prog) (A := A54) (c := (c1 - (ji50).toNat)) Try.underlying27 Try.underlying5 Try.underlying9 (Kd.C_below HR110.out HB.out)
                                                obtain ⟨s_, hs_⟩ : ∃ s : ByteArray, strOfNums ((l1.take ((wrap64 ((ji50) + (wrap64 (x11_4)))) : Int).toNat).drop ((ji50) : Int).toNat) = s := ⟨_, rfl⟩
                                                have HS_ := Aside0.mk hs_
                                                have hl55 : ((l1.take ((wrap64 ((ji50) + (wrap64 (x11_4)))) : Int).toNat).drop ((ji50) : Int).toNat).length = (wrap64 ((ji50) + (wrap64 (x11_4)))).toNat - (ji50).toNat := by rw [List.length_drop, List.length_take, Nat.min_eq_left (by have := c53; omega)]
                                                rw [hs_, hl55] at hcv55
                                                try rw [hs_]
                                                clear hs_
                                                have hnb56 := NB106_107.out
                                                have hnc56 := NB107_106.out
                                                have hcz57_0 : wc.cell? ⟨gb106, 0, none⟩ = some (.int .i64 0) := (blk_cell BK106.out 0).trans rfl
                                                have hcz57_1 : wc.cell? ⟨gb106, 1, none⟩ = some (.int .i64 0) := (blk_cell BK106.out 1).trans rfl
                                                have hcz57_2 : wc.cell? ⟨gb106, 2, none⟩ = some (.string (⟨#[]⟩ : ByteArray)) := (blk_cell BK106.out 2).trans rfl
                                                have hfz57_0 := blk_frozen BK106.out 0
                                                have hfz57_1 := blk_frozen BK106.out 1
                                                have hfz57_2 := blk_frozen BK106.out 2
                                                go_wp2
                                                refine bodyPost_ret (results_ctt rfl _ _ gb106 43 #[.int .i64 4, .int .i64 0, .string (s_)] (0, 0) _ rfl (by (with_reducible repeat (first | refine blk_drewN ?_ _ | refine blk_drew ?_ | refine blk_alloc ?_ _)); refine blk_put (cs := #[.int .i64 4, .int .i64 0, .string (⟨#[]⟩ : ByteArray)]) ?_ 2 _ rfl; (with_reducible repeat (first | refine blk_drewN ?_ _ | refine blk_drew ?_ | refine blk_alloc ?_ _)); refine blk_put (cs := #[.int .i64 4, .int .i64 0, .string (⟨#[]⟩ : ByteArray)]) ?_ 1 _ rfl; (with_reducible repeat (first | refine blk_drewN ?_ _ | refine blk_drew ?_ | refine blk_alloc ?_ _)); refine blk_put (cs := #[.int .i64 0, .int .i64 0, .string (⟨#[]⟩ : ByteArray)]) ?_ 0 _ rfl; (with_reducible repeat (first | refine blk_drewN ?_ _ | refine blk_drew ?_ | refine blk_alloc ?_ _)); exact BK106.out) Try.underlying43 rfl (by kernel_rfl)) rfl ?_
                                                exact ⟨by first | (rw [HS_.out]; done) | (rw [HS_.out]; rfl) | rfl | (simp [errW_none, errW_some] <;> rfl) | (simp only [← hji50]; first | rfl | (simp [errW_none, errW_some] <;> rfl)) | (simp [*, errW_none, errW_some] <;> rfl), by repeat (first | (with_reducible first | exact HB.out | apply below_alloc | apply pw_below_drewN | apply below_drew1 | refine below_set ?_ GE106.out | refine below_set ?_ GE107.out) | exact HB.out)⟩
                                              · rw [if_neg c53] at H
                                                exact absurd H (by simp)
                                            · rw [if_neg c52] at H
                                              exact absurd H (by simp)
                                          · rw [if_neg c51] at H
                                            exact absurd H (by simp)
end Go.Proofs.Ytnjobnkkpfaigaa.A
