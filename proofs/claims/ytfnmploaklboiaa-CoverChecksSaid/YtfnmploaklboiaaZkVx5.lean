import Derived.Test.YtfnmploaklboiaaZkVx0
import Derived.Test.YtfnmploaklboiaaZkVx3
namespace Go.Proofs.Ytfnmploaklboiaa.V
open Go.RowKit Go.Proofs.YtfnmploaklboiaaW.PrintWords Go.Proofs.YtfnmploaklboiaaW.PrintLast Go.Proofs.YtfnmploaklboiaaW.PrintMore Go.Proofs.Ytfnmploaklboiaa.A
attribute [local go_sem] max2_int min2_int max_two min_two max_three min_three max_four min_four   -- for this text's walks alone
set_option linter.unusedVariables false
set_option linter.unusedSimpArgs false
/-! ### haspref22_changes: function 17 -/
mutual
def haspref22_changes.l0 : Nat → Int → Int → Int → Int → Int → ByteArray → List (S33) → Option (Bool)
  | 0, _, _, _, _, _, _, _ => none
  | k + 1, x3, x4, x5, x6, x7, x144000, x144001 => if x7 < (x144001.length : Int) then (if 0 ≤ x7 then (if x144000.toList = ([] : List UInt8) then (if ((rd_T33 x144001 x7).f0) = 6 then (haspref22_changes.j1 k x3 x4 x5 x6 x7 ((rd_T33 x144001 x7).f0) true x144000 x144001) else (if ((rd_T33 x144001 x7).f0) = 7 then (haspref22_changes.j1 k x3 x4 x5 x6 x7 ((rd_T33 x144001 x7).f0) true x144000 x144001) else (if ((rd_T33 x144001 x7).f0) = 9 then (haspref22_changes.j1 k x3 x4 x5 x6 x7 ((rd_T33 x144001 x7).f0) true x144000 x144001) else (haspref22_changes.j1 k x3 x4 x5 x6 x7 ((rd_T33 x144001 x7).f0) (((rd_T33 x144001 x7).f0) == 10) x144000 x144001)))) else (haspref22_changes.j1 k x3 x4 x5 x6 x7 ((rd_T33 x144001 x7).f0) false x144000 x144001)) else (none)) else (if x144000.toList = ([] : List UInt8) then (some true) else (if x3 = 1 then (if x4 = 1 then ((haspref22_Mode.f k x144000 x144001 x144000).bind fun t145 => ((haspref09_Covers.f t145 2).bind fun t146 => (haspref22_changes.j4 k x6 (!t146) x144000 x144001))) else (haspref22_changes.j4 k x6 true x144000 x144001)) else (haspref22_changes.j4 k x6 true x144000 x144001)))
def haspref22_changes.j1 : Nat → Int → Int → Int → Int → Int → Int → Bool → ByteArray → List (S33) → Option (Bool)
  | 0, _, _, _, _, _, _, _, _, _ => none
  | k + 1, x3, x4, x5, x6, x7, x8, x42, x144000, x144001 => if x42 = true then (some false) else (if x8 = 9 then (haspref22_changes.j2 k (wrap64 (x3 + 1)) x4 x7 x6 x7 x8 x144000 x144001) else (haspref22_changes.j2 k x3 x4 x5 x6 x7 x8 x144000 x144001))
def haspref22_changes.j2 : Nat → Int → Int → Int → Int → Int → Int → ByteArray → List (S33) → Option (Bool)
  | 0, _, _, _, _, _, _, _, _ => none
  | k + 1, x3, x4, x5, x6, x7, x8, x144000, x144001 => if x8 = 10 then (if x5 < 0 then (some false) else (if x5 = (wrap64 (x7 - 1)) then (haspref22_changes.j3 k x3 (wrap64 (x4 + 1)) x5 x6 x7 x8 x144000 x144001) else (some false))) else (haspref22_changes.j3 k x3 x4 x5 x6 x7 x8 x144000 x144001)
def haspref22_changes.j3 : Nat → Int → Int → Int → Int → Int → Int → ByteArray → List (S33) → Option (Bool)
  | 0, _, _, _, _, _, _, _, _ => none
  | k + 1, x3, x4, x5, x6, x7, x8, x144000, x144001 => if x8 = 6 then (if x3 > 0 then (some false) else (haspref22_changes.l0 k x3 x4 x5 (wrap64 (x6 + 1)) (wrap64 (x7 + 1)) x144000 x144001)) else (if x8 = 7 then (if x3 > 0 then (some false) else (haspref22_changes.l0 k x3 x4 x5 x6 (wrap64 (x7 + 1)) x144000 x144001)) else (haspref22_changes.l0 k x3 x4 x5 x6 (wrap64 (x7 + 1)) x144000 x144001))
def haspref22_changes.j4 : Nat → Int → Bool → ByteArray → List (S33) → Option (Bool)
  | 0, _, _, _, _ => none
  | k + 1, x6, x90, x144000, x144001 => if x90 = true then (some false) else (if x6 = 0 then (some true) else ((haspref22_Opened.f k x144000 x144001 0).bind fun t147 => (if t147 < 0 then (some false) else (haspref22_changes.l1 k t147 0 x144000 x144001))))
def haspref22_changes.l1 : Nat → Int → Int → ByteArray → List (S33) → Option (Bool)
  | 0, _, _, _, _ => none
  | k + 1, x9, x10, x144000, x144001 => if x10 < (x144001.length : Int) then (if 0 ≤ x10 then (if ((rd_T33 x144001 x10).f0) = 3 then (if ((rd_T33 x144001 x10).f1) = 0 then ((haspref09_Covers.f ((rd_T33 x144001 x10).f4) 5).bind fun t151 => (if t151 = true then (haspref22_changes.l1 k x9 (wrap64 (x10 + 1)) x144000 x144001) else (some false))) else (haspref22_changes.l1 k x9 (wrap64 (x10 + 1)) x144000 x144001)) else (haspref22_changes.l1 k x9 (wrap64 (x10 + 1)) x144000 x144001)) else (none)) else (if 0 ≤ x9 then (if x9 < (x144001.length : Int) then (some (((rd_T33 x144001 x9).f5).toList == x144000.toList)) else (none)) else (none))
end
def haspref22_changes.f (k : Nat) (a0_0 : ByteArray) (l0_1 : List (S33)) : Option (Bool) := haspref22_changes.l0 k 0 0 (-1) 0 0 a0_0 l0_1
set_option maxHeartbeats 8000000 in
set_option maxRecDepth 100000 in
theorem haspref22_changes.calls (k : Nat) (a0_0 : ByteArray) (A0_1 : Option Addr) (c0_1 : Nat) (l0_1 : List (S33)) (r : Bool) (w : World) (hr0_1 : Kd.C k33 w A0_1 l0_1.length l0_1) (hc0_1 : l0_1.length ≤ c0_1) (h : haspref22_changes.f k a0_0 l0_1 = some r) :
    Calls Try.prog 17 #[.agg #[.string a0_0, .slice A0_1 l0_1.length c0_1]] w fun e w' => e = .returned (.bool r) ∧ Below w.heap.size w w' := by
  have hu25 := Try.underlying25
  have HR0_1 := Aside0.mk hr0_1
  have HC0_1 := Aside0.mk hc0_1
  clear hr0_1 hc0_1
  have HB := Aside0.mk (Below.refl w.heap.size w)
  have H : (haspref22_changes.l0 k 0 0 (-1) 0 0 a0_0 l0_1) = some r := h
  clear h
  have H' := Aside0.mk H
  clear H
  go_enter Try.func17, Try.ntmps17
  go_wp2_with (first | ((with_reducible refine gate_dst (N := 1) rfl ?_); refine box_event ?hg (N := 1) ?hd (cs := #[.string a0_0, .slice A0_1 l0_1.length c0_1]) (t := 25) ?hr ?_; (case hd => rfl); (case hg => rfl); (case hr => first | (go_simp; done) | (go_simp; rfl)); intro gb143 hg w2 hbox hb; have n0_ := Aside0.mk (below_step (by repeat (first | (with_reducible first | exact HB.out | apply below_alloc | apply pw_below_drewN | apply below_drew1) | exact HB.out)) hb); have n1_ := Aside0.mk (hbox); have n2_ := Aside0.mk ((by rw [hg]; exact (below_size (by repeat (first | (with_reducible first | exact HB.out | apply below_alloc | apply pw_below_drewN | apply below_drew1) | exact HB.out))) : w.heap.size ≤ gb143)); have n3_ := Aside0.mk ((by rw [hg]; exact (below_size (by repeat (first | (with_reducible first | exact HB.out | apply below_alloc | apply pw_below_drewN | apply below_drew1) | exact HB.out))) : w.heap.size ≤ gb143)); clear HB; have HB := n0_; have BK143 := n1_; have GW143 := n2_; have GE143 := n3_; clear n0_ n1_ n2_ n3_; clear hb hbox hg))
  repeat (go_quiet (first | ((with_reducible refine gate_dst (N := 1) rfl ?_); refine box_event ?hg (N := 1) ?hd (cs := #[.string a0_0, .slice A0_1 l0_1.length c0_1]) (t := 25) ?hr ?_; (case hd => rfl); (case hg => rfl); (case hr => first | (go_simp; done) | (go_simp; rfl)); intro gb143 hg w2 hbox hb; have n0_ := Aside0.mk (below_step (by repeat (first | (with_reducible first | exact HB.out | apply below_alloc | apply pw_below_drewN | apply below_drew1) | exact HB.out)) hb); have n1_ := Aside0.mk (hbox); have n2_ := Aside0.mk ((by rw [hg]; exact (below_size (by repeat (first | (with_reducible first | exact HB.out | apply below_alloc | apply pw_below_drewN | apply below_drew1) | exact HB.out))) : w.heap.size ≤ gb143)); have n3_ := Aside0.mk ((by rw [hg]; exact (below_size (by repeat (first | (with_reducible first | exact HB.out | apply below_alloc | apply pw_below_drewN | apply below_drew1) | exact HB.out))) : w.heap.size ≤ gb143)); clear HB; have HB := n0_; have BK143 := n1_; have GW143 := n2_; have GE143 := n3_; clear n0_ n1_ n2_ n3_; clear hb hbox hg)); try go_wp2_with (first | ((with_reducible refine gate_dst (N := 1) rfl ?_); refine box_event ?hg (N := 1) ?hd (cs := #[.string a0_0, .slice A0_1 l0_1.length c0_1]) (t := 25) ?hr ?_; (case hd => rfl); (case hg => rfl); (case hr => first | (go_simp; done) | (go_simp; rfl)); intro gb143 hg w2 hbox hb; have n0_ := Aside0.mk (below_step (by repeat (first | (with_reducible first | exact HB.out | apply below_alloc | apply pw_below_drewN | apply below_drew1) | exact HB.out)) hb); have n1_ := Aside0.mk (hbox); have n2_ := Aside0.mk ((by rw [hg]; exact (below_size (by repeat (first | (with_reducible first | exact HB.out | apply below_alloc | apply pw_below_drewN | apply below_drew1) | exact HB.out))) : w.heap.size ≤ gb143)); have n3_ := Aside0.mk ((by rw [hg]; exact (below_size (by repeat (first | (with_reducible first | exact HB.out | apply below_alloc | apply pw_below_drewN | apply below_drew1) | exact HB.out))) : w.heap.size ≤ gb143)); clear HB; have HB := n0_; have BK143 := n1_; have GW143 := n2_; have GE143 := n3_; clear n0_ n1_ n2_ n3_; clear hb hbox hg)))
  go_loopg [3, 4, 5, 6, 7] k (fun kq v3 v4 v5 v6 v7 w' => ∃ (x3_1 : Int) (x4_1 : Int) (x5_1 : Int) (x6_1 : Int) (x7_1 : Int), v3 = .int .i64 x3_1 ∧ v4 = .int .i64 x4_1 ∧ v5 = .int .i64 x5_1 ∧ v6 = .int .i64 x6_1 ∧ v7 = .int .i64 x7_1 ∧ Aside0 (haspref22_changes.l0 kq x3_1 x4_1 x5_1 x6_1 x7_1 a0_0 l0_1 = some r) ∧ Aside0 (kq ≤ k) ∧ Aside0 (w'.heap[gb143]? = some (.cells #[.string a0_0, (.slice A0_1 l0_1.length c0_1)] 25 (0, 0))) ∧ Aside0 (Below w.heap.size w w'))
  case atStart => exact ⟨(0), (0), ((-1)), (0), (0), (by first | rfl | (simp; done) | (simp [*]; done) | (simp; exact isEmpty_bne _) | (simp [*]; exact isEmpty_bne _)), (by first | rfl | (simp; done) | (simp [*]; done) | (simp; exact isEmpty_bne _) | (simp [*]; exact isEmpty_bne _)), (by first | rfl | (simp; done) | (simp [*]; done) | (simp; exact isEmpty_bne _) | (simp [*]; exact isEmpty_bne _)), (by first | rfl | (simp; done) | (simp [*]; done) | (simp; exact isEmpty_bne _) | (simp [*]; exact isEmpty_bne _)), (by first | rfl | (simp; done) | (simp [*]; done) | (simp; exact isEmpty_bne _) | (simp [*]; exact isEmpty_bne _)), H', ⟨Nat.le_refl _⟩, ⟨by (with_reducible repeat (first | refine blk_drewN ?_ _ | refine blk_drew ?_ | refine blk_alloc ?_ _)); exact BK143.out⟩, ⟨by repeat (first | (with_reducible first | exact HB.out | apply below_alloc | apply pw_below_drewN | apply below_drew1 | refine below_set ?_ GE143.out) | exact HB.out)⟩⟩
  case round =>
    clear H'
    try clear c1
    try clear p2
    obtain ⟨x3_1, x4_1, x5_1, x6_1, x7_1, rfl, rfl, rfl, rfl, rfl, HA, HK1, BK143, HB⟩ := hrel
    cases gk with
    | zero => exact absurd HA.out (by simp [haspref22_changes.l0])
    | succ k1 =>
      have H := HA.out
      clear HA
      simp only [haspref22_changes.l0] at H
      by_cases c3 : x7_1 < (l0_1.length : Int)
      · rw [if_pos c3] at H
        have c3b0 : decide (x7_1 < (l0_1.length : Int)) = true := decide_eq_true c3
        clear c3
        by_cases c4 : 0 ≤ x7_1
        · rw [if_pos c4] at H
          have c4b0 : decide (0 ≤ x7_1) = true := decide_eq_true c4
          clear c4
          have HC5 := Aside0.mk H
          clear H
          have hcz6_0 : wr.cell? ⟨gb143, 0, none⟩ = some (.string a0_0) := (blk_cell BK143.out 0).trans rfl
          have hcz6_1 : wr.cell? ⟨gb143, 1, none⟩ = some (.slice A0_1 l0_1.length c0_1) := (blk_cell BK143.out 1).trans rfl
          have hfz6_0 := blk_frozen BK143.out 0
          have hfz6_1 := blk_frozen BK143.out 1
          have p144 : 0 ≤ (x7_1 : Int) := of_decide_eq_true (by first | (with_reducible assumption) | assumption)
          have q144 : x7_1 < (l0_1.length : Int) := of_decide_eq_true (by first | (with_reducible assumption) | assumption)
          obtain ⟨ad144, A144_7, c144_7, A144_8, c144_8, A144_11, c144_11, A144_13, c144_13, e144, hx144_0, hx144_1, hx144_2, hx144_3, hx144_4, hx144_5, hx144_6, hx144_7, hx144_8, hx144_9, hx144_10, hx144_11, hx144_12, hx144_13, hl144_7, hi144_7, hl144_8, hi144_8, hl144_11, hi144_11, hl144_13, hi144_13⟩ := at_T33 HR0_1.out x7_1 p144 q144
          cases e144
          replace hx144_0 := (HB.out.cell (World.block_lt_of_cell? w _ hx144_0)).trans hx144_0
          replace hx144_1 := (HB.out.cell (World.block_lt_of_cell? w _ hx144_1)).trans hx144_1
          replace hx144_2 := (HB.out.cell (World.block_lt_of_cell? w _ hx144_2)).trans hx144_2
          replace hx144_3 := (HB.out.cell (World.block_lt_of_cell? w _ hx144_3)).trans hx144_3
          replace hx144_4 := (HB.out.cell (World.block_lt_of_cell? w _ hx144_4)).trans hx144_4
          replace hx144_5 := (HB.out.cell (World.block_lt_of_cell? w _ hx144_5)).trans hx144_5
          replace hx144_6 := (HB.out.cell (World.block_lt_of_cell? w _ hx144_6)).trans hx144_6
          replace hx144_7 := (HB.out.cell (World.block_lt_of_cell? w _ hx144_7)).trans hx144_7
          replace hx144_8 := (HB.out.cell (World.block_lt_of_cell? w _ hx144_8)).trans hx144_8
          replace hx144_9 := (HB.out.cell (World.block_lt_of_cell? w _ hx144_9)).trans hx144_9
          replace hx144_10 := (HB.out.cell (World.block_lt_of_cell? w _ hx144_10)).trans hx144_10
          replace hx144_11 := (HB.out.cell (World.block_lt_of_cell? w _ hx144_11)).trans hx144_11
          replace hx144_12 := (HB.out.cell (World.block_lt_of_cell? w _ hx144_12)).trans hx144_12
          replace hx144_13 := (HB.out.cell (World.block_lt_of_cell? w _ hx144_13)).trans hx144_13
          have HR144_7 := Aside0.mk hi144_7
          have HC144_7 := Aside0.mk hl144_7
          clear hi144_7 hl144_7
          have HR144_8 := Aside0.mk hi144_8
          have HC144_8 := Aside0.mk hl144_8
          clear hi144_8 hl144_8
          have HR144_11 := Aside0.mk hi144_11
          have HC144_11 := Aside0.mk hl144_11
          clear hi144_11 hl144_11
          have HR144_13 := Aside0.mk hi144_13
          have HC144_13 := Aside0.mk hl144_13
          clear hi144_13 hl144_13
          replace p144 := eq_true p144
          replace q144 := eq_true q144
          go_upto_region 6 with (fail)
          repeat (go_quiet (fail); go_upto_region 6 with (fail))
          go_cut [42] (fun v42 wc => ∃ (kq : Nat) (x42_4 : Bool), v42 = .bool x42_4 ∧ Aside0 (haspref22_changes.j1 kq x3_1 x4_1 x5_1 x6_1 x7_1 ((rd_T33 l0_1 x7_1).f0) x42_4 a0_0 l0_1 = some r) ∧ Aside0 (kq ≤ k1) ∧ Aside0 (wc.heap[gb143]? = some (.cells #[.string a0_0, (.slice (some ad144) l0_1.length c0_1)] 25 (0, 0))) ∧ Aside0 (Below w.heap.size w wc))
          case first =>
            have H := HC5.out
            clear HC5
            by_cases c7 : a0_0.toList = ([] : List UInt8)
            · rw [if_pos c7] at H
              have c7b0 : (a0_0.toList == ([] : List UInt8)) = true := beq_iff_eq.mpr c7
              have c7b1 : (a0_0.toList != ([] : List UInt8)) = false := bne_eq_false_iff_eq.mpr c7
              clear c7
              (first | rw [c7b0] | (simp only [i64_w, i32_w]; rw [c7b0]) | skip)
              by_cases c8 : ((rd_T33 l0_1 x7_1).f0) = 6
              · rw [if_pos c8] at H
                have c8b0 : (((rd_T33 l0_1 x7_1).f0) == 6) = true := beq_iff_eq.mpr c8
                have c8b1 : (((rd_T33 l0_1 x7_1).f0) != 6) = false := bne_eq_false_iff_eq.mpr c8
                clear c8
                have H' := Aside0.mk H
                clear H
                have hcz9_0 : wr.cell? ⟨gb143, 0, none⟩ = some (.string a0_0) := (blk_cell BK143.out 0).trans rfl
                have hcz9_1 : wr.cell? ⟨gb143, 1, none⟩ = some (.slice (some ad144) l0_1.length c0_1) := (blk_cell BK143.out 1).trans rfl
                have hfz9_0 := blk_frozen BK143.out 0
                have hfz9_1 := blk_frozen BK143.out 1
                go_wp2
                repeat (go_quiet (fail); try go_wp2)
                go_meet
                case rel => exact ⟨_, (true), (by first | rfl | (simp; done) | (simp [*]; done) | (simp; exact isEmpty_bne _) | (simp [*]; exact isEmpty_bne _)), H', ⟨by have := HK1.out; first | omega | exact Nat.le_refl _⟩, ⟨by (with_reducible repeat (first | refine blk_drewN ?_ _ | refine blk_drew ?_ | refine blk_alloc ?_ _)); exact BK143.out⟩, ⟨by repeat (first | (with_reducible first | exact HB.out | apply below_alloc | apply pw_below_drewN | apply below_drew1 | refine below_set ?_ GE143.out) | exact HB.out)⟩⟩
              · rw [if_neg c8] at H
                have c8b0 : (((rd_T33 l0_1 x7_1).f0) == 6) = false := beq_eq_false_iff_ne.mpr c8
                have c8b1 : (((rd_T33 l0_1 x7_1).f0) != 6) = true := bne_iff_ne.mpr c8
                by_cases c10 : ((rd_T33 l0_1 x7_1).f0) = 7
                · rw [if_pos c10] at H
                  have c10b0 : (((rd_T33 l0_1 x7_1).f0) == 7) = true := beq_iff_eq.mpr c10
                  have c10b1 : (((rd_T33 l0_1 x7_1).f0) != 7) = false := bne_eq_false_iff_eq.mpr c10
                  clear c10
                  have H' := Aside0.mk H
                  clear H
                  have hcz11_0 : wr.cell? ⟨gb143, 0, none⟩ = some (.string a0_0) := (blk_cell BK143.out 0).trans rfl
                  have hcz11_1 : wr.cell? ⟨gb143, 1, none⟩ = some (.slice (some ad144) l0_1.length c0_1) := (blk_cell BK143.out 1).trans rfl
                  have hfz11_0 := blk_frozen BK143.out 0
                  have hfz11_1 := blk_frozen BK143.out 1
                  go_wp2
                  repeat (go_quiet (fail); try go_wp2)
                  go_meet
                  case rel => exact ⟨_, (true), (by first | rfl | (simp; done) | (simp [*]; done) | (simp; exact isEmpty_bne _) | (simp [*]; exact isEmpty_bne _)), H', ⟨by have := HK1.out; first | omega | exact Nat.le_refl _⟩, ⟨by (with_reducible repeat (first | refine blk_drewN ?_ _ | refine blk_drew ?_ | refine blk_alloc ?_ _)); exact BK143.out⟩, ⟨by repeat (first | (with_reducible first | exact HB.out | apply below_alloc | apply pw_below_drewN | apply below_drew1 | refine below_set ?_ GE143.out) | exact HB.out)⟩⟩
                · rw [if_neg c10] at H
                  have c10b0 : (((rd_T33 l0_1 x7_1).f0) == 7) = false := beq_eq_false_iff_ne.mpr c10
                  have c10b1 : (((rd_T33 l0_1 x7_1).f0) != 7) = true := bne_iff_ne.mpr c10
                  by_cases c12 : ((rd_T33 l0_1 x7_1).f0) = 9
                  · rw [if_pos c12] at H
                    have c12b0 : (((rd_T33 l0_1 x7_1).f0) == 9) = true := beq_iff_eq.mpr c12
                    have c12b1 : (((rd_T33 l0_1 x7_1).f0) != 9) = false := bne_eq_false_iff_eq.mpr c12
                    clear c12
                    have H' := Aside0.mk H
                    clear H
                    have hcz13_0 : wr.cell? ⟨gb143, 0, none⟩ = some (.string a0_0) := (blk_cell BK143.out 0).trans rfl
                    have hcz13_1 : wr.cell? ⟨gb143, 1, none⟩ = some (.slice (some ad144) l0_1.length c0_1) := (blk_cell BK143.out 1).trans rfl
                    have hfz13_0 := blk_frozen BK143.out 0
                    have hfz13_1 := blk_frozen BK143.out 1
                    go_wp2
                    repeat (go_quiet (fail); try go_wp2)
                    go_meet
                    case rel => exact ⟨_, (true), (by first | rfl | (simp; done) | (simp [*]; done) | (simp; exact isEmpty_bne _) | (simp [*]; exact isEmpty_bne _)), H', ⟨by have := HK1.out; first | omega | exact Nat.le_refl _⟩, ⟨by (with_reducible repeat (first | refine blk_drewN ?_ _ | refine blk_drew ?_ | refine blk_alloc ?_ _)); exact BK143.out⟩, ⟨by repeat (first | (with_reducible first | exact HB.out | apply below_alloc | apply pw_below_drewN | apply below_drew1 | refine below_set ?_ GE143.out) | exact HB.out)⟩⟩
                  · rw [if_neg c12] at H
                    have c12b0 : (((rd_T33 l0_1 x7_1).f0) == 9) = false := beq_eq_false_iff_ne.mpr c12
                    have c12b1 : (((rd_T33 l0_1 x7_1).f0) != 9) = true := bne_iff_ne.mpr c12
                    have H' := Aside0.mk H
                    clear H
                    have hcz14_0 : wr.cell? ⟨gb143, 0, none⟩ = some (.string a0_0) := (blk_cell BK143.out 0).trans rfl
                    have hcz14_1 : wr.cell? ⟨gb143, 1, none⟩ = some (.slice (some ad144) l0_1.length c0_1) := (blk_cell BK143.out 1).trans rfl
                    have hfz14_0 := blk_frozen BK143.out 0
                    have hfz14_1 := blk_frozen BK143.out 1
                    go_wp2
                    repeat (go_quiet (fail); try go_wp2)
                    go_meet
                    case rel => exact ⟨_, ((((rd_T33 l0_1 x7_1).f0) == 10)), (by first | rfl | (simp; done) | (simp [*]; done) | (simp; exact isEmpty_bne _) | (simp [*]; exact isEmpty_bne _)), H', ⟨by have := HK1.out; first | omega | exact Nat.le_refl _⟩, ⟨by (with_reducible repeat (first | refine blk_drewN ?_ _ | refine blk_drew ?_ | refine blk_alloc ?_ _)); exact BK143.out⟩, ⟨by repeat (first | (with_reducible first | exact HB.out | apply below_alloc | apply pw_below_drewN | apply below_drew1 | refine below_set ?_ GE143.out) | exact HB.out)⟩⟩
            · rw [if_neg c7] at H
              have c7b0 : (a0_0.toList == ([] : List UInt8)) = false := beq_eq_false_iff_ne.mpr c7
              have c7b1 : (a0_0.toList != ([] : List UInt8)) = true := bne_iff_ne.mpr c7
              (first | rw [c7b0] | (simp only [i64_w, i32_w]; rw [c7b0]) | skip)
              have H' := Aside0.mk H
              clear H
              have hcz15_0 : wr.cell? ⟨gb143, 0, none⟩ = some (.string a0_0) := (blk_cell BK143.out 0).trans rfl
              have hcz15_1 : wr.cell? ⟨gb143, 1, none⟩ = some (.slice (some ad144) l0_1.length c0_1) := (blk_cell BK143.out 1).trans rfl
              have hfz15_0 := blk_frozen BK143.out 0
              have hfz15_1 := blk_frozen BK143.out 1
              go_wp2
              repeat (go_quiet (fail); try go_wp2)
              go_meet
              case rel => exact ⟨_, (false), (by first | rfl | (simp; done) | (simp [*]; done) | (simp; exact isEmpty_bne _) | (simp [*]; exact isEmpty_bne _)), H', ⟨by have := HK1.out; first | omega | exact Nat.le_refl _⟩, ⟨by (with_reducible repeat (first | refine blk_drewN ?_ _ | refine blk_drew ?_ | refine blk_alloc ?_ _)); exact BK143.out⟩, ⟨by repeat (first | (with_reducible first | exact HB.out | apply below_alloc | apply pw_below_drewN | apply below_drew1 | refine below_set ?_ GE143.out) | exact HB.out)⟩⟩
          case rest =>
            clear HC5
            try clear c1
            try clear p1
            try clear q1
            try clear hx1
            try clear p2
            try clear c3
            try clear c3b0
            try clear c4
            try clear c4b0
            try clear c7
            try clear c7b0
            try clear c7b1
            try clear c8
            try clear c8b0
            try clear c8b1
            try clear c10
            try clear c10b0
            try clear c10b1
            try clear c12
            try clear c12b0
            try clear c12b1
            try clear c14
            try clear p14
            try clear q14
            try clear hx14
            try clear hcz11_0
            try clear hcz11_1
            try clear hcz13_0
            try clear hcz13_1
            try clear hcz14_0
            try clear hcz14_1
            try clear hcz15_0
            try clear hcz15_1
            try clear hcz6_0
            try clear hcz6_1
            try clear hcz9_0
            try clear hcz9_1
            try clear hfz11_0
            try clear hfz11_1
            try clear hfz13_0
            try clear hfz13_1
            try clear hfz14_0
            try clear hfz14_1
            try clear hfz15_0
            try clear hfz15_1
            try clear hfz6_0
            try clear hfz6_1
            try clear hfz9_0
            try clear hfz9_1
            try clear hx144_0
            try clear hx144_1
            try clear hx144_10
            try clear hx144_11
            try clear hx144_12
            try clear hx144_13
            try clear hx144_2
            try clear hx144_3
            try clear hx144_4
            try clear hx144_5
            try clear hx144_6
            try clear hx144_7
            try clear hx144_8
            try clear hx144_9
            try clear p144
            try clear p2
            try clear q144
            obtain ⟨kq, x42_4, rfl, HA, HJ4, BK143, HB⟩ := hcut
            cases kq with
            | zero => exact absurd HA.out (by simp [haspref22_changes.j1])
            | succ kj4 =>
              have H := HA.out
              clear HA
              simp only [haspref22_changes.j1] at H
              by_cases c16 : x42_4 = true
              · subst c16
                have H1 : (some false) = some r := by rw [if_pos rfl] at H; exact H
                clear H
                have H := H1
                clear H1
                obtain rfl := Option.some.inj H
                go_wp2
                repeat (go_quiet (fail); try go_wp2)
                go_ret
                exact ⟨by first | rfl | (simp [errW_none, errW_some] <;> rfl) | (simp [*, errW_none, errW_some] <;> rfl), by repeat (first | (with_reducible first | exact HB.out | apply below_alloc | apply pw_below_drewN | apply below_drew1 | refine below_set ?_ GE143.out) | exact HB.out)⟩
              · replace c16 := Bool.eq_false_iff.mpr c16
                subst c16
                have H1 : (if ((rd_T33 l0_1 x7_1).f0) = 9 then (haspref22_changes.j2 kj4 (wrap64 (x3_1 + 1)) x4_1 x7_1 x6_1 x7_1 ((rd_T33 l0_1 x7_1).f0) a0_0 l0_1) else (haspref22_changes.j2 kj4 x3_1 x4_1 x5_1 x6_1 x7_1 ((rd_T33 l0_1 x7_1).f0) a0_0 l0_1)) = some r := by rw [if_neg (show ¬ (false = true) by decide)] at H; exact H
                clear H
                have H := H1
                clear H1
                have HC17 := Aside0.mk H
                clear H
                go_upto_if 44 with (fail)
                repeat (go_quiet (fail); go_upto_if 44 with (fail))
                go_cut [3, 5] (fun v3 v5 wc => ∃ (kq : Nat) (x3_16 : Int) (x5_16 : Int), v3 = .int .i64 x3_16 ∧ v5 = .int .i64 x5_16 ∧ Aside0 (haspref22_changes.j2 kq x3_16 x4_1 x5_16 x6_1 x7_1 ((rd_T33 l0_1 x7_1).f0) a0_0 l0_1 = some r) ∧ Aside0 (kq ≤ kj4) ∧ Aside0 (wc.heap[gb143]? = some (.cells #[.string a0_0, (.slice (some ad144) l0_1.length c0_1)] 25 (0, 0))) ∧ Aside0 (Below w.heap.size w wc))
                case first =>
                  have H := HC17.out
                  clear HC17
                  by_cases c18 : ((rd_T33 l0_1 x7_1).f0) = 9
                  · rw [if_pos c18] at H
                    have c18b0 : (((rd_T33 l0_1 x7_1).f0) == 9) = true := beq_iff_eq.mpr c18
                    have c18b1 : (((rd_T33 l0_1 x7_1).f0) != 9) = false := bne_eq_false_iff_eq.mpr c18
                    clear c18
                    (first | rw [c18b0] | (simp only [i64_w, i32_w]; rw [c18b0]) | skip)
                    have H' := Aside0.mk H
                    clear H
                    go_wp2
                    repeat (go_quiet (fail); try go_wp2)
                    go_meet
                    case rel => exact ⟨_, (wrap64 (x3_1 + 1)), (x7_1), (by first | rfl | (simp; done) | (simp [*]; done) | (simp; exact isEmpty_bne _) | (simp [*]; exact isEmpty_bne _)), (by first | rfl | (simp; done) | (simp [*]; done) | (simp; exact isEmpty_bne _) | (simp [*]; exact isEmpty_bne _)), H', ⟨by have := HK1.out; have := HJ4.out; first | omega | exact Nat.le_refl _⟩, ⟨by (with_reducible repeat (first | refine blk_drewN ?_ _ | refine blk_drew ?_ | refine blk_alloc ?_ _)); exact BK143.out⟩, ⟨by repeat (first | (with_reducible first | exact HB.out | apply below_alloc | apply pw_below_drewN | apply below_drew1 | refine below_set ?_ GE143.out) | exact HB.out)⟩⟩
                  · rw [if_neg c18] at H
                    have c18b0 : (((rd_T33 l0_1 x7_1).f0) == 9) = false := beq_eq_false_iff_ne.mpr c18
                    have c18b1 : (((rd_T33 l0_1 x7_1).f0) != 9) = true := bne_iff_ne.mpr c18
                    (first | rw [c18b0] | (simp only [i64_w, i32_w]; rw [c18b0]) | skip)
                    have H' := Aside0.mk H
                    clear H
                    go_wp2
                    repeat (go_quiet (fail); try go_wp2)
                    go_meet
                    case rel => exact ⟨_, (x3_1), (x5_1), (by first | rfl | (simp; done) | (simp [*]; done) | (simp; exact isEmpty_bne _) | (simp [*]; exact isEmpty_bne _)), (by first | rfl | (simp; done) | (simp [*]; done) | (simp; exact isEmpty_bne _) | (simp [*]; exact isEmpty_bne _)), H', ⟨by have := HK1.out; have := HJ4.out; first | omega | exact Nat.le_refl _⟩, ⟨by (with_reducible repeat (first | refine blk_drewN ?_ _ | refine blk_drew ?_ | refine blk_alloc ?_ _)); exact BK143.out⟩, ⟨by repeat (first | (with_reducible first | exact HB.out | apply below_alloc | apply pw_below_drewN | apply below_drew1 | refine below_set ?_ GE143.out) | exact HB.out)⟩⟩
                case rest =>
                  clear HC17
                  try clear c1
                  try clear p1
                  try clear q1
                  try clear hx1
                  try clear p2
                  try clear c3
                  try clear c3b0
                  try clear c4
                  try clear c4b0
                  try clear p6
                  try clear c7
                  try clear c7b0
                  try clear c7b1
                  try clear c8
                  try clear c8b0
                  try clear c8b1
                  try clear c10
                  try clear c10b0
                  try clear c10b1
                  try clear c12
                  try clear c12b0
                  try clear c12b1
                  try clear c14
                  try clear p14
                  try clear q14
                  try clear hx14
                  try clear c16
                  try clear c17
                  try clear c18
                  try clear c18b0
                  try clear c18b1
                  try clear hcz11_0
                  try clear hcz11_1
                  try clear hcz13_0
                  try clear hcz13_1
                  try clear hcz14_0
                  try clear hcz14_1
                  try clear hcz15_0
                  try clear hcz15_1
                  try clear hcz6_0
                  try clear hcz6_1
                  try clear hcz9_0
                  try clear hcz9_1
                  try clear hfz11_0
                  try clear hfz11_1
                  try clear hfz13_0
                  try clear hfz13_1
                  try clear hfz14_0
                  try clear hfz14_1
                  try clear hfz15_0
                  try clear hfz15_1
                  try clear hfz6_0
                  try clear hfz6_1
                  try clear hfz9_0
                  try clear hfz9_1
                  try clear hx144_0
                  try clear hx144_1
                  try clear hx144_10
                  try clear hx144_11
                  try clear hx144_12
                  try clear hx144_13
                  try clear hx144_2
                  try clear hx144_3
                  try clear hx144_4
                  try clear hx144_5
                  try clear hx144_6
                  try clear hx144_7
                  try clear hx144_8
                  try clear hx144_9
                  try clear p1
                  try clear p14
                  try clear p144
                  try clear p2
                  try clear q1
                  try clear q14
                  try clear q144
                  obtain ⟨kq, x3_16, x5_16, rfl, rfl, HA, HJ16, BK143, HB⟩ := hcut
                  cases kq with
                  | zero => exact absurd HA.out (by simp [haspref22_changes.j2])
                  | succ kj16 =>
                    have H := HA.out
                    clear HA
                    simp only [haspref22_changes.j2] at H
                    have HC19 := Aside0.mk H
                    clear H
                    go_upto_if 49 with (fail)
                    repeat (go_quiet (fail); go_upto_if 49 with (fail))
                    go_cut [4] (fun v4 wc => ∃ (kq : Nat) (x4_18 : Int), v4 = .int .i64 x4_18 ∧ Aside0 (haspref22_changes.j3 kq x3_16 x4_18 x5_16 x6_1 x7_1 ((rd_T33 l0_1 x7_1).f0) a0_0 l0_1 = some r) ∧ Aside0 (kq ≤ kj16) ∧ Aside0 (wc.heap[gb143]? = some (.cells #[.string a0_0, (.slice (some ad144) l0_1.length c0_1)] 25 (0, 0))) ∧ Aside0 (Below w.heap.size w wc))
                    case first =>
                      have H := HC19.out
                      clear HC19
                      by_cases c20 : ((rd_T33 l0_1 x7_1).f0) = 10
                      · rw [if_pos c20] at H
                        have c20b0 : (((rd_T33 l0_1 x7_1).f0) == 10) = true := beq_iff_eq.mpr c20
                        have c20b1 : (((rd_T33 l0_1 x7_1).f0) != 10) = false := bne_eq_false_iff_eq.mpr c20
                        clear c20
                        (first | rw [c20b0] | (simp only [i64_w, i32_w]; rw [c20b0]) | skip)
                        by_cases c21 : x5_16 < 0
                        · rw [if_pos c21] at H
                          have c21b0 : decide (x5_16 < 0) = true := decide_eq_true c21
                          clear c21
                          obtain rfl := Option.some.inj H
                          go_wp2
                          repeat (go_quiet (fail); try go_wp2)
                          go_ret
                          exact ⟨by first | rfl | (simp [errW_none, errW_some] <;> rfl) | (simp [*, errW_none, errW_some] <;> rfl), by repeat (first | (with_reducible first | exact HB.out | apply below_alloc | apply pw_below_drewN | apply below_drew1 | refine below_set ?_ GE143.out) | exact HB.out)⟩
                        · rw [if_neg c21] at H
                          have c21b0 : decide (x5_16 < 0) = false := decide_eq_false c21
                          clear c21
                          by_cases c22 : x5_16 = (wrap64 (x7_1 - 1))
                          · rw [if_pos c22] at H
                            have c22b0 : (x5_16 == (wrap64 (x7_1 - 1))) = true := beq_iff_eq.mpr c22
                            have c22b1 : (x5_16 != (wrap64 (x7_1 - 1))) = false := bne_eq_false_iff_eq.mpr c22
                            clear c22
                            have H' := Aside0.mk H
                            clear H
                            go_wp2
                            repeat (go_quiet (fail); try go_wp2)
                            go_meet
                            case rel => exact ⟨_, (wrap64 (x4_1 + 1)), (by first | rfl | (simp; done) | (simp [*]; done) | (simp; exact isEmpty_bne _) | (simp [*]; exact isEmpty_bne _)), H', ⟨by have := HK1.out; have := HJ4.out; have := HJ16.out; first | omega | exact Nat.le_refl _⟩, ⟨by (with_reducible repeat (first | refine blk_drewN ?_ _ | refine blk_drew ?_ | refine blk_alloc ?_ _)); exact BK143.out⟩, ⟨by repeat (first | (with_reducible first | exact HB.out | apply below_alloc | apply pw_below_drewN | apply below_drew1 | refine below_set ?_ GE143.out) | exact HB.out)⟩⟩
                          · rw [if_neg c22] at H
                            have c22b0 : (x5_16 == (wrap64 (x7_1 - 1))) = false := beq_eq_false_iff_ne.mpr c22
                            have c22b1 : (x5_16 != (wrap64 (x7_1 - 1))) = true := bne_iff_ne.mpr c22
                            obtain rfl := Option.some.inj H
                            go_wp2
                            repeat (go_quiet (fail); try go_wp2)
                            go_ret
                            exact ⟨by first | rfl | (simp [errW_none, errW_some] <;> rfl) | (simp [*, errW_none, errW_some] <;> rfl), by repeat (first | (with_reducible first | exact HB.out | apply below_alloc | apply pw_below_drewN | apply below_drew1 | refine below_set ?_ GE143.out) | exact HB.out)⟩
                      · rw [if_neg c20] at H
                        have c20b0 : (((rd_T33 l0_1 x7_1).f0) == 10) = false := beq_eq_false_iff_ne.mpr c20
                        have c20b1 : (((rd_T33 l0_1 x7_1).f0) != 10) = true := bne_iff_ne.mpr c20
                        (first | rw [c20b0] | (simp only [i64_w, i32_w]; rw [c20b0]) | skip)
                        have H' := Aside0.mk H
                        clear H
                        go_wp2
                        repeat (go_quiet (fail); try go_wp2)
                        go_meet
                        case rel => exact ⟨_, (x4_1), (by first | rfl | (simp; done) | (simp [*]; done) | (simp; exact isEmpty_bne _) | (simp [*]; exact isEmpty_bne _)), H', ⟨by have := HK1.out; have := HJ4.out; have := HJ16.out; first | omega | exact Nat.le_refl _⟩, ⟨by (with_reducible repeat (first | refine blk_drewN ?_ _ | refine blk_drew ?_ | refine blk_alloc ?_ _)); exact BK143.out⟩, ⟨by repeat (first | (with_reducible first | exact HB.out | apply below_alloc | apply pw_below_drewN | apply below_drew1 | refine below_set ?_ GE143.out) | exact HB.out)⟩⟩
                    case rest =>
                      clear HC19
                      try clear c1
                      try clear p1
                      try clear q1
                      try clear hx1
                      try clear c2
                      try clear p2
                      try clear c3
                      try clear c3b0
                      try clear c4
                      try clear c4b0
                      try clear p6
                      try clear c7
                      try clear c7b0
                      try clear c7b1
                      try clear c8
                      try clear c8b0
                      try clear c8b1
                      try clear c10
                      try clear c10b0
                      try clear c10b1
                      try clear c12
                      try clear c12b0
                      try clear c12b1
                      try clear c14
                      try clear p14
                      try clear q14
                      try clear hx14
                      try clear c16
                      try clear c17
                      try clear c18
                      try clear c18b0
                      try clear c18b1
                      try clear c20
                      try clear c20b0
                      try clear c20b1
                      try clear c21
                      try clear c21b0
                      try clear c22
                      try clear c22b0
                      try clear c22b1
                      try clear hcz11_0
                      try clear hcz11_1
                      try clear hcz13_0
                      try clear hcz13_1
                      try clear hcz14_0
                      try clear hcz14_1
                      try clear hcz15_0
                      try clear hcz15_1
                      try clear hcz6_0
                      try clear hcz6_1
                      try clear hcz9_0
                      try clear hcz9_1
                      try clear hfz11_0
                      try clear hfz11_1
                      try clear hfz13_0
                      try clear hfz13_1
                      try clear hfz14_0
                      try clear hfz14_1
                      try clear hfz15_0
                      try clear hfz15_1
                      try clear hfz6_0
                      try clear hfz6_1
                      try clear hfz9_0
                      try clear hfz9_1
                      try clear hx144_0
                      try clear hx144_1
                      try clear hx144_10
                      try clear hx144_11
                      try clear hx144_12
                      try clear hx144_13
                      try clear hx144_2
                      try clear hx144_3
                      try clear hx144_4
                      try clear hx144_5
                      try clear hx144_6
                      try clear hx144_7
                      try clear hx144_8
                      try clear hx144_9
                      try clear p1
                      try clear p14
                      try clear p144
                      try clear p2
                      try clear p6
                      try clear q1
                      try clear q14
                      try clear q144
                      obtain ⟨kq, x4_18, rfl, HA, HJ18, BK143, HB⟩ := hcut
                      cases kq with
                      | zero => exact absurd HA.out (by simp [haspref22_changes.j3])
                      | succ kj18 =>
                        have H := HA.out
                        clear HA
                        simp only [haspref22_changes.j3] at H
                        by_cases c23 : ((rd_T33 l0_1 x7_1).f0) = 6
                        · rw [if_pos c23] at H
                          have c23b0 : (((rd_T33 l0_1 x7_1).f0) == 6) = true := beq_iff_eq.mpr c23
                          have c23b1 : (((rd_T33 l0_1 x7_1).f0) != 6) = false := bne_eq_false_iff_eq.mpr c23
                          clear c23
                          by_cases c24 : x3_16 > 0
                          · rw [if_pos c24] at H
                            have c24b0 : decide (0 < x3_16) = true := decide_eq_true c24
                            clear c24
                            obtain rfl := Option.some.inj H
                            go_wp2
                            repeat (go_quiet (fail); try go_wp2)
                            go_ret
                            exact ⟨by first | rfl | (simp [errW_none, errW_some] <;> rfl) | (simp [*, errW_none, errW_some] <;> rfl), by repeat (first | (with_reducible first | exact HB.out | apply below_alloc | apply pw_below_drewN | apply below_drew1 | refine below_set ?_ GE143.out) | exact HB.out)⟩
                          · rw [if_neg c24] at H
                            have c24b0 : decide (0 < x3_16) = false := decide_eq_false c24
                            clear c24
                            have H' := Aside0.mk H
                            clear H
                            go_wp2
                            repeat (go_quiet (fail); try go_wp2)
                            go_roundg kj18
                            case measure => have := HK1.out; have := HJ4.out; have := HJ16.out; have := HJ18.out; omega
                            case rel => exact ⟨(x3_16), (x4_18), (x5_16), (wrap64 (x6_1 + 1)), (wrap64 (x7_1 + 1)), (by first | rfl | (simp; done) | (simp [*]; done) | (simp; exact isEmpty_bne _) | (simp [*]; exact isEmpty_bne _)), (by first | rfl | (simp; done) | (simp [*]; done) | (simp; exact isEmpty_bne _) | (simp [*]; exact isEmpty_bne _)), (by first | rfl | (simp; done) | (simp [*]; done) | (simp; exact isEmpty_bne _) | (simp [*]; exact isEmpty_bne _)), (by first | rfl | (simp; done) | (simp [*]; done) | (simp; exact isEmpty_bne _) | (simp [*]; exact isEmpty_bne _)), (by first | rfl | (simp; done) | (simp [*]; done) | (simp; exact isEmpty_bne _) | (simp [*]; exact isEmpty_bne _)), H', ⟨by have := HK1.out; have := HJ4.out; have := HJ16.out; have := HJ18.out; omega⟩, ⟨by (with_reducible repeat (first | refine blk_drewN ?_ _ | refine blk_drew ?_ | refine blk_alloc ?_ _)); exact BK143.out⟩, ⟨by repeat (first | (with_reducible first | exact HB.out | apply below_alloc | apply pw_below_drewN | apply below_drew1 | refine below_set ?_ GE143.out) | exact HB.out)⟩⟩
                        · rw [if_neg c23] at H
                          have c23b0 : (((rd_T33 l0_1 x7_1).f0) == 6) = false := beq_eq_false_iff_ne.mpr c23
                          have c23b1 : (((rd_T33 l0_1 x7_1).f0) != 6) = true := bne_iff_ne.mpr c23
                          by_cases c25 : ((rd_T33 l0_1 x7_1).f0) = 7
                          · rw [if_pos c25] at H
                            have c25b0 : (((rd_T33 l0_1 x7_1).f0) == 7) = true := beq_iff_eq.mpr c25
                            have c25b1 : (((rd_T33 l0_1 x7_1).f0) != 7) = false := bne_eq_false_iff_eq.mpr c25
                            clear c25
                            by_cases c26 : x3_16 > 0
                            · rw [if_pos c26] at H
                              have c26b0 : decide (0 < x3_16) = true := decide_eq_true c26
                              clear c26
                              obtain rfl := Option.some.inj H
                              go_wp2
                              repeat (go_quiet (fail); try go_wp2)
                              go_ret
                              exact ⟨by first | rfl | (simp [errW_none, errW_some] <;> rfl) | (simp [*, errW_none, errW_some] <;> rfl), by repeat (first | (with_reducible first | exact HB.out | apply below_alloc | apply pw_below_drewN | apply below_drew1 | refine below_set ?_ GE143.out) | exact HB.out)⟩
                            · rw [if_neg c26] at H
                              have c26b0 : decide (0 < x3_16) = false := decide_eq_false c26
                              clear c26
                              have H' := Aside0.mk H
                              clear H
                              go_wp2
                              repeat (go_quiet (fail); try go_wp2)
                              go_roundg kj18
                              case measure => have := HK1.out; have := HJ4.out; have := HJ16.out; have := HJ18.out; omega
                              case rel => exact ⟨(x3_16), (x4_18), (x5_16), (x6_1), (wrap64 (x7_1 + 1)), (by first | rfl | (simp; done) | (simp [*]; done) | (simp; exact isEmpty_bne _) | (simp [*]; exact isEmpty_bne _)), (by first | rfl | (simp; done) | (simp [*]; done) | (simp; exact isEmpty_bne _) | (simp [*]; exact isEmpty_bne _)), (by first | rfl | (simp; done) | (simp [*]; done) | (simp; exact isEmpty_bne _) | (simp [*]; exact isEmpty_bne _)), (by first | rfl | (simp; done) | (simp [*]; done) | (simp; exact isEmpty_bne _) | (simp [*]; exact isEmpty_bne _)), (by first | rfl | (simp; done) | (simp [*]; done) | (simp; exact isEmpty_bne _) | (simp [*]; exact isEmpty_bne _)), H', ⟨by have := HK1.out; have := HJ4.out; have := HJ16.out; have := HJ18.out; omega⟩, ⟨by (with_reducible repeat (first | refine blk_drewN ?_ _ | refine blk_drew ?_ | refine blk_alloc ?_ _)); exact BK143.out⟩, ⟨by repeat (first | (with_reducible first | exact HB.out | apply below_alloc | apply pw_below_drewN | apply below_drew1 | refine below_set ?_ GE143.out) | exact HB.out)⟩⟩
                          · rw [if_neg c25] at H
                            have c25b0 : (((rd_T33 l0_1 x7_1).f0) == 7) = false := beq_eq_false_iff_ne.mpr c25
                            have c25b1 : (((rd_T33 l0_1 x7_1).f0) != 7) = true := bne_iff_ne.mpr c25
                            have H' := Aside0.mk H
                            clear H
                            go_wp2
                            repeat (go_quiet (fail); try go_wp2)
                            go_roundg kj18
                            case measure => have := HK1.out; have := HJ4.out; have := HJ16.out; have := HJ18.out; omega
                            case rel => exact ⟨(x3_16), (x4_18), (x5_16), (x6_1), (wrap64 (x7_1 + 1)), (by first | rfl | (simp; done) | (simp [*]; done) | (simp; exact isEmpty_bne _) | (simp [*]; exact isEmpty_bne _)), (by first | rfl | (simp; done) | (simp [*]; done) | (simp; exact isEmpty_bne _) | (simp [*]; exact isEmpty_bne _)), (by first | rfl | (simp; done) | (simp [*]; done) | (simp; exact isEmpty_bne _) | (simp [*]; exact isEmpty_bne _)), (by first | rfl | (simp; done) | (simp [*]; done) | (simp; exact isEmpty_bne _) | (simp [*]; exact isEmpty_bne _)), (by first | rfl | (simp; done) | (simp [*]; done) | (simp; exact isEmpty_bne _) | (simp [*]; exact isEmpty_bne _)), H', ⟨by have := HK1.out; have := HJ4.out; have := HJ16.out; have := HJ18.out; omega⟩, ⟨by (with_reducible repeat (first | refine blk_drewN ?_ _ | refine blk_drew ?_ | refine blk_alloc ?_ _)); exact BK143.out⟩, ⟨by repeat (first | (with_reducible first | exact HB.out | apply below_alloc | apply pw_below_drewN | apply below_drew1 | refine below_set ?_ GE143.out) | exact HB.out)⟩⟩
        · rw [if_neg c4] at H
          exact absurd H (by simp)
      · rw [if_neg c3] at H
        have c3b0 : decide (x7_1 < (l0_1.length : Int)) = false := decide_eq_false c3
        clear c3
        by_cases c27 : a0_0.toList = ([] : List UInt8)
        · rw [if_pos c27] at H
          have c27b0 : (a0_0.toList == ([] : List UInt8)) = true := beq_iff_eq.mpr c27
          have c27b1 : (a0_0.toList != ([] : List UInt8)) = false := bne_eq_false_iff_eq.mpr c27
          clear c27
          obtain rfl := Option.some.inj H
          have hcz28_0 : wr.cell? ⟨gb143, 0, none⟩ = some (.string a0_0) := (blk_cell BK143.out 0).trans rfl
          have hcz28_1 : wr.cell? ⟨gb143, 1, none⟩ = some (.slice A0_1 l0_1.length c0_1) := (blk_cell BK143.out 1).trans rfl
          have hfz28_0 := blk_frozen BK143.out 0
          have hfz28_1 := blk_frozen BK143.out 1
          go_wp2
          repeat (go_quiet (fail); try go_wp2)
          go_ret
          exact ⟨by first | rfl | (simp [errW_none, errW_some] <;> rfl) | (simp [*, errW_none, errW_some] <;> rfl), by repeat (first | (with_reducible first | exact HB.out | apply below_alloc | apply pw_below_drewN | apply below_drew1 | refine below_set ?_ GE143.out) | exact HB.out)⟩
        · rw [if_neg c27] at H
          have c27b0 : (a0_0.toList == ([] : List UInt8)) = false := beq_eq_false_iff_ne.mpr c27
          have c27b1 : (a0_0.toList != ([] : List UInt8)) = true := bne_iff_ne.mpr c27
          have HC29 := Aside0.mk H
          clear H
          have hcz30_0 : wr.cell? ⟨gb143, 0, none⟩ = some (.string a0_0) := (blk_cell BK143.out 0).trans rfl
          have hcz30_1 : wr.cell? ⟨gb143, 1, none⟩ = some (.slice A0_1 l0_1.length c0_1) := (blk_cell BK143.out 1).trans rfl
          have hfz30_0 := blk_frozen BK143.out 0
          have hfz30_1 := blk_frozen BK143.out 1
          go_upto_region 21 with (fail)
          repeat (go_quiet (fail); go_upto_region 21 with (fail))
          go_cut [90] (fun v90 wc => ∃ (kq : Nat) (x90_28 : Bool), v90 = .bool x90_28 ∧ Aside0 (haspref22_changes.j4 kq x6_1 x90_28 a0_0 l0_1 = some r) ∧ Aside0 (kq ≤ k1) ∧ Aside0 (wc.heap[gb143]? = some (.cells #[.string a0_0, (.slice A0_1 l0_1.length c0_1)] 25 (0, 0))) ∧ Aside0 (Below w.heap.size w wc))
          case first =>
            have H := HC29.out
            clear HC29
            by_cases c31 : x3_1 = 1
            · rw [if_pos c31] at H
              have c31b0 : (x3_1 == 1) = true := beq_iff_eq.mpr c31
              have c31b1 : (x3_1 != 1) = false := bne_eq_false_iff_eq.mpr c31
              clear c31
              (first | rw [c31b0] | (simp only [i64_w, i32_w]; rw [c31b0]) | skip)
              by_cases c32 : x4_1 = 1
              · rw [if_pos c32] at H
                have c32b0 : (x4_1 == 1) = true := beq_iff_eq.mpr c32
                have c32b1 : (x4_1 != 1) = false := bne_eq_false_iff_eq.mpr c32
                clear c32
                replace H := Option.bind_eq_some_iff.mp H
                obtain ⟨t145, A330, H⟩ := H
                replace H : ((haspref09_Covers.f t145 2).bind fun t146 => (haspref22_changes.j4 k1 x6_1 (!t146) a0_0 l0_1)) = some r := H
                have A33 := Aside0.mk A330
                clear A330
                replace H := Option.bind_eq_some_iff.mp H
                obtain ⟨t146, A340, H⟩ := H
                replace H : (haspref22_changes.j4 k1 x6_1 (!t146) a0_0 l0_1) = some r := H
                have A34 := Aside0.mk A340
                clear A340
                have H' := Aside0.mk H
                clear H
                have hcz35_0 : wr.cell? ⟨gb143, 0, none⟩ = some (.string a0_0) := (blk_cell BK143.out 0).trans rfl
                have hcz35_1 : wr.cell? ⟨gb143, 1, none⟩ = some (.slice A0_1 l0_1.length c0_1) := (blk_cell BK143.out 1).trans rfl
                have hfz35_0 := blk_frozen BK143.out 0
                have hfz35_1 := blk_frozen BK143.out 1
                go_wp2_with (first | (go_at_call 30; (with_reducible refine (haspref22_Mode.calls k1 a0_0 _ _ l0_1 a0_0 t145 _ ?side1 ?side2 A33.out).mono ?_); (case side1 => repeat (first | exact (Kd.C_below HR0_1.out HB.out) | (with_reducible refine Kd.C_alloc ?_ _) | (with_reducible refine Kd.C_drewN ?_ _) | (with_reducible refine Kd.C_drew ?_))); (case side2 => exact HC0_1.out); rintro e w36 ⟨rfl, hb⟩; have n0_ := Aside0.mk (blk_below (g := gb143) (o := .cells #[.string a0_0, .slice A0_1 l0_1.length c0_1] 25 (0, 0)) (by (with_reducible repeat (first | refine blk_drewN ?_ _ | refine blk_drew ?_ | refine blk_alloc ?_ _)); exact BK143.out) hb); have n1_ := Aside0.mk (below_step (by repeat (first | (with_reducible first | exact HB.out | apply below_alloc | apply pw_below_drewN | apply below_drew1 | refine below_set ?_ GE143.out) | exact HB.out)) hb); clear BK143; clear HB; have BK143 := n0_; have HB := n1_; clear n0_ n1_; (try clear hb); (try clear hb2); (try clear hk); (try clear hi)) | (go_at_call 31; (with_reducible refine (haspref09_Covers.calls t145 2 t146 _ A34.out).mono ?_); rintro e w37 ⟨rfl, hb⟩; have n0_ := Aside0.mk (blk_below (g := gb143) (o := .cells #[.string a0_0, .slice A0_1 l0_1.length c0_1] 25 (0, 0)) (by (with_reducible repeat (first | refine blk_drewN ?_ _ | refine blk_drew ?_ | refine blk_alloc ?_ _)); exact BK143.out) hb); have n1_ := Aside0.mk (below_step (by repeat (first | (with_reducible first | exact HB.out | apply below_alloc | apply pw_below_drewN | apply below_drew1 | refine below_set ?_ GE143.out) | exact HB.out)) hb); clear BK143; clear HB; have BK143 := n0_; have HB := n1_; clear n0_ n1_; (try clear hb); (try clear hb2); (try clear hk); (try clear hi)))
                repeat (go_quiet (first | (go_at_call 30; (with_reducible refine (haspref22_Mode.calls k1 a0_0 _ _ l0_1 a0_0 t145 _ ?side1 ?side2 A33.out).mono ?_); (case side1 => repeat (first | exact (Kd.C_below HR0_1.out HB.out) | (with_reducible refine Kd.C_alloc ?_ _) | (with_reducible refine Kd.C_drewN ?_ _) | (with_reducible refine Kd.C_drew ?_))); (case side2 => exact HC0_1.out); rintro e w36 ⟨rfl, hb⟩; have n0_ := Aside0.mk (blk_below (g := gb143) (o := .cells #[.string a0_0, .slice A0_1 l0_1.length c0_1] 25 (0, 0)) (by (with_reducible repeat (first | refine blk_drewN ?_ _ | refine blk_drew ?_ | refine blk_alloc ?_ _)); exact BK143.out) hb); have n1_ := Aside0.mk (below_step (by repeat (first | (with_reducible first | exact HB.out | apply below_alloc | apply pw_below_drewN | apply below_drew1 | refine below_set ?_ GE143.out) | exact HB.out)) hb); clear BK143; clear HB; have BK143 := n0_; have HB := n1_; clear n0_ n1_; (try clear hb); (try clear hb2); (try clear hk); (try clear hi)) | (go_at_call 31; (with_reducible refine (haspref09_Covers.calls t145 2 t146 _ A34.out).mono ?_); rintro e w37 ⟨rfl, hb⟩; have n0_ := Aside0.mk (blk_below (g := gb143) (o := .cells #[.string a0_0, .slice A0_1 l0_1.length c0_1] 25 (0, 0)) (by (with_reducible repeat (first | refine blk_drewN ?_ _ | refine blk_drew ?_ | refine blk_alloc ?_ _)); exact BK143.out) hb); have n1_ := Aside0.mk (below_step (by repeat (first | (with_reducible first | exact HB.out | apply below_alloc | apply pw_below_drewN | apply below_drew1 | refine below_set ?_ GE143.out) | exact HB.out)) hb); clear BK143; clear HB; have BK143 := n0_; have HB := n1_; clear n0_ n1_; (try clear hb); (try clear hb2); (try clear hk); (try clear hi))); try go_wp2_with (first | (go_at_call 30; (with_reducible refine (haspref22_Mode.calls k1 a0_0 _ _ l0_1 a0_0 t145 _ ?side1 ?side2 A33.out).mono ?_); (case side1 => repeat (first | exact (Kd.C_below HR0_1.out HB.out) | (with_reducible refine Kd.C_alloc ?_ _) | (with_reducible refine Kd.C_drewN ?_ _) | (with_reducible refine Kd.C_drew ?_))); (case side2 => exact HC0_1.out); rintro e w36 ⟨rfl, hb⟩; have n0_ := Aside0.mk (blk_below (g := gb143) (o := .cells #[.string a0_0, .slice A0_1 l0_1.length c0_1] 25 (0, 0)) (by (with_reducible repeat (first | refine blk_drewN ?_ _ | refine blk_drew ?_ | refine blk_alloc ?_ _)); exact BK143.out) hb); have n1_ := Aside0.mk (below_step (by repeat (first | (with_reducible first | exact HB.out | apply below_alloc | apply pw_below_drewN | apply below_drew1 | refine below_set ?_ GE143.out) | exact HB.out)) hb); clear BK143; clear HB; have BK143 := n0_; have HB := n1_; clear n0_ n1_; (try clear hb); (try clear hb2); (try clear hk); (try clear hi)) | (go_at_call 31; (with_reducible refine (haspref09_Covers.calls t145 2 t146 _ A34.out).mono ?_); rintro e w37 ⟨rfl, hb⟩; have n0_ := Aside0.mk (blk_below (g := gb143) (o := .cells #[.string a0_0, .slice A0_1 l0_1.length c0_1] 25 (0, 0)) (by (with_reducible repeat (first | refine blk_drewN ?_ _ | refine blk_drew ?_ | refine blk_alloc ?_ _)); exact BK143.out) hb); have n1_ := Aside0.mk (below_step (by repeat (first | (with_reducible first | exact HB.out | apply below_alloc | apply pw_below_drewN | apply below_drew1 | refine below_set ?_ GE143.out) | exact HB.out)) hb); clear BK143; clear HB; have BK143 := n0_; have HB := n1_; clear n0_ n1_; (try clear hb); (try clear hb2); (try clear hk); (try clear hi))))
                go_meet
                case rel => exact ⟨_, (!t146), (by first | rfl | (simp; done) | (simp [*]; done) | (simp; exact isEmpty_bne _) | (simp [*]; exact isEmpty_bne _)), H', ⟨by have := HK1.out; first | omega | exact Nat.le_refl _⟩, ⟨by (with_reducible repeat (first | refine blk_drewN ?_ _ | refine blk_drew ?_ | refine blk_alloc ?_ _)); exact BK143.out⟩, ⟨by repeat (first | (with_reducible first | exact HB.out | apply below_alloc | apply pw_below_drewN | apply below_drew1 | refine below_set ?_ GE143.out) | exact HB.out)⟩⟩
              · rw [if_neg c32] at H
                have c32b0 : (x4_1 == 1) = false := beq_eq_false_iff_ne.mpr c32
                have c32b1 : (x4_1 != 1) = true := bne_iff_ne.mpr c32
                have H' := Aside0.mk H
                clear H
                go_wp2
                repeat (go_quiet (fail); try go_wp2)
                go_meet
                case rel => exact ⟨_, (true), (by first | rfl | (simp; done) | (simp [*]; done) | (simp; exact isEmpty_bne _) | (simp [*]; exact isEmpty_bne _)), H', ⟨by have := HK1.out; first | omega | exact Nat.le_refl _⟩, ⟨by (with_reducible repeat (first | refine blk_drewN ?_ _ | refine blk_drew ?_ | refine blk_alloc ?_ _)); exact BK143.out⟩, ⟨by repeat (first | (with_reducible first | exact HB.out | apply below_alloc | apply pw_below_drewN | apply below_drew1 | refine below_set ?_ GE143.out) | exact HB.out)⟩⟩
            · rw [if_neg c31] at H
              have c31b0 : (x3_1 == 1) = false := beq_eq_false_iff_ne.mpr c31
              have c31b1 : (x3_1 != 1) = true := bne_iff_ne.mpr c31
              (first | rw [c31b0] | (simp only [i64_w, i32_w]; rw [c31b0]) | skip)
              have H' := Aside0.mk H
              clear H
              go_wp2
              repeat (go_quiet (fail); try go_wp2)
              go_meet
              case rel => exact ⟨_, (true), (by first | rfl | (simp; done) | (simp [*]; done) | (simp; exact isEmpty_bne _) | (simp [*]; exact isEmpty_bne _)), H', ⟨by have := HK1.out; first | omega | exact Nat.le_refl _⟩, ⟨by (with_reducible repeat (first | refine blk_drewN ?_ _ | refine blk_drew ?_ | refine blk_alloc ?_ _)); exact BK143.out⟩, ⟨by repeat (first | (with_reducible first | exact HB.out | apply below_alloc | apply pw_below_drewN | apply below_drew1 | refine below_set ?_ GE143.out) | exact HB.out)⟩⟩
          case rest =>
            clear HC29
            try clear c1
            try clear p1
            try clear q1
            try clear hx1
            try clear c2
            try clear p2
            try clear c3
            try clear c3b0
            try clear c4
            try clear c4b0
            try clear p6
            try clear c7
            try clear c7b0
            try clear c7b1
            try clear c8
            try clear c8b0
            try clear c8b1
            try clear c10
            try clear c10b0
            try clear c10b1
            try clear c12
            try clear c12b0
            try clear c12b1
            try clear c14
            try clear p14
            try clear q14
            try clear hx14
            try clear c16
            try clear c17
            try clear c18
            try clear c18b0
            try clear c18b1
            try clear c20
            try clear c20b0
            try clear c20b1
            try clear c21
            try clear c21b0
            try clear c22
            try clear c22b0
            try clear c22b1
            try clear c23
            try clear c23b0
            try clear c23b1
            try clear c24
            try clear c24b0
            try clear c25
            try clear c25b0
            try clear c25b1
            try clear c26
            try clear c26b0
            try clear c27
            try clear c27b0
            try clear c27b1
            try clear c31
            try clear c31b0
            try clear c31b1
            try clear c32
            try clear c32b0
            try clear c32b1
            try clear hcz11_0
            try clear hcz11_1
            try clear hcz13_0
            try clear hcz13_1
            try clear hcz14_0
            try clear hcz14_1
            try clear hcz15_0
            try clear hcz15_1
            try clear hcz28_0
            try clear hcz28_1
            try clear hcz30_0
            try clear hcz30_1
            try clear hcz35_0
            try clear hcz35_1
            try clear hcz6_0
            try clear hcz6_1
            try clear hcz9_0
            try clear hcz9_1
            try clear hfz11_0
            try clear hfz11_1
            try clear hfz13_0
            try clear hfz13_1
            try clear hfz14_0
            try clear hfz14_1
            try clear hfz15_0
            try clear hfz15_1
            try clear hfz28_0
            try clear hfz28_1
            try clear hfz30_0
            try clear hfz30_1
            try clear hfz35_0
            try clear hfz35_1
            try clear hfz6_0
            try clear hfz6_1
            try clear hfz9_0
            try clear hfz9_1
            try clear hx144_0
            try clear hx144_1
            try clear hx144_10
            try clear hx144_11
            try clear hx144_12
            try clear hx144_13
            try clear hx144_2
            try clear hx144_3
            try clear hx144_4
            try clear hx144_5
            try clear hx144_6
            try clear hx144_7
            try clear hx144_8
            try clear hx144_9
            try clear p1
            try clear p14
            try clear p144
            try clear p2
            try clear p6
            try clear q1
            try clear q14
            try clear q144
            obtain ⟨kq, x90_28, rfl, HA, HJ28, BK143, HB⟩ := hcut
            cases kq with
            | zero => exact absurd HA.out (by simp [haspref22_changes.j4])
            | succ kj28 =>
              have H := HA.out
              clear HA
              simp only [haspref22_changes.j4] at H
              by_cases c38 : x90_28 = true
              · subst c38
                have H1 : (some false) = some r := by rw [if_pos rfl] at H; exact H
                clear H
                have H := H1
                clear H1
                obtain rfl := Option.some.inj H
                go_wp2
                repeat (go_quiet (fail); try go_wp2)
                go_ret
                exact ⟨by first | rfl | (simp [errW_none, errW_some] <;> rfl) | (simp [*, errW_none, errW_some] <;> rfl), by repeat (first | (with_reducible first | exact HB.out | apply below_alloc | apply pw_below_drewN | apply below_drew1 | refine below_set ?_ GE143.out) | exact HB.out)⟩
              · replace c38 := Bool.eq_false_iff.mpr c38
                subst c38
                have H1 : (if x6_1 = 0 then (some true) else ((haspref22_Opened.f kj28 a0_0 l0_1 0).bind fun t147 => (if t147 < 0 then (some false) else (haspref22_changes.l1 kj28 t147 0 a0_0 l0_1)))) = some r := by rw [if_neg (show ¬ (false = true) by decide)] at H; exact H
                clear H
                have H := H1
                clear H1
                by_cases c39 : x6_1 = 0
                · rw [if_pos c39] at H
                  have c39b0 : (x6_1 == 0) = true := beq_iff_eq.mpr c39
                  have c39b1 : (x6_1 != 0) = false := bne_eq_false_iff_eq.mpr c39
                  clear c39
                  obtain rfl := Option.some.inj H
                  go_wp2
                  repeat (go_quiet (fail); try go_wp2)
                  go_ret
                  exact ⟨by first | rfl | (simp [errW_none, errW_some] <;> rfl) | (simp [*, errW_none, errW_some] <;> rfl), by repeat (first | (with_reducible first | exact HB.out | apply below_alloc | apply pw_below_drewN | apply below_drew1 | refine below_set ?_ GE143.out) | exact HB.out)⟩
                · rw [if_neg c39] at H
                  have c39b0 : (x6_1 == 0) = false := beq_eq_false_iff_ne.mpr c39
                  have c39b1 : (x6_1 != 0) = true := bne_iff_ne.mpr c39
                  replace H := Option.bind_eq_some_iff.mp H
                  obtain ⟨t147, A400, H⟩ := H
                  replace H : (if t147 < 0 then (some false) else (haspref22_changes.l1 kj28 t147 0 a0_0 l0_1)) = some r := H
                  have A40 := Aside0.mk A400
                  clear A400
                  by_cases c41 : t147 < 0
                  · rw [if_pos c41] at H
                    have c41b0 : decide (t147 < 0) = true := decide_eq_true c41
                    clear c41
                    obtain rfl := Option.some.inj H
                    have hcz42_0 : wc.cell? ⟨gb143, 0, none⟩ = some (.string a0_0) := (blk_cell BK143.out 0).trans rfl
                    have hcz42_1 : wc.cell? ⟨gb143, 1, none⟩ = some (.slice A0_1 l0_1.length c0_1) := (blk_cell BK143.out 1).trans rfl
                    have hfz42_0 := blk_frozen BK143.out 0
                    have hfz42_1 := blk_frozen BK143.out 1
                    go_wp2_with (first | (go_at_call 29; (with_reducible refine (haspref22_Opened.calls kj28 a0_0 _ _ l0_1 0 t147 _ ?side1 ?side2 A40.out).mono ?_); (case side1 => repeat (first | exact (Kd.C_below HR0_1.out HB.out) | (with_reducible refine Kd.C_alloc ?_ _) | (with_reducible refine Kd.C_drewN ?_ _) | (with_reducible refine Kd.C_drew ?_))); (case side2 => exact HC0_1.out); rintro e w43 ⟨rfl, hb⟩; have n0_ := Aside0.mk (blk_below (g := gb143) (o := .cells #[.string a0_0, .slice A0_1 l0_1.length c0_1] 25 (0, 0)) (by (with_reducible repeat (first | refine blk_drewN ?_ _ | refine blk_drew ?_ | refine blk_alloc ?_ _)); exact BK143.out) hb); have n1_ := Aside0.mk (below_step (by repeat (first | (with_reducible first | exact HB.out | apply below_alloc | apply pw_below_drewN | apply below_drew1 | refine below_set ?_ GE143.out) | exact HB.out)) hb); clear BK143; clear HB; have BK143 := n0_; have HB := n1_; clear n0_ n1_; (try clear hb); (try clear hb2); (try clear hk); (try clear hi)))
                    repeat (go_quiet (first | (go_at_call 29; (with_reducible refine (haspref22_Opened.calls kj28 a0_0 _ _ l0_1 0 t147 _ ?side1 ?side2 A40.out).mono ?_); (case side1 => repeat (first | exact (Kd.C_below HR0_1.out HB.out) | (with_reducible refine Kd.C_alloc ?_ _) | (with_reducible refine Kd.C_drewN ?_ _) | (with_reducible refine Kd.C_drew ?_))); (case side2 => exact HC0_1.out); rintro e w43 ⟨rfl, hb⟩; have n0_ := Aside0.mk (blk_below (g := gb143) (o := .cells #[.string a0_0, .slice A0_1 l0_1.length c0_1] 25 (0, 0)) (by (with_reducible repeat (first | refine blk_drewN ?_ _ | refine blk_drew ?_ | refine blk_alloc ?_ _)); exact BK143.out) hb); have n1_ := Aside0.mk (below_step (by repeat (first | (with_reducible first | exact HB.out | apply below_alloc | apply pw_below_drewN | apply below_drew1 | refine below_set ?_ GE143.out) | exact HB.out)) hb); clear BK143; clear HB; have BK143 := n0_; have HB := n1_; clear n0_ n1_; (try clear hb); (try clear hb2); (try clear hk); (try clear hi))); try go_wp2_with (first | (go_at_call 29; (with_reducible refine (haspref22_Opened.calls kj28 a0_0 _ _ l0_1 0 t147 _ ?side1 ?side2 A40.out).mono ?_); (case side1 => repeat (first | exact (Kd.C_below HR0_1.out HB.out) | (with_reducible refine Kd.C_alloc ?_ _) | (with_reducible refine Kd.C_drewN ?_ _) | (with_reducible refine Kd.C_drew ?_))); (case side2 => exact HC0_1.out); rintro e w43 ⟨rfl, hb⟩; have n0_ := Aside0.mk (blk_below (g := gb143) (o := .cells #[.string a0_0, .slice A0_1 l0_1.length c0_1] 25 (0, 0)) (by (with_reducible repeat (first | refine blk_drewN ?_ _ | refine blk_drew ?_ | refine blk_alloc ?_ _)); exact BK143.out) hb); have n1_ := Aside0.mk (below_step (by repeat (first | (with_reducible first | exact HB.out | apply below_alloc | apply pw_below_drewN | apply below_drew1 | refine below_set ?_ GE143.out) | exact HB.out)) hb); clear BK143; clear HB; have BK143 := n0_; have HB := n1_; clear n0_ n1_; (try clear hb); (try clear hb2); (try clear hk); (try clear hi))))
                    go_ret
                    exact ⟨by first | rfl | (simp [errW_none, errW_some] <;> rfl) | (simp [*, errW_none, errW_some] <;> rfl), by repeat (first | (with_reducible first | exact HB.out | apply below_alloc | apply pw_below_drewN | apply below_drew1 | refine below_set ?_ GE143.out) | exact HB.out)⟩
                  · rw [if_neg c41] at H
                    have c41b0 : decide (t147 < 0) = false := decide_eq_false c41
                    clear c41
                    have H' := Aside0.mk H
                    clear H
                    have hcz44_0 : wc.cell? ⟨gb143, 0, none⟩ = some (.string a0_0) := (blk_cell BK143.out 0).trans rfl
                    have hcz44_1 : wc.cell? ⟨gb143, 1, none⟩ = some (.slice A0_1 l0_1.length c0_1) := (blk_cell BK143.out 1).trans rfl
                    have hfz44_0 := blk_frozen BK143.out 0
                    have hfz44_1 := blk_frozen BK143.out 1
                    go_wp2_with (first | (go_at_call 29; (with_reducible refine (haspref22_Opened.calls kj28 a0_0 _ _ l0_1 0 t147 _ ?side1 ?side2 A40.out).mono ?_); (case side1 => repeat (first | exact (Kd.C_below HR0_1.out HB.out) | (with_reducible refine Kd.C_alloc ?_ _) | (with_reducible refine Kd.C_drewN ?_ _) | (with_reducible refine Kd.C_drew ?_))); (case side2 => exact HC0_1.out); rintro e w45 ⟨rfl, hb⟩; have n0_ := Aside0.mk (blk_below (g := gb143) (o := .cells #[.string a0_0, .slice A0_1 l0_1.length c0_1] 25 (0, 0)) (by (with_reducible repeat (first | refine blk_drewN ?_ _ | refine blk_drew ?_ | refine blk_alloc ?_ _)); exact BK143.out) hb); have n1_ := Aside0.mk (below_step (by repeat (first | (with_reducible first | exact HB.out | apply below_alloc | apply pw_below_drewN | apply below_drew1 | refine below_set ?_ GE143.out) | exact HB.out)) hb); clear BK143; clear HB; have BK143 := n0_; have HB := n1_; clear n0_ n1_; (try clear hb); (try clear hb2); (try clear hk); (try clear hi)))
                    repeat (go_quiet (first | (go_at_call 29; (with_reducible refine (haspref22_Opened.calls kj28 a0_0 _ _ l0_1 0 t147 _ ?side1 ?side2 A40.out).mono ?_); (case side1 => repeat (first | exact (Kd.C_below HR0_1.out HB.out) | (with_reducible refine Kd.C_alloc ?_ _) | (with_reducible refine Kd.C_drewN ?_ _) | (with_reducible refine Kd.C_drew ?_))); (case side2 => exact HC0_1.out); rintro e w45 ⟨rfl, hb⟩; have n0_ := Aside0.mk (blk_below (g := gb143) (o := .cells #[.string a0_0, .slice A0_1 l0_1.length c0_1] 25 (0, 0)) (by (with_reducible repeat (first | refine blk_drewN ?_ _ | refine blk_drew ?_ | refine blk_alloc ?_ _)); exact BK143.out) hb); have n1_ := Aside0.mk (below_step (by repeat (first | (with_reducible first | exact HB.out | apply below_alloc | apply pw_below_drewN | apply below_drew1 | refine below_set ?_ GE143.out) | exact HB.out)) hb); clear BK143; clear HB; have BK143 := n0_; have HB := n1_; clear n0_ n1_; (try clear hb); (try clear hb2); (try clear hk); (try clear hi))); try go_wp2_with (first | (go_at_call 29; (with_reducible refine (haspref22_Opened.calls kj28 a0_0 _ _ l0_1 0 t147 _ ?side1 ?side2 A40.out).mono ?_); (case side1 => repeat (first | exact (Kd.C_below HR0_1.out HB.out) | (with_reducible refine Kd.C_alloc ?_ _) | (with_reducible refine Kd.C_drewN ?_ _) | (with_reducible refine Kd.C_drew ?_))); (case side2 => exact HC0_1.out); rintro e w45 ⟨rfl, hb⟩; have n0_ := Aside0.mk (blk_below (g := gb143) (o := .cells #[.string a0_0, .slice A0_1 l0_1.length c0_1] 25 (0, 0)) (by (with_reducible repeat (first | refine blk_drewN ?_ _ | refine blk_drew ?_ | refine blk_alloc ?_ _)); exact BK143.out) hb); have n1_ := Aside0.mk (below_step (by repeat (first | (with_reducible first | exact HB.out | apply below_alloc | apply pw_below_drewN | apply below_drew1 | refine below_set ?_ GE143.out) | exact HB.out)) hb); clear BK143; clear HB; have BK143 := n0_; have HB := n1_; clear n0_ n1_; (try clear hb); (try clear hb2); (try clear hk); (try clear hi))))
                    go_loopg [10] kj28 (fun kq v10 w' => ∃ (x10_3 : Int), v10 = .int .i64 x10_3 ∧ Aside0 (haspref22_changes.l1 kq t147 x10_3 a0_0 l0_1 = some r) ∧ Aside0 (kq ≤ kj28) ∧ Aside0 (w'.heap[gb143]? = some (.cells #[.string a0_0, (.slice A0_1 l0_1.length c0_1)] 25 (0, 0))) ∧ Aside0 (Below w.heap.size w w'))
                    case atStart => exact ⟨(0), (by first | rfl | (simp; done) | (simp [*]; done) | (simp; exact isEmpty_bne _) | (simp [*]; exact isEmpty_bne _)), H', ⟨Nat.le_refl _⟩, ⟨by (with_reducible repeat (first | refine blk_drewN ?_ _ | refine blk_drew ?_ | refine blk_alloc ?_ _)); exact BK143.out⟩, ⟨by repeat (first | (with_reducible first | exact HB.out | apply below_alloc | apply pw_below_drewN | apply below_drew1 | refine below_set ?_ GE143.out) | exact HB.out)⟩⟩
                    case round =>
                      clear H'
                      try clear c1
                      try clear p1
                      try clear q1
                      try clear hx1
                      try clear c2
                      try clear p2
                      try clear c3
                      try clear c3b0
                      try clear c4
                      try clear c4b0
                      try clear p6
                      try clear c7
                      try clear c7b0
                      try clear c7b1
                      try clear c8
                      try clear c8b0
                      try clear c8b1
                      try clear c10
                      try clear c10b0
                      try clear c10b1
                      try clear c12
                      try clear c12b0
                      try clear c12b1
                      try clear c14
                      try clear p14
                      try clear q14
                      try clear hx14
                      try clear c16
                      try clear c17
                      try clear c18
                      try clear c18b0
                      try clear c18b1
                      try clear c20
                      try clear c20b0
                      try clear c20b1
                      try clear c21
                      try clear c21b0
                      try clear c22
                      try clear c22b0
                      try clear c22b1
                      try clear c23
                      try clear c23b0
                      try clear c23b1
                      try clear c24
                      try clear c24b0
                      try clear c25
                      try clear c25b0
                      try clear c25b1
                      try clear c26
                      try clear c26b0
                      try clear c27
                      try clear c27b0
                      try clear c27b1
                      try clear c31
                      try clear c31b0
                      try clear c31b1
                      try clear c32
                      try clear c32b0
                      try clear c32b1
                      try clear c38
                      try clear c39
                      try clear c39b0
                      try clear c39b1
                      try clear c41
                      try clear c41b0
                      try clear hcz11_0
                      try clear hcz11_1
                      try clear hcz13_0
                      try clear hcz13_1
                      try clear hcz14_0
                      try clear hcz14_1
                      try clear hcz15_0
                      try clear hcz15_1
                      try clear hcz28_0
                      try clear hcz28_1
                      try clear hcz30_0
                      try clear hcz30_1
                      try clear hcz35_0
                      try clear hcz35_1
                      try clear hcz42_0
                      try clear hcz42_1
                      try clear hcz44_0
                      try clear hcz44_1
                      try clear hcz6_0
                      try clear hcz6_1
                      try clear hcz9_0
                      try clear hcz9_1
                      try clear hfz11_0
                      try clear hfz11_1
                      try clear hfz13_0
                      try clear hfz13_1
                      try clear hfz14_0
                      try clear hfz14_1
                      try clear hfz15_0
                      try clear hfz15_1
                      try clear hfz28_0
                      try clear hfz28_1
                      try clear hfz30_0
                      try clear hfz30_1
                      try clear hfz35_0
                      try clear hfz35_1
                      try clear hfz42_0
                      try clear hfz42_1
                      try clear hfz44_0
                      try clear hfz44_1
                      try clear hfz6_0
                      try clear hfz6_1
                      try clear hfz9_0
                      try clear hfz9_1
                      try clear hx144_0
                      try clear hx144_1
                      try clear hx144_10
                      try clear hx144_11
                      try clear hx144_12
                      try clear hx144_13
                      try clear hx144_2
                      try clear hx144_3
                      try clear hx144_4
                      try clear hx144_5
                      try clear hx144_6
                      try clear hx144_7
                      try clear hx144_8
                      try clear hx144_9
                      try clear p1
                      try clear p14
                      try clear p144
                      try clear p2
                      try clear p6
                      try clear q1
                      try clear q14
                      try clear q144
                      obtain ⟨x10_3, rfl, HA, HK3, BK143, HB⟩ := hrel
                      cases gk with
                      | zero => exact absurd HA.out (by simp [haspref22_changes.l1])
                      | succ k3 =>
                        have H := HA.out
                        clear HA
                        simp only [haspref22_changes.l1] at H
                        by_cases c46 : x10_3 < (l0_1.length : Int)
                        · rw [if_pos c46] at H
                          have c46b0 : decide (x10_3 < (l0_1.length : Int)) = true := decide_eq_true c46
                          clear c46
                          by_cases c47 : 0 ≤ x10_3
                          · rw [if_pos c47] at H
                            have c47b0 : decide (0 ≤ x10_3) = true := decide_eq_true c47
                            clear c47
                            by_cases c48 : ((rd_T33 l0_1 x10_3).f0) = 3
                            · rw [if_pos c48] at H
                              have c48b0 : (((rd_T33 l0_1 x10_3).f0) == 3) = true := beq_iff_eq.mpr c48
                              have c48b1 : (((rd_T33 l0_1 x10_3).f0) != 3) = false := bne_eq_false_iff_eq.mpr c48
                              clear c48
                              by_cases c49 : ((rd_T33 l0_1 x10_3).f1) = 0
                              · rw [if_pos c49] at H
                                have c49b0 : (((rd_T33 l0_1 x10_3).f1) == 0) = true := beq_iff_eq.mpr c49
                                have c49b1 : (((rd_T33 l0_1 x10_3).f1) != 0) = false := bne_eq_false_iff_eq.mpr c49
                                clear c49
                                replace H := Option.bind_eq_some_iff.mp H
                                obtain ⟨t151, A500, H⟩ := H
                                replace H : (if t151 = true then (haspref22_changes.l1 k3 t147 (wrap64 (x10_3 + 1)) a0_0 l0_1) else (some false)) = some r := H
                                have A50 := Aside0.mk A500
                                clear A500
                                by_cases c51 : t151 = true
                                · subst c51
                                  have H1 : (haspref22_changes.l1 k3 t147 (wrap64 (x10_3 + 1)) a0_0 l0_1) = some r := by rw [if_pos rfl] at H; exact H
                                  clear H
                                  have H := H1
                                  clear H1
                                  have H' := Aside0.mk H
                                  clear H
                                  have hcz52_0 : wr.cell? ⟨gb143, 0, none⟩ = some (.string a0_0) := (blk_cell BK143.out 0).trans rfl
                                  have hcz52_1 : wr.cell? ⟨gb143, 1, none⟩ = some (.slice A0_1 l0_1.length c0_1) := (blk_cell BK143.out 1).trans rfl
                                  have hfz52_0 := blk_frozen BK143.out 0
                                  have hfz52_1 := blk_frozen BK143.out 1
                                  have p148 : 0 ≤ (x10_3 : Int) := of_decide_eq_true (by first | (with_reducible assumption) | assumption)
                                  have q148 : x10_3 < (l0_1.length : Int) := of_decide_eq_true (by first | (with_reducible assumption) | assumption)
                                  obtain ⟨ad148, A148_7, c148_7, A148_8, c148_8, A148_11, c148_11, A148_13, c148_13, e148, hx148_0, hx148_1, hx148_2, hx148_3, hx148_4, hx148_5, hx148_6, hx148_7, hx148_8, hx148_9, hx148_10, hx148_11, hx148_12, hx148_13, hl148_7, hi148_7, hl148_8, hi148_8, hl148_11, hi148_11, hl148_13, hi148_13⟩ := at_T33 HR0_1.out x10_3 p148 q148
                                  cases e148
                                  replace hx148_0 := (HB.out.cell (World.block_lt_of_cell? w _ hx148_0)).trans hx148_0
                                  replace hx148_1 := (HB.out.cell (World.block_lt_of_cell? w _ hx148_1)).trans hx148_1
                                  replace hx148_2 := (HB.out.cell (World.block_lt_of_cell? w _ hx148_2)).trans hx148_2
                                  replace hx148_3 := (HB.out.cell (World.block_lt_of_cell? w _ hx148_3)).trans hx148_3
                                  replace hx148_4 := (HB.out.cell (World.block_lt_of_cell? w _ hx148_4)).trans hx148_4
                                  replace hx148_5 := (HB.out.cell (World.block_lt_of_cell? w _ hx148_5)).trans hx148_5
                                  replace hx148_6 := (HB.out.cell (World.block_lt_of_cell? w _ hx148_6)).trans hx148_6
                                  replace hx148_7 := (HB.out.cell (World.block_lt_of_cell? w _ hx148_7)).trans hx148_7
                                  replace hx148_8 := (HB.out.cell (World.block_lt_of_cell? w _ hx148_8)).trans hx148_8
                                  replace hx148_9 := (HB.out.cell (World.block_lt_of_cell? w _ hx148_9)).trans hx148_9
                                  replace hx148_10 := (HB.out.cell (World.block_lt_of_cell? w _ hx148_10)).trans hx148_10
                                  replace hx148_11 := (HB.out.cell (World.block_lt_of_cell? w _ hx148_11)).trans hx148_11
                                  replace hx148_12 := (HB.out.cell (World.block_lt_of_cell? w _ hx148_12)).trans hx148_12
                                  replace hx148_13 := (HB.out.cell (World.block_lt_of_cell? w _ hx148_13)).trans hx148_13
                                  have HR148_7 := Aside0.mk hi148_7
                                  have HC148_7 := Aside0.mk hl148_7
                                  clear hi148_7 hl148_7
                                  have HR148_8 := Aside0.mk hi148_8
                                  have HC148_8 := Aside0.mk hl148_8
                                  clear hi148_8 hl148_8
                                  have HR148_11 := Aside0.mk hi148_11
                                  have HC148_11 := Aside0.mk hl148_11
                                  clear hi148_11 hl148_11
                                  have HR148_13 := Aside0.mk hi148_13
                                  have HC148_13 := Aside0.mk hl148_13
                                  clear hi148_13 hl148_13
                                  replace p148 := eq_true p148
                                  replace q148 := eq_true q148
                                  have p149 : 0 ≤ (x10_3 : Int) := of_decide_eq_true (by first | (with_reducible assumption) | assumption)
                                  have q149 : x10_3 < (l0_1.length : Int) := of_decide_eq_true (by first | (with_reducible assumption) | assumption)
                                  obtain ⟨ad149, A149_7, c149_7, A149_8, c149_8, A149_11, c149_11, A149_13, c149_13, e149, hx149_0, hx149_1, hx149_2, hx149_3, hx149_4, hx149_5, hx149_6, hx149_7, hx149_8, hx149_9, hx149_10, hx149_11, hx149_12, hx149_13, hl149_7, hi149_7, hl149_8, hi149_8, hl149_11, hi149_11, hl149_13, hi149_13⟩ := at_T33 HR0_1.out x10_3 p149 q149
                                  obtain rfl : ad148 = ad149 := (by injection e149)
                                  replace hx149_0 := (HB.out.cell (World.block_lt_of_cell? w _ hx149_0)).trans hx149_0
                                  replace hx149_1 := (HB.out.cell (World.block_lt_of_cell? w _ hx149_1)).trans hx149_1
                                  replace hx149_2 := (HB.out.cell (World.block_lt_of_cell? w _ hx149_2)).trans hx149_2
                                  replace hx149_3 := (HB.out.cell (World.block_lt_of_cell? w _ hx149_3)).trans hx149_3
                                  replace hx149_4 := (HB.out.cell (World.block_lt_of_cell? w _ hx149_4)).trans hx149_4
                                  replace hx149_5 := (HB.out.cell (World.block_lt_of_cell? w _ hx149_5)).trans hx149_5
                                  replace hx149_6 := (HB.out.cell (World.block_lt_of_cell? w _ hx149_6)).trans hx149_6
                                  replace hx149_7 := (HB.out.cell (World.block_lt_of_cell? w _ hx149_7)).trans hx149_7
                                  replace hx149_8 := (HB.out.cell (World.block_lt_of_cell? w _ hx149_8)).trans hx149_8
                                  replace hx149_9 := (HB.out.cell (World.block_lt_of_cell? w _ hx149_9)).trans hx149_9
                                  replace hx149_10 := (HB.out.cell (World.block_lt_of_cell? w _ hx149_10)).trans hx149_10
                                  replace hx149_11 := (HB.out.cell (World.block_lt_of_cell? w _ hx149_11)).trans hx149_11
                                  replace hx149_12 := (HB.out.cell (World.block_lt_of_cell? w _ hx149_12)).trans hx149_12
                                  replace hx149_13 := (HB.out.cell (World.block_lt_of_cell? w _ hx149_13)).trans hx149_13
                                  have HR149_7 := Aside0.mk hi149_7
                                  have HC149_7 := Aside0.mk hl149_7
                                  clear hi149_7 hl149_7
                                  have HR149_8 := Aside0.mk hi149_8
                                  have HC149_8 := Aside0.mk hl149_8
                                  clear hi149_8 hl149_8
                                  have HR149_11 := Aside0.mk hi149_11
                                  have HC149_11 := Aside0.mk hl149_11
                                  clear hi149_11 hl149_11
                                  have HR149_13 := Aside0.mk hi149_13
                                  have HC149_13 := Aside0.mk hl149_13
                                  clear hi149_13 hl149_13
                                  replace p149 := eq_true p149
                                  replace q149 := eq_true q149
                                  have ea_ := Option.some.inj (hx148_7.symm.trans hx149_7)
                                  injection ea_ with ea_ en_ ec_
                                  subst ea_
                                  subst ec_
                                  clear en_
                                  have ea_ := Option.some.inj (hx148_8.symm.trans hx149_8)
                                  injection ea_ with ea_ en_ ec_
                                  subst ea_
                                  subst ec_
                                  clear en_
                                  have ea_ := Option.some.inj (hx148_11.symm.trans hx149_11)
                                  injection ea_ with ea_ en_ ec_
                                  subst ea_
                                  subst ec_
                                  clear en_
                                  have ea_ := Option.some.inj (hx148_13.symm.trans hx149_13)
                                  injection ea_ with ea_ en_ ec_
                                  subst ea_
                                  subst ec_
                                  clear en_
                                  have p150 : 0 ≤ (x10_3 : Int) := of_decide_eq_true (by first | (with_reducible assumption) | assumption)
                                  have q150 : x10_3 < (l0_1.length : Int) := of_decide_eq_true (by first | (with_reducible assumption) | assumption)
                                  obtain ⟨ad150, A150_7, c150_7, A150_8, c150_8, A150_11, c150_11, A150_13, c150_13, e150, hx150_0, hx150_1, hx150_2, hx150_3, hx150_4, hx150_5, hx150_6, hx150_7, hx150_8, hx150_9, hx150_10, hx150_11, hx150_12, hx150_13, hl150_7, hi150_7, hl150_8, hi150_8, hl150_11, hi150_11, hl150_13, hi150_13⟩ := at_T33 HR0_1.out x10_3 p150 q150
                                  obtain rfl : ad148 = ad150 := (by injection e150)
                                  replace hx150_0 := (HB.out.cell (World.block_lt_of_cell? w _ hx150_0)).trans hx150_0
                                  replace hx150_1 := (HB.out.cell (World.block_lt_of_cell? w _ hx150_1)).trans hx150_1
                                  replace hx150_2 := (HB.out.cell (World.block_lt_of_cell? w _ hx150_2)).trans hx150_2
                                  replace hx150_3 := (HB.out.cell (World.block_lt_of_cell? w _ hx150_3)).trans hx150_3
                                  replace hx150_4 := (HB.out.cell (World.block_lt_of_cell? w _ hx150_4)).trans hx150_4
                                  replace hx150_5 := (HB.out.cell (World.block_lt_of_cell? w _ hx150_5)).trans hx150_5
                                  replace hx150_6 := (HB.out.cell (World.block_lt_of_cell? w _ hx150_6)).trans hx150_6
                                  replace hx150_7 := (HB.out.cell (World.block_lt_of_cell? w _ hx150_7)).trans hx150_7
                                  replace hx150_8 := (HB.out.cell (World.block_lt_of_cell? w _ hx150_8)).trans hx150_8
                                  replace hx150_9 := (HB.out.cell (World.block_lt_of_cell? w _ hx150_9)).trans hx150_9
                                  replace hx150_10 := (HB.out.cell (World.block_lt_of_cell? w _ hx150_10)).trans hx150_10
                                  replace hx150_11 := (HB.out.cell (World.block_lt_of_cell? w _ hx150_11)).trans hx150_11
                                  replace hx150_12 := (HB.out.cell (World.block_lt_of_cell? w _ hx150_12)).trans hx150_12
                                  replace hx150_13 := (HB.out.cell (World.block_lt_of_cell? w _ hx150_13)).trans hx150_13
                                  have HR150_7 := Aside0.mk hi150_7
                                  have HC150_7 := Aside0.mk hl150_7
                                  clear hi150_7 hl150_7
                                  have HR150_8 := Aside0.mk hi150_8
                                  have HC150_8 := Aside0.mk hl150_8
                                  clear hi150_8 hl150_8
                                  have HR150_11 := Aside0.mk hi150_11
                                  have HC150_11 := Aside0.mk hl150_11
                                  clear hi150_11 hl150_11
                                  have HR150_13 := Aside0.mk hi150_13
                                  have HC150_13 := Aside0.mk hl150_13
                                  clear hi150_13 hl150_13
                                  replace p150 := eq_true p150
                                  replace q150 := eq_true q150
                                  have ea_ := Option.some.inj (hx148_7.symm.trans hx150_7)
                                  injection ea_ with ea_ en_ ec_
                                  subst ea_
                                  subst ec_
                                  clear en_
                                  have ea_ := Option.some.inj (hx148_8.symm.trans hx150_8)
                                  injection ea_ with ea_ en_ ec_
                                  subst ea_
                                  subst ec_
                                  clear en_
                                  have ea_ := Option.some.inj (hx148_11.symm.trans hx150_11)
                                  injection ea_ with ea_ en_ ec_
                                  subst ea_
                                  subst ec_
                                  clear en_
                                  have ea_ := Option.some.inj (hx148_13.symm.trans hx150_13)
                                  injection ea_ with ea_ en_ ec_
                                  subst ea_
                                  subst ec_
                                  clear en_
                                  go_wp2_with (first | (go_at_call 31; (with_reducible refine (haspref09_Covers.calls ((rd_T33 l0_1 x10_3).f4) 5 true _ A50.out).mono ?_); rintro e w53 ⟨rfl, hb⟩; have n0_ := Aside0.mk (blk_below (g := gb143) (o := .cells #[.string a0_0, .slice (some ad148) l0_1.length c0_1] 25 (0, 0)) (by (with_reducible repeat (first | refine blk_drewN ?_ _ | refine blk_drew ?_ | refine blk_alloc ?_ _)); exact BK143.out) hb); have n1_ := Aside0.mk (below_step (by repeat (first | (with_reducible first | exact HB.out | apply below_alloc | apply pw_below_drewN | apply below_drew1 | refine below_set ?_ GE143.out) | exact HB.out)) hb); clear BK143; clear HB; have BK143 := n0_; have HB := n1_; clear n0_ n1_; (try clear hb); (try clear hb2); (try clear hk); (try clear hi)))
                                  repeat (go_quiet (first | (go_at_call 31; (with_reducible refine (haspref09_Covers.calls ((rd_T33 l0_1 x10_3).f4) 5 true _ A50.out).mono ?_); rintro e w53 ⟨rfl, hb⟩; have n0_ := Aside0.mk (blk_below (g := gb143) (o := .cells #[.string a0_0, .slice (some ad148) l0_1.length c0_1] 25 (0, 0)) (by (with_reducible repeat (first | refine blk_drewN ?_ _ | refine blk_drew ?_ | refine blk_alloc ?_ _)); exact BK143.out) hb); have n1_ := Aside0.mk (below_step (by repeat (first | (with_reducible first | exact HB.out | apply below_alloc | apply pw_below_drewN | apply below_drew1 | refine below_set ?_ GE143.out) | exact HB.out)) hb); clear BK143; clear HB; have BK143 := n0_; have HB := n1_; clear n0_ n1_; (try clear hb); (try clear hb2); (try clear hk); (try clear hi))); try go_wp2_with (first | (go_at_call 31; (with_reducible refine (haspref09_Covers.calls ((rd_T33 l0_1 x10_3).f4) 5 true _ A50.out).mono ?_); rintro e w53 ⟨rfl, hb⟩; have n0_ := Aside0.mk (blk_below (g := gb143) (o := .cells #[.string a0_0, .slice (some ad148) l0_1.length c0_1] 25 (0, 0)) (by (with_reducible repeat (first | refine blk_drewN ?_ _ | refine blk_drew ?_ | refine blk_alloc ?_ _)); exact BK143.out) hb); have n1_ := Aside0.mk (below_step (by repeat (first | (with_reducible first | exact HB.out | apply below_alloc | apply pw_below_drewN | apply below_drew1 | refine below_set ?_ GE143.out) | exact HB.out)) hb); clear BK143; clear HB; have BK143 := n0_; have HB := n1_; clear n0_ n1_; (try clear hb); (try clear hb2); (try clear hk); (try clear hi))))
                                  go_roundg k3
                                  case measure => have := HK1.out; have := HJ28.out; have := HK3.out; omega
                                  case rel => exact ⟨(wrap64 (x10_3 + 1)), (by first | rfl | (simp; done) | (simp [*]; done) | (simp; exact isEmpty_bne _) | (simp [*]; exact isEmpty_bne _)), H', ⟨by have := HK1.out; have := HJ28.out; have := HK3.out; omega⟩, ⟨by (with_reducible repeat (first | refine blk_drewN ?_ _ | refine blk_drew ?_ | refine blk_alloc ?_ _)); exact BK143.out⟩, ⟨by repeat (first | (with_reducible first | exact HB.out | apply below_alloc | apply pw_below_drewN | apply below_drew1 | refine below_set ?_ GE143.out) | exact HB.out)⟩⟩
                                · replace c51 := Bool.eq_false_iff.mpr c51
                                  subst c51
                                  have H1 : (some false) = some r := by rw [if_neg (show ¬ (false = true) by decide)] at H; exact H
                                  clear H
                                  have H := H1
                                  clear H1
                                  obtain rfl := Option.some.inj H
                                  have hcz54_0 : wr.cell? ⟨gb143, 0, none⟩ = some (.string a0_0) := (blk_cell BK143.out 0).trans rfl
                                  have hcz54_1 : wr.cell? ⟨gb143, 1, none⟩ = some (.slice A0_1 l0_1.length c0_1) := (blk_cell BK143.out 1).trans rfl
                                  have hfz54_0 := blk_frozen BK143.out 0
                                  have hfz54_1 := blk_frozen BK143.out 1
                                  have p148 : 0 ≤ (x10_3 : Int) := of_decide_eq_true (by first | (with_reducible assumption) | assumption)
                                  have q148 : x10_3 < (l0_1.length : Int) := of_decide_eq_true (by first | (with_reducible assumption) | assumption)
                                  obtain ⟨ad148, A148_7, c148_7, A148_8, c148_8, A148_11, c148_11, A148_13, c148_13, e148, hx148_0, hx148_1, hx148_2, hx148_3, hx148_4, hx148_5, hx148_6, hx148_7, hx148_8, hx148_9, hx148_10, hx148_11, hx148_12, hx148_13, hl148_7, hi148_7, hl148_8, hi148_8, hl148_11, hi148_11, hl148_13, hi148_13⟩ := at_T33 HR0_1.out x10_3 p148 q148
                                  cases e148
                                  replace hx148_0 := (HB.out.cell (World.block_lt_of_cell? w _ hx148_0)).trans hx148_0
                                  replace hx148_1 := (HB.out.cell (World.block_lt_of_cell? w _ hx148_1)).trans hx148_1
                                  replace hx148_2 := (HB.out.cell (World.block_lt_of_cell? w _ hx148_2)).trans hx148_2
                                  replace hx148_3 := (HB.out.cell (World.block_lt_of_cell? w _ hx148_3)).trans hx148_3
                                  replace hx148_4 := (HB.out.cell (World.block_lt_of_cell? w _ hx148_4)).trans hx148_4
                                  replace hx148_5 := (HB.out.cell (World.block_lt_of_cell? w _ hx148_5)).trans hx148_5
                                  replace hx148_6 := (HB.out.cell (World.block_lt_of_cell? w _ hx148_6)).trans hx148_6
                                  replace hx148_7 := (HB.out.cell (World.block_lt_of_cell? w _ hx148_7)).trans hx148_7
                                  replace hx148_8 := (HB.out.cell (World.block_lt_of_cell? w _ hx148_8)).trans hx148_8
                                  replace hx148_9 := (HB.out.cell (World.block_lt_of_cell? w _ hx148_9)).trans hx148_9
                                  replace hx148_10 := (HB.out.cell (World.block_lt_of_cell? w _ hx148_10)).trans hx148_10
                                  replace hx148_11 := (HB.out.cell (World.block_lt_of_cell? w _ hx148_11)).trans hx148_11
                                  replace hx148_12 := (HB.out.cell (World.block_lt_of_cell? w _ hx148_12)).trans hx148_12
                                  replace hx148_13 := (HB.out.cell (World.block_lt_of_cell? w _ hx148_13)).trans hx148_13
                                  have HR148_7 := Aside0.mk hi148_7
                                  have HC148_7 := Aside0.mk hl148_7
                                  clear hi148_7 hl148_7
                                  have HR148_8 := Aside0.mk hi148_8
                                  have HC148_8 := Aside0.mk hl148_8
                                  clear hi148_8 hl148_8
                                  have HR148_11 := Aside0.mk hi148_11
                                  have HC148_11 := Aside0.mk hl148_11
                                  clear hi148_11 hl148_11
                                  have HR148_13 := Aside0.mk hi148_13
                                  have HC148_13 := Aside0.mk hl148_13
                                  clear hi148_13 hl148_13
                                  replace p148 := eq_true p148
                                  replace q148 := eq_true q148
                                  have p149 : 0 ≤ (x10_3 : Int) := of_decide_eq_true (by first | (with_reducible assumption) | assumption)
                                  have q149 : x10_3 < (l0_1.length : Int) := of_decide_eq_true (by first | (with_reducible assumption) | assumption)
                                  obtain ⟨ad149, A149_7, c149_7, A149_8, c149_8, A149_11, c149_11, A149_13, c149_13, e149, hx149_0, hx149_1, hx149_2, hx149_3, hx149_4, hx149_5, hx149_6, hx149_7, hx149_8, hx149_9, hx149_10, hx149_11, hx149_12, hx149_13, hl149_7, hi149_7, hl149_8, hi149_8, hl149_11, hi149_11, hl149_13, hi149_13⟩ := at_T33 HR0_1.out x10_3 p149 q149
                                  obtain rfl : ad148 = ad149 := (by injection e149)
                                  replace hx149_0 := (HB.out.cell (World.block_lt_of_cell? w _ hx149_0)).trans hx149_0
                                  replace hx149_1 := (HB.out.cell (World.block_lt_of_cell? w _ hx149_1)).trans hx149_1
                                  replace hx149_2 := (HB.out.cell (World.block_lt_of_cell? w _ hx149_2)).trans hx149_2
                                  replace hx149_3 := (HB.out.cell (World.block_lt_of_cell? w _ hx149_3)).trans hx149_3
                                  replace hx149_4 := (HB.out.cell (World.block_lt_of_cell? w _ hx149_4)).trans hx149_4
                                  replace hx149_5 := (HB.out.cell (World.block_lt_of_cell? w _ hx149_5)).trans hx149_5
                                  replace hx149_6 := (HB.out.cell (World.block_lt_of_cell? w _ hx149_6)).trans hx149_6
                                  replace hx149_7 := (HB.out.cell (World.block_lt_of_cell? w _ hx149_7)).trans hx149_7
                                  replace hx149_8 := (HB.out.cell (World.block_lt_of_cell? w _ hx149_8)).trans hx149_8
                                  replace hx149_9 := (HB.out.cell (World.block_lt_of_cell? w _ hx149_9)).trans hx149_9
                                  replace hx149_10 := (HB.out.cell (World.block_lt_of_cell? w _ hx149_10)).trans hx149_10
                                  replace hx149_11 := (HB.out.cell (World.block_lt_of_cell? w _ hx149_11)).trans hx149_11
                                  replace hx149_12 := (HB.out.cell (World.block_lt_of_cell? w _ hx149_12)).trans hx149_12
                                  replace hx149_13 := (HB.out.cell (World.block_lt_of_cell? w _ hx149_13)).trans hx149_13
                                  have HR149_7 := Aside0.mk hi149_7
                                  have HC149_7 := Aside0.mk hl149_7
                                  clear hi149_7 hl149_7
                                  have HR149_8 := Aside0.mk hi149_8
                                  have HC149_8 := Aside0.mk hl149_8
                                  clear hi149_8 hl149_8
                                  have HR149_11 := Aside0.mk hi149_11
                                  have HC149_11 := Aside0.mk hl149_11
                                  clear hi149_11 hl149_11
                                  have HR149_13 := Aside0.mk hi149_13
                                  have HC149_13 := Aside0.mk hl149_13
                                  clear hi149_13 hl149_13
                                  replace p149 := eq_true p149
                                  replace q149 := eq_true q149
                                  have ea_ := Option.some.inj (hx148_7.symm.trans hx149_7)
                                  injection ea_ with ea_ en_ ec_
                                  subst ea_
                                  subst ec_
                                  clear en_
                                  have ea_ := Option.some.inj (hx148_8.symm.trans hx149_8)
                                  injection ea_ with ea_ en_ ec_
                                  subst ea_
                                  subst ec_
                                  clear en_
                                  have ea_ := Option.some.inj (hx148_11.symm.trans hx149_11)
                                  injection ea_ with ea_ en_ ec_
                                  subst ea_
                                  subst ec_
                                  clear en_
                                  have ea_ := Option.some.inj (hx148_13.symm.trans hx149_13)
                                  injection ea_ with ea_ en_ ec_
                                  subst ea_
                                  subst ec_
                                  clear en_
                                  have p150 : 0 ≤ (x10_3 : Int) := of_decide_eq_true (by first | (with_reducible assumption) | assumption)
                                  have q150 : x10_3 < (l0_1.length : Int) := of_decide_eq_true (by first | (with_reducible assumption) | assumption)
                                  obtain ⟨ad150, A150_7, c150_7, A150_8, c150_8, A150_11, c150_11, A150_13, c150_13, e150, hx150_0, hx150_1, hx150_2, hx150_3, hx150_4, hx150_5, hx150_6, hx150_7, hx150_8, hx150_9, hx150_10, hx150_11, hx150_12, hx150_13, hl150_7, hi150_7, hl150_8, hi150_8, hl150_11, hi150_11, hl150_13, hi150_13⟩ := at_T33 HR0_1.out x10_3 p150 q150
                                  obtain rfl : ad148 = ad150 := (by injection e150)
                                  replace hx150_0 := (HB.out.cell (World.block_lt_of_cell? w _ hx150_0)).trans hx150_0
                                  replace hx150_1 := (HB.out.cell (World.block_lt_of_cell? w _ hx150_1)).trans hx150_1
                                  replace hx150_2 := (HB.out.cell (World.block_lt_of_cell? w _ hx150_2)).trans hx150_2
                                  replace hx150_3 := (HB.out.cell (World.block_lt_of_cell? w _ hx150_3)).trans hx150_3
                                  replace hx150_4 := (HB.out.cell (World.block_lt_of_cell? w _ hx150_4)).trans hx150_4
                                  replace hx150_5 := (HB.out.cell (World.block_lt_of_cell? w _ hx150_5)).trans hx150_5
                                  replace hx150_6 := (HB.out.cell (World.block_lt_of_cell? w _ hx150_6)).trans hx150_6
                                  replace hx150_7 := (HB.out.cell (World.block_lt_of_cell? w _ hx150_7)).trans hx150_7
                                  replace hx150_8 := (HB.out.cell (World.block_lt_of_cell? w _ hx150_8)).trans hx150_8
                                  replace hx150_9 := (HB.out.cell (World.block_lt_of_cell? w _ hx150_9)).trans hx150_9
                                  replace hx150_10 := (HB.out.cell (World.block_lt_of_cell? w _ hx150_10)).trans hx150_10
                                  replace hx150_11 := (HB.out.cell (World.block_lt_of_cell? w _ hx150_11)).trans hx150_11
                                  replace hx150_12 := (HB.out.cell (World.block_lt_of_cell? w _ hx150_12)).trans hx150_12
                                  replace hx150_13 := (HB.out.cell (World.block_lt_of_cell? w _ hx150_13)).trans hx150_13
                                  have HR150_7 := Aside0.mk hi150_7
                                  have HC150_7 := Aside0.mk hl150_7
                                  clear hi150_7 hl150_7
                                  have HR150_8 := Aside0.mk hi150_8
                                  have HC150_8 := Aside0.mk hl150_8
                                  clear hi150_8 hl150_8
                                  have HR150_11 := Aside0.mk hi150_11
                                  have HC150_11 := Aside0.mk hl150_11
                                  clear hi150_11 hl150_11
                                  have HR150_13 := Aside0.mk hi150_13
                                  have HC150_13 := Aside0.mk hl150_13
                                  clear hi150_13 hl150_13
                                  replace p150 := eq_true p150
                                  replace q150 := eq_true q150
                                  have ea_ := Option.some.inj (hx148_7.symm.trans hx150_7)
                                  injection ea_ with ea_ en_ ec_
                                  subst ea_
                                  subst ec_
                                  clear en_
                                  have ea_ := Option.some.inj (hx148_8.symm.trans hx150_8)
                                  injection ea_ with ea_ en_ ec_
                                  subst ea_
                                  subst ec_
                                  clear en_
                                  have ea_ := Option.some.inj (hx148_11.symm.trans hx150_11)
                                  injection ea_ with ea_ en_ ec_
                                  subst ea_
                                  subst ec_
                                  clear en_
                                  have ea_ := Option.some.inj (hx148_13.symm.trans hx150_13)
                                  injection ea_ with ea_ en_ ec_
                                  subst ea_
                                  subst ec_
                                  clear en_
                                  go_wp2_with (first | (go_at_call 31; (with_reducible refine (haspref09_Covers.calls ((rd_T33 l0_1 x10_3).f4) 5 false _ A50.out).mono ?_); rintro e w55 ⟨rfl, hb⟩; have n0_ := Aside0.mk (blk_below (g := gb143) (o := .cells #[.string a0_0, .slice (some ad148) l0_1.length c0_1] 25 (0, 0)) (by (with_reducible repeat (first | refine blk_drewN ?_ _ | refine blk_drew ?_ | refine blk_alloc ?_ _)); exact BK143.out) hb); have n1_ := Aside0.mk (below_step (by repeat (first | (with_reducible first | exact HB.out | apply below_alloc | apply pw_below_drewN | apply below_drew1 | refine below_set ?_ GE143.out) | exact HB.out)) hb); clear BK143; clear HB; have BK143 := n0_; have HB := n1_; clear n0_ n1_; (try clear hb); (try clear hb2); (try clear hk); (try clear hi)))
                                  repeat (go_quiet (first | (go_at_call 31; (with_reducible refine (haspref09_Covers.calls ((rd_T33 l0_1 x10_3).f4) 5 false _ A50.out).mono ?_); rintro e w55 ⟨rfl, hb⟩; have n0_ := Aside0.mk (blk_below (g := gb143) (o := .cells #[.string a0_0, .slice (some ad148) l0_1.length c0_1] 25 (0, 0)) (by (with_reducible repeat (first | refine blk_drewN ?_ _ | refine blk_drew ?_ | refine blk_alloc ?_ _)); exact BK143.out) hb); have n1_ := Aside0.mk (below_step (by repeat (first | (with_reducible first | exact HB.out | apply below_alloc | apply pw_below_drewN | apply below_drew1 | refine below_set ?_ GE143.out) | exact HB.out)) hb); clear BK143; clear HB; have BK143 := n0_; have HB := n1_; clear n0_ n1_; (try clear hb); (try clear hb2); (try clear hk); (try clear hi))); try go_wp2_with (first | (go_at_call 31; (with_reducible refine (haspref09_Covers.calls ((rd_T33 l0_1 x10_3).f4) 5 false _ A50.out).mono ?_); rintro e w55 ⟨rfl, hb⟩; have n0_ := Aside0.mk (blk_below (g := gb143) (o := .cells #[.string a0_0, .slice (some ad148) l0_1.length c0_1] 25 (0, 0)) (by (with_reducible repeat (first | refine blk_drewN ?_ _ | refine blk_drew ?_ | refine blk_alloc ?_ _)); exact BK143.out) hb); have n1_ := Aside0.mk (below_step (by repeat (first | (with_reducible first | exact HB.out | apply below_alloc | apply pw_below_drewN | apply below_drew1 | refine below_set ?_ GE143.out) | exact HB.out)) hb); clear BK143; clear HB; have BK143 := n0_; have HB := n1_; clear n0_ n1_; (try clear hb); (try clear hb2); (try clear hk); (try clear hi))))
                                  go_ret
                                  exact ⟨by first | rfl | (simp [errW_none, errW_some] <;> rfl) | (simp [*, errW_none, errW_some] <;> rfl), by repeat (first | (with_reducible first | exact HB.out | apply below_alloc | apply pw_below_drewN | apply below_drew1 | refine below_set ?_ GE143.out) | exact HB.out)⟩
                              · rw [if_neg c49] at H
                                have c49b0 : (((rd_T33 l0_1 x10_3).f1) == 0) = false := beq_eq_false_iff_ne.mpr c49
                                have c49b1 : (((rd_T33 l0_1 x10_3).f1) != 0) = true := bne_iff_ne.mpr c49
                                have H' := Aside0.mk H
                                clear H
                                have hcz56_0 : wr.cell? ⟨gb143, 0, none⟩ = some (.string a0_0) := (blk_cell BK143.out 0).trans rfl
                                have hcz56_1 : wr.cell? ⟨gb143, 1, none⟩ = some (.slice A0_1 l0_1.length c0_1) := (blk_cell BK143.out 1).trans rfl
                                have hfz56_0 := blk_frozen BK143.out 0
                                have hfz56_1 := blk_frozen BK143.out 1
                                have p148 : 0 ≤ (x10_3 : Int) := of_decide_eq_true (by first | (with_reducible assumption) | assumption)
                                have q148 : x10_3 < (l0_1.length : Int) := of_decide_eq_true (by first | (with_reducible assumption) | assumption)
                                obtain ⟨ad148, A148_7, c148_7, A148_8, c148_8, A148_11, c148_11, A148_13, c148_13, e148, hx148_0, hx148_1, hx148_2, hx148_3, hx148_4, hx148_5, hx148_6, hx148_7, hx148_8, hx148_9, hx148_10, hx148_11, hx148_12, hx148_13, hl148_7, hi148_7, hl148_8, hi148_8, hl148_11, hi148_11, hl148_13, hi148_13⟩ := at_T33 HR0_1.out x10_3 p148 q148
                                cases e148
                                replace hx148_0 := (HB.out.cell (World.block_lt_of_cell? w _ hx148_0)).trans hx148_0
                                replace hx148_1 := (HB.out.cell (World.block_lt_of_cell? w _ hx148_1)).trans hx148_1
                                replace hx148_2 := (HB.out.cell (World.block_lt_of_cell? w _ hx148_2)).trans hx148_2
                                replace hx148_3 := (HB.out.cell (World.block_lt_of_cell? w _ hx148_3)).trans hx148_3
                                replace hx148_4 := (HB.out.cell (World.block_lt_of_cell? w _ hx148_4)).trans hx148_4
                                replace hx148_5 := (HB.out.cell (World.block_lt_of_cell? w _ hx148_5)).trans hx148_5
                                replace hx148_6 := (HB.out.cell (World.block_lt_of_cell? w _ hx148_6)).trans hx148_6
                                replace hx148_7 := (HB.out.cell (World.block_lt_of_cell? w _ hx148_7)).trans hx148_7
                                replace hx148_8 := (HB.out.cell (World.block_lt_of_cell? w _ hx148_8)).trans hx148_8
                                replace hx148_9 := (HB.out.cell (World.block_lt_of_cell? w _ hx148_9)).trans hx148_9
                                replace hx148_10 := (HB.out.cell (World.block_lt_of_cell? w _ hx148_10)).trans hx148_10
                                replace hx148_11 := (HB.out.cell (World.block_lt_of_cell? w _ hx148_11)).trans hx148_11
                                replace hx148_12 := (HB.out.cell (World.block_lt_of_cell? w _ hx148_12)).trans hx148_12
                                replace hx148_13 := (HB.out.cell (World.block_lt_of_cell? w _ hx148_13)).trans hx148_13
                                have HR148_7 := Aside0.mk hi148_7
                                have HC148_7 := Aside0.mk hl148_7
                                clear hi148_7 hl148_7
                                have HR148_8 := Aside0.mk hi148_8
                                have HC148_8 := Aside0.mk hl148_8
                                clear hi148_8 hl148_8
                                have HR148_11 := Aside0.mk hi148_11
                                have HC148_11 := Aside0.mk hl148_11
                                clear hi148_11 hl148_11
                                have HR148_13 := Aside0.mk hi148_13
                                have HC148_13 := Aside0.mk hl148_13
                                clear hi148_13 hl148_13
                                replace p148 := eq_true p148
                                replace q148 := eq_true q148
                                have p149 : 0 ≤ (x10_3 : Int) := of_decide_eq_true (by first | (with_reducible assumption) | assumption)
                                have q149 : x10_3 < (l0_1.length : Int) := of_decide_eq_true (by first | (with_reducible assumption) | assumption)
                                obtain ⟨ad149, A149_7, c149_7, A149_8, c149_8, A149_11, c149_11, A149_13, c149_13, e149, hx149_0, hx149_1, hx149_2, hx149_3, hx149_4, hx149_5, hx149_6, hx149_7, hx149_8, hx149_9, hx149_10, hx149_11, hx149_12, hx149_13, hl149_7, hi149_7, hl149_8, hi149_8, hl149_11, hi149_11, hl149_13, hi149_13⟩ := at_T33 HR0_1.out x10_3 p149 q149
                                obtain rfl : ad148 = ad149 := (by injection e149)
                                replace hx149_0 := (HB.out.cell (World.block_lt_of_cell? w _ hx149_0)).trans hx149_0
                                replace hx149_1 := (HB.out.cell (World.block_lt_of_cell? w _ hx149_1)).trans hx149_1
                                replace hx149_2 := (HB.out.cell (World.block_lt_of_cell? w _ hx149_2)).trans hx149_2
                                replace hx149_3 := (HB.out.cell (World.block_lt_of_cell? w _ hx149_3)).trans hx149_3
                                replace hx149_4 := (HB.out.cell (World.block_lt_of_cell? w _ hx149_4)).trans hx149_4
                                replace hx149_5 := (HB.out.cell (World.block_lt_of_cell? w _ hx149_5)).trans hx149_5
                                replace hx149_6 := (HB.out.cell (World.block_lt_of_cell? w _ hx149_6)).trans hx149_6
                                replace hx149_7 := (HB.out.cell (World.block_lt_of_cell? w _ hx149_7)).trans hx149_7
                                replace hx149_8 := (HB.out.cell (World.block_lt_of_cell? w _ hx149_8)).trans hx149_8
                                replace hx149_9 := (HB.out.cell (World.block_lt_of_cell? w _ hx149_9)).trans hx149_9
                                replace hx149_10 := (HB.out.cell (World.block_lt_of_cell? w _ hx149_10)).trans hx149_10
                                replace hx149_11 := (HB.out.cell (World.block_lt_of_cell? w _ hx149_11)).trans hx149_11
                                replace hx149_12 := (HB.out.cell (World.block_lt_of_cell? w _ hx149_12)).trans hx149_12
                                replace hx149_13 := (HB.out.cell (World.block_lt_of_cell? w _ hx149_13)).trans hx149_13
                                have HR149_7 := Aside0.mk hi149_7
                                have HC149_7 := Aside0.mk hl149_7
                                clear hi149_7 hl149_7
                                have HR149_8 := Aside0.mk hi149_8
                                have HC149_8 := Aside0.mk hl149_8
                                clear hi149_8 hl149_8
                                have HR149_11 := Aside0.mk hi149_11
                                have HC149_11 := Aside0.mk hl149_11
                                clear hi149_11 hl149_11
                                have HR149_13 := Aside0.mk hi149_13
                                have HC149_13 := Aside0.mk hl149_13
                                clear hi149_13 hl149_13
                                replace p149 := eq_true p149
                                replace q149 := eq_true q149
                                have ea_ := Option.some.inj (hx148_7.symm.trans hx149_7)
                                injection ea_ with ea_ en_ ec_
                                subst ea_
                                subst ec_
                                clear en_
                                have ea_ := Option.some.inj (hx148_8.symm.trans hx149_8)
                                injection ea_ with ea_ en_ ec_
                                subst ea_
                                subst ec_
                                clear en_
                                have ea_ := Option.some.inj (hx148_11.symm.trans hx149_11)
                                injection ea_ with ea_ en_ ec_
                                subst ea_
                                subst ec_
                                clear en_
                                have ea_ := Option.some.inj (hx148_13.symm.trans hx149_13)
                                injection ea_ with ea_ en_ ec_
                                subst ea_
                                subst ec_
                                clear en_
                                go_wp2
                                repeat (go_quiet (fail); try go_wp2)
                                go_roundg k3
                                case measure => have := HK1.out; have := HJ28.out; have := HK3.out; omega
                                case rel => exact ⟨(wrap64 (x10_3 + 1)), (by first | rfl | (simp; done) | (simp [*]; done) | (simp; exact isEmpty_bne _) | (simp [*]; exact isEmpty_bne _)), H', ⟨by have := HK1.out; have := HJ28.out; have := HK3.out; omega⟩, ⟨by (with_reducible repeat (first | refine blk_drewN ?_ _ | refine blk_drew ?_ | refine blk_alloc ?_ _)); exact BK143.out⟩, ⟨by repeat (first | (with_reducible first | exact HB.out | apply below_alloc | apply pw_below_drewN | apply below_drew1 | refine below_set ?_ GE143.out) | exact HB.out)⟩⟩
                            · rw [if_neg c48] at H
                              have c48b0 : (((rd_T33 l0_1 x10_3).f0) == 3) = false := beq_eq_false_iff_ne.mpr c48
                              have c48b1 : (((rd_T33 l0_1 x10_3).f0) != 3) = true := bne_iff_ne.mpr c48
                              have H' := Aside0.mk H
                              clear H
                              have hcz57_0 : wr.cell? ⟨gb143, 0, none⟩ = some (.string a0_0) := (blk_cell BK143.out 0).trans rfl
                              have hcz57_1 : wr.cell? ⟨gb143, 1, none⟩ = some (.slice A0_1 l0_1.length c0_1) := (blk_cell BK143.out 1).trans rfl
                              have hfz57_0 := blk_frozen BK143.out 0
                              have hfz57_1 := blk_frozen BK143.out 1
                              have p148 : 0 ≤ (x10_3 : Int) := of_decide_eq_true (by first | (with_reducible assumption) | assumption)
                              have q148 : x10_3 < (l0_1.length : Int) := of_decide_eq_true (by first | (with_reducible assumption) | assumption)
                              obtain ⟨ad148, A148_7, c148_7, A148_8, c148_8, A148_11, c148_11, A148_13, c148_13, e148, hx148_0, hx148_1, hx148_2, hx148_3, hx148_4, hx148_5, hx148_6, hx148_7, hx148_8, hx148_9, hx148_10, hx148_11, hx148_12, hx148_13, hl148_7, hi148_7, hl148_8, hi148_8, hl148_11, hi148_11, hl148_13, hi148_13⟩ := at_T33 HR0_1.out x10_3 p148 q148
                              cases e148
                              replace hx148_0 := (HB.out.cell (World.block_lt_of_cell? w _ hx148_0)).trans hx148_0
                              replace hx148_1 := (HB.out.cell (World.block_lt_of_cell? w _ hx148_1)).trans hx148_1
                              replace hx148_2 := (HB.out.cell (World.block_lt_of_cell? w _ hx148_2)).trans hx148_2
                              replace hx148_3 := (HB.out.cell (World.block_lt_of_cell? w _ hx148_3)).trans hx148_3
                              replace hx148_4 := (HB.out.cell (World.block_lt_of_cell? w _ hx148_4)).trans hx148_4
                              replace hx148_5 := (HB.out.cell (World.block_lt_of_cell? w _ hx148_5)).trans hx148_5
                              replace hx148_6 := (HB.out.cell (World.block_lt_of_cell? w _ hx148_6)).trans hx148_6
                              replace hx148_7 := (HB.out.cell (World.block_lt_of_cell? w _ hx148_7)).trans hx148_7
                              replace hx148_8 := (HB.out.cell (World.block_lt_of_cell? w _ hx148_8)).trans hx148_8
                              replace hx148_9 := (HB.out.cell (World.block_lt_of_cell? w _ hx148_9)).trans hx148_9
                              replace hx148_10 := (HB.out.cell (World.block_lt_of_cell? w _ hx148_10)).trans hx148_10
                              replace hx148_11 := (HB.out.cell (World.block_lt_of_cell? w _ hx148_11)).trans hx148_11
                              replace hx148_12 := (HB.out.cell (World.block_lt_of_cell? w _ hx148_12)).trans hx148_12
                              replace hx148_13 := (HB.out.cell (World.block_lt_of_cell? w _ hx148_13)).trans hx148_13
                              have HR148_7 := Aside0.mk hi148_7
                              have HC148_7 := Aside0.mk hl148_7
                              clear hi148_7 hl148_7
                              have HR148_8 := Aside0.mk hi148_8
                              have HC148_8 := Aside0.mk hl148_8
                              clear hi148_8 hl148_8
                              have HR148_11 := Aside0.mk hi148_11
                              have HC148_11 := Aside0.mk hl148_11
                              clear hi148_11 hl148_11
                              have HR148_13 := Aside0.mk hi148_13
                              have HC148_13 := Aside0.mk hl148_13
                              clear hi148_13 hl148_13
                              replace p148 := eq_true p148
                              replace q148 := eq_true q148
                              go_wp2
                              repeat (go_quiet (fail); try go_wp2)
                              go_roundg k3
                              case measure => have := HK1.out; have := HJ28.out; have := HK3.out; omega
                              case rel => exact ⟨(wrap64 (x10_3 + 1)), (by first | rfl | (simp; done) | (simp [*]; done) | (simp; exact isEmpty_bne _) | (simp [*]; exact isEmpty_bne _)), H', ⟨by have := HK1.out; have := HJ28.out; have := HK3.out; omega⟩, ⟨by (with_reducible repeat (first | refine blk_drewN ?_ _ | refine blk_drew ?_ | refine blk_alloc ?_ _)); exact BK143.out⟩, ⟨by repeat (first | (with_reducible first | exact HB.out | apply below_alloc | apply pw_below_drewN | apply below_drew1 | refine below_set ?_ GE143.out) | exact HB.out)⟩⟩
                          · rw [if_neg c47] at H
                            exact absurd H (by simp)
                        · rw [if_neg c46] at H
                          have c46b0 : decide (x10_3 < (l0_1.length : Int)) = false := decide_eq_false c46
                          clear c46
                          by_cases c58 : 0 ≤ t147
                          · rw [if_pos c58] at H
                            have c58b0 : decide (0 ≤ t147) = true := decide_eq_true c58
                            clear c58
                            by_cases c59 : t147 < (l0_1.length : Int)
                            · rw [if_pos c59] at H
                              have c59b0 : decide (t147 < (l0_1.length : Int)) = true := decide_eq_true c59
                              clear c59
                              obtain rfl := Option.some.inj H
                              have hcz60_0 : wr.cell? ⟨gb143, 0, none⟩ = some (.string a0_0) := (blk_cell BK143.out 0).trans rfl
                              have hcz60_1 : wr.cell? ⟨gb143, 1, none⟩ = some (.slice A0_1 l0_1.length c0_1) := (blk_cell BK143.out 1).trans rfl
                              have hfz60_0 := blk_frozen BK143.out 0
                              have hfz60_1 := blk_frozen BK143.out 1
                              have p152 : 0 ≤ (t147 : Int) := of_decide_eq_true (by first | (with_reducible assumption) | assumption)
                              have q152 : t147 < (l0_1.length : Int) := of_decide_eq_true (by first | (with_reducible assumption) | assumption)
                              obtain ⟨ad152, A152_7, c152_7, A152_8, c152_8, A152_11, c152_11, A152_13, c152_13, e152, hx152_0, hx152_1, hx152_2, hx152_3, hx152_4, hx152_5, hx152_6, hx152_7, hx152_8, hx152_9, hx152_10, hx152_11, hx152_12, hx152_13, hl152_7, hi152_7, hl152_8, hi152_8, hl152_11, hi152_11, hl152_13, hi152_13⟩ := at_T33 HR0_1.out t147 p152 q152
                              cases e152
                              replace hx152_0 := (HB.out.cell (World.block_lt_of_cell? w _ hx152_0)).trans hx152_0
                              replace hx152_1 := (HB.out.cell (World.block_lt_of_cell? w _ hx152_1)).trans hx152_1
                              replace hx152_2 := (HB.out.cell (World.block_lt_of_cell? w _ hx152_2)).trans hx152_2
                              replace hx152_3 := (HB.out.cell (World.block_lt_of_cell? w _ hx152_3)).trans hx152_3
                              replace hx152_4 := (HB.out.cell (World.block_lt_of_cell? w _ hx152_4)).trans hx152_4
                              replace hx152_5 := (HB.out.cell (World.block_lt_of_cell? w _ hx152_5)).trans hx152_5
                              replace hx152_6 := (HB.out.cell (World.block_lt_of_cell? w _ hx152_6)).trans hx152_6
                              replace hx152_7 := (HB.out.cell (World.block_lt_of_cell? w _ hx152_7)).trans hx152_7
                              replace hx152_8 := (HB.out.cell (World.block_lt_of_cell? w _ hx152_8)).trans hx152_8
                              replace hx152_9 := (HB.out.cell (World.block_lt_of_cell? w _ hx152_9)).trans hx152_9
                              replace hx152_10 := (HB.out.cell (World.block_lt_of_cell? w _ hx152_10)).trans hx152_10
                              replace hx152_11 := (HB.out.cell (World.block_lt_of_cell? w _ hx152_11)).trans hx152_11
                              replace hx152_12 := (HB.out.cell (World.block_lt_of_cell? w _ hx152_12)).trans hx152_12
                              replace hx152_13 := (HB.out.cell (World.block_lt_of_cell? w _ hx152_13)).trans hx152_13
                              have HR152_7 := Aside0.mk hi152_7
                              have HC152_7 := Aside0.mk hl152_7
                              clear hi152_7 hl152_7
                              have HR152_8 := Aside0.mk hi152_8
                              have HC152_8 := Aside0.mk hl152_8
                              clear hi152_8 hl152_8
                              have HR152_11 := Aside0.mk hi152_11
                              have HC152_11 := Aside0.mk hl152_11
                              clear hi152_11 hl152_11
                              have HR152_13 := Aside0.mk hi152_13
                              have HC152_13 := Aside0.mk hl152_13
                              clear hi152_13 hl152_13
                              replace p152 := eq_true p152
                              replace q152 := eq_true q152
                              go_wp2
                              repeat (go_quiet (fail); try go_wp2)
                              go_ret
                              exact ⟨by first | rfl | (simp [errW_none, errW_some] <;> rfl) | (simp [*, errW_none, errW_some] <;> rfl), by repeat (first | (with_reducible first | exact HB.out | apply below_alloc | apply pw_below_drewN | apply below_drew1 | refine below_set ?_ GE143.out) | exact HB.out)⟩
                            · rw [if_neg c59] at H
                              exact absurd H (by simp)
                          · rw [if_neg c58] at H
                            exact absurd H (by simp)
end Go.Proofs.Ytfnmploaklboiaa.V
