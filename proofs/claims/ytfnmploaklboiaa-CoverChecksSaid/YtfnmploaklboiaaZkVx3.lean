import Derived.Test.YtfnmploaklboiaaZkVx0
namespace Go.Proofs.Ytfnmploaklboiaa.V
open Go.RowKit Go.Proofs.YtfnmploaklboiaaW.PrintWords Go.Proofs.YtfnmploaklboiaaW.PrintLast Go.Proofs.YtfnmploaklboiaaW.PrintMore Go.Proofs.Ytfnmploaklboiaa.A
attribute [local go_sem] max2_int min2_int max_two min_two max_three min_three max_four min_four   -- for this text's walks alone
set_option linter.unusedVariables false
set_option linter.unusedSimpArgs false
/-! ### haspref22_Opened: function 29 -/
def haspref22_Opened.l0 : Nat → Int → Int → ByteArray → List (S33) → Option (Int)
  | 0, _, _, _, _ => none
  | k + 1, x1, x5, x123000, x123001 => if x5 < (x123001.length : Int) then (if 0 ≤ x5 then (if ((rd_T33 x123001 x5).f0) = 2 then (if ((rd_T33 x123001 x5).f1) = x1 then (some x5) else (haspref22_Opened.l0 k x1 (wrap64 (x5 + 1)) x123000 x123001)) else (haspref22_Opened.l0 k x1 (wrap64 (x5 + 1)) x123000 x123001)) else (none)) else (some (-1))
def haspref22_Opened.f (k : Nat) (a0_0 : ByteArray) (l0_1 : List (S33)) (a1 : Int) : Option (Int) := haspref22_Opened.l0 k a1 0 a0_0 l0_1
set_option maxHeartbeats 8000000 in
set_option maxRecDepth 100000 in
theorem haspref22_Opened.calls (k : Nat) (a0_0 : ByteArray) (A0_1 : Option Addr) (c0_1 : Nat) (l0_1 : List (S33)) (a1 : Int) (r : Int) (w : World) (hr0_1 : Kd.C k33 w A0_1 l0_1.length l0_1) (hc0_1 : l0_1.length ≤ c0_1) (h : haspref22_Opened.f k a0_0 l0_1 a1 = some r) :
    Calls Try.prog 29 #[.agg #[.string a0_0, .slice A0_1 l0_1.length c0_1], .int .i64 a1] w fun e w' => e = .returned (.int .i64 r) ∧ Below w.heap.size w w' := by
  have hu25 := Try.underlying25
  have HR0_1 := Aside0.mk hr0_1
  have HC0_1 := Aside0.mk hc0_1
  clear hr0_1 hc0_1
  have HB := Aside0.mk (Below.refl w.heap.size w)
  have H : (haspref22_Opened.l0 k a1 0 a0_0 l0_1) = some r := h
  clear h
  have H' := Aside0.mk H
  clear H
  go_enter Try.func29, Try.ntmps29
  go_wp2_with (first | ((with_reducible refine gate_dst (N := 2) rfl ?_); refine box_event ?hg (N := 2) ?hd (cs := #[.string a0_0, .slice A0_1 l0_1.length c0_1]) (t := 25) ?hr ?_; (case hd => rfl); (case hg => rfl); (case hr => first | (go_simp; done) | (go_simp; rfl)); intro gb122 hg w3 hbox hb; have n0_ := Aside0.mk (below_step (by repeat (first | (with_reducible first | exact HB.out | apply below_alloc | apply pw_below_drewN | apply below_drew1) | exact HB.out)) hb); have n1_ := Aside0.mk (hbox); have n2_ := Aside0.mk ((by rw [hg]; exact (below_size (by repeat (first | (with_reducible first | exact HB.out | apply below_alloc | apply pw_below_drewN | apply below_drew1) | exact HB.out))) : w.heap.size ≤ gb122)); have n3_ := Aside0.mk ((by rw [hg]; exact (below_size (by repeat (first | (with_reducible first | exact HB.out | apply below_alloc | apply pw_below_drewN | apply below_drew1) | exact HB.out))) : w.heap.size ≤ gb122)); clear HB; have HB := n0_; have BK122 := n1_; have GW122 := n2_; have GE122 := n3_; clear n0_ n1_ n2_ n3_; clear hb hbox hg))
  go_loopg [5] k (fun kq v5 w' => ∃ (x5_1 : Int), v5 = .int .i64 x5_1 ∧ Aside0 (haspref22_Opened.l0 kq a1 x5_1 a0_0 l0_1 = some r) ∧ Aside0 (kq ≤ k) ∧ Aside0 (w'.heap[gb122]? = some (.cells #[.string a0_0, (.slice A0_1 l0_1.length c0_1)] 25 (0, 0))) ∧ Aside0 (Below w.heap.size w w'))
  case atStart => exact ⟨(0), (by first | rfl | (simp; done) | (simp [*]; done) | (simp; exact isEmpty_bne _) | (simp [*]; exact isEmpty_bne _)), H', ⟨Nat.le_refl _⟩, ⟨by (with_reducible repeat (first | refine blk_drewN ?_ _ | refine blk_drew ?_ | refine blk_alloc ?_ _)); exact BK122.out⟩, ⟨by repeat (first | (with_reducible first | exact HB.out | apply below_alloc | apply pw_below_drewN | apply below_drew1 | refine below_set ?_ GE122.out) | exact HB.out)⟩⟩
  case round =>
    clear H'
    try clear c2
    try clear p2
    obtain ⟨x5_1, rfl, HA, HK1, BK122, HB⟩ := hrel
    cases gk with
    | zero => exact absurd HA.out (by simp [haspref22_Opened.l0])
    | succ k1 =>
      have H := HA.out
      clear HA
      simp only [haspref22_Opened.l0] at H
      by_cases c4 : x5_1 < (l0_1.length : Int)
      · rw [if_pos c4] at H
        have c4b0 : decide (x5_1 < (l0_1.length : Int)) = true := decide_eq_true c4
        clear c4
        by_cases c5 : 0 ≤ x5_1
        · rw [if_pos c5] at H
          have c5b0 : decide (0 ≤ x5_1) = true := decide_eq_true c5
          clear c5
          by_cases c6 : ((rd_T33 l0_1 x5_1).f0) = 2
          · rw [if_pos c6] at H
            have c6b0 : (((rd_T33 l0_1 x5_1).f0) == 2) = true := beq_iff_eq.mpr c6
            have c6b1 : (((rd_T33 l0_1 x5_1).f0) != 2) = false := bne_eq_false_iff_eq.mpr c6
            clear c6
            by_cases c7 : ((rd_T33 l0_1 x5_1).f1) = a1
            · rw [if_pos c7] at H
              have c7b0 : (((rd_T33 l0_1 x5_1).f1) == a1) = true := beq_iff_eq.mpr c7
              have c7b1 : (((rd_T33 l0_1 x5_1).f1) != a1) = false := bne_eq_false_iff_eq.mpr c7
              clear c7
              obtain rfl := Option.some.inj H
              have hcz8_0 : wr.cell? ⟨gb122, 0, none⟩ = some (.string a0_0) := (blk_cell BK122.out 0).trans rfl
              have hcz8_1 : wr.cell? ⟨gb122, 1, none⟩ = some (.slice A0_1 l0_1.length c0_1) := (blk_cell BK122.out 1).trans rfl
              have hfz8_0 := blk_frozen BK122.out 0
              have hfz8_1 := blk_frozen BK122.out 1
              have p123 : 0 ≤ (x5_1 : Int) := of_decide_eq_true (by first | (with_reducible assumption) | assumption)
              have q123 : x5_1 < (l0_1.length : Int) := of_decide_eq_true (by first | (with_reducible assumption) | assumption)
              obtain ⟨ad123, A123_7, c123_7, A123_8, c123_8, A123_11, c123_11, A123_13, c123_13, e123, hx123_0, hx123_1, hx123_2, hx123_3, hx123_4, hx123_5, hx123_6, hx123_7, hx123_8, hx123_9, hx123_10, hx123_11, hx123_12, hx123_13, hl123_7, hi123_7, hl123_8, hi123_8, hl123_11, hi123_11, hl123_13, hi123_13⟩ := at_T33 HR0_1.out x5_1 p123 q123
              cases e123
              replace hx123_0 := (HB.out.cell (World.block_lt_of_cell? w _ hx123_0)).trans hx123_0
              replace hx123_1 := (HB.out.cell (World.block_lt_of_cell? w _ hx123_1)).trans hx123_1
              replace hx123_2 := (HB.out.cell (World.block_lt_of_cell? w _ hx123_2)).trans hx123_2
              replace hx123_3 := (HB.out.cell (World.block_lt_of_cell? w _ hx123_3)).trans hx123_3
              replace hx123_4 := (HB.out.cell (World.block_lt_of_cell? w _ hx123_4)).trans hx123_4
              replace hx123_5 := (HB.out.cell (World.block_lt_of_cell? w _ hx123_5)).trans hx123_5
              replace hx123_6 := (HB.out.cell (World.block_lt_of_cell? w _ hx123_6)).trans hx123_6
              replace hx123_7 := (HB.out.cell (World.block_lt_of_cell? w _ hx123_7)).trans hx123_7
              replace hx123_8 := (HB.out.cell (World.block_lt_of_cell? w _ hx123_8)).trans hx123_8
              replace hx123_9 := (HB.out.cell (World.block_lt_of_cell? w _ hx123_9)).trans hx123_9
              replace hx123_10 := (HB.out.cell (World.block_lt_of_cell? w _ hx123_10)).trans hx123_10
              replace hx123_11 := (HB.out.cell (World.block_lt_of_cell? w _ hx123_11)).trans hx123_11
              replace hx123_12 := (HB.out.cell (World.block_lt_of_cell? w _ hx123_12)).trans hx123_12
              replace hx123_13 := (HB.out.cell (World.block_lt_of_cell? w _ hx123_13)).trans hx123_13
              have HR123_7 := Aside0.mk hi123_7
              have HC123_7 := Aside0.mk hl123_7
              clear hi123_7 hl123_7
              have HR123_8 := Aside0.mk hi123_8
              have HC123_8 := Aside0.mk hl123_8
              clear hi123_8 hl123_8
              have HR123_11 := Aside0.mk hi123_11
              have HC123_11 := Aside0.mk hl123_11
              clear hi123_11 hl123_11
              have HR123_13 := Aside0.mk hi123_13
              have HC123_13 := Aside0.mk hl123_13
              clear hi123_13 hl123_13
              replace p123 := eq_true p123
              replace q123 := eq_true q123
              have p124 : 0 ≤ (x5_1 : Int) := of_decide_eq_true (by first | (with_reducible assumption) | assumption)
              have q124 : x5_1 < (l0_1.length : Int) := of_decide_eq_true (by first | (with_reducible assumption) | assumption)
              obtain ⟨ad124, A124_7, c124_7, A124_8, c124_8, A124_11, c124_11, A124_13, c124_13, e124, hx124_0, hx124_1, hx124_2, hx124_3, hx124_4, hx124_5, hx124_6, hx124_7, hx124_8, hx124_9, hx124_10, hx124_11, hx124_12, hx124_13, hl124_7, hi124_7, hl124_8, hi124_8, hl124_11, hi124_11, hl124_13, hi124_13⟩ := at_T33 HR0_1.out x5_1 p124 q124
              obtain rfl : ad123 = ad124 := (by injection e124)
              replace hx124_0 := (HB.out.cell (World.block_lt_of_cell? w _ hx124_0)).trans hx124_0
              replace hx124_1 := (HB.out.cell (World.block_lt_of_cell? w _ hx124_1)).trans hx124_1
              replace hx124_2 := (HB.out.cell (World.block_lt_of_cell? w _ hx124_2)).trans hx124_2
              replace hx124_3 := (HB.out.cell (World.block_lt_of_cell? w _ hx124_3)).trans hx124_3
              replace hx124_4 := (HB.out.cell (World.block_lt_of_cell? w _ hx124_4)).trans hx124_4
              replace hx124_5 := (HB.out.cell (World.block_lt_of_cell? w _ hx124_5)).trans hx124_5
              replace hx124_6 := (HB.out.cell (World.block_lt_of_cell? w _ hx124_6)).trans hx124_6
              replace hx124_7 := (HB.out.cell (World.block_lt_of_cell? w _ hx124_7)).trans hx124_7
              replace hx124_8 := (HB.out.cell (World.block_lt_of_cell? w _ hx124_8)).trans hx124_8
              replace hx124_9 := (HB.out.cell (World.block_lt_of_cell? w _ hx124_9)).trans hx124_9
              replace hx124_10 := (HB.out.cell (World.block_lt_of_cell? w _ hx124_10)).trans hx124_10
              replace hx124_11 := (HB.out.cell (World.block_lt_of_cell? w _ hx124_11)).trans hx124_11
              replace hx124_12 := (HB.out.cell (World.block_lt_of_cell? w _ hx124_12)).trans hx124_12
              replace hx124_13 := (HB.out.cell (World.block_lt_of_cell? w _ hx124_13)).trans hx124_13
              have HR124_7 := Aside0.mk hi124_7
              have HC124_7 := Aside0.mk hl124_7
              clear hi124_7 hl124_7
              have HR124_8 := Aside0.mk hi124_8
              have HC124_8 := Aside0.mk hl124_8
              clear hi124_8 hl124_8
              have HR124_11 := Aside0.mk hi124_11
              have HC124_11 := Aside0.mk hl124_11
              clear hi124_11 hl124_11
              have HR124_13 := Aside0.mk hi124_13
              have HC124_13 := Aside0.mk hl124_13
              clear hi124_13 hl124_13
              replace p124 := eq_true p124
              replace q124 := eq_true q124
              have ea_ := Option.some.inj (hx123_7.symm.trans hx124_7)
              injection ea_ with ea_ en_ ec_
              subst ea_
              subst ec_
              clear en_
              have ea_ := Option.some.inj (hx123_8.symm.trans hx124_8)
              injection ea_ with ea_ en_ ec_
              subst ea_
              subst ec_
              clear en_
              have ea_ := Option.some.inj (hx123_11.symm.trans hx124_11)
              injection ea_ with ea_ en_ ec_
              subst ea_
              subst ec_
              clear en_
              have ea_ := Option.some.inj (hx123_13.symm.trans hx124_13)
              injection ea_ with ea_ en_ ec_
              subst ea_
              subst ec_
              clear en_
              go_wp2
              go_ret
              exact ⟨by first | rfl | (simp [errW_none, errW_some] <;> rfl) | (simp [*, errW_none, errW_some] <;> rfl), by repeat (first | (with_reducible first | exact HB.out | apply below_alloc | apply pw_below_drewN | apply below_drew1 | refine below_set ?_ GE122.out) | exact HB.out)⟩
            · rw [if_neg c7] at H
              have c7b0 : (((rd_T33 l0_1 x5_1).f1) == a1) = false := beq_eq_false_iff_ne.mpr c7
              have c7b1 : (((rd_T33 l0_1 x5_1).f1) != a1) = true := bne_iff_ne.mpr c7
              have H' := Aside0.mk H
              clear H
              have hcz9_0 : wr.cell? ⟨gb122, 0, none⟩ = some (.string a0_0) := (blk_cell BK122.out 0).trans rfl
              have hcz9_1 : wr.cell? ⟨gb122, 1, none⟩ = some (.slice A0_1 l0_1.length c0_1) := (blk_cell BK122.out 1).trans rfl
              have hfz9_0 := blk_frozen BK122.out 0
              have hfz9_1 := blk_frozen BK122.out 1
              have p123 : 0 ≤ (x5_1 : Int) := of_decide_eq_true (by first | (with_reducible assumption) | assumption)
              have q123 : x5_1 < (l0_1.length : Int) := of_decide_eq_true (by first | (with_reducible assumption) | assumption)
              obtain ⟨ad123, A123_7, c123_7, A123_8, c123_8, A123_11, c123_11, A123_13, c123_13, e123, hx123_0, hx123_1, hx123_2, hx123_3, hx123_4, hx123_5, hx123_6, hx123_7, hx123_8, hx123_9, hx123_10, hx123_11, hx123_12, hx123_13, hl123_7, hi123_7, hl123_8, hi123_8, hl123_11, hi123_11, hl123_13, hi123_13⟩ := at_T33 HR0_1.out x5_1 p123 q123
              cases e123
              replace hx123_0 := (HB.out.cell (World.block_lt_of_cell? w _ hx123_0)).trans hx123_0
              replace hx123_1 := (HB.out.cell (World.block_lt_of_cell? w _ hx123_1)).trans hx123_1
              replace hx123_2 := (HB.out.cell (World.block_lt_of_cell? w _ hx123_2)).trans hx123_2
              replace hx123_3 := (HB.out.cell (World.block_lt_of_cell? w _ hx123_3)).trans hx123_3
              replace hx123_4 := (HB.out.cell (World.block_lt_of_cell? w _ hx123_4)).trans hx123_4
              replace hx123_5 := (HB.out.cell (World.block_lt_of_cell? w _ hx123_5)).trans hx123_5
              replace hx123_6 := (HB.out.cell (World.block_lt_of_cell? w _ hx123_6)).trans hx123_6
              replace hx123_7 := (HB.out.cell (World.block_lt_of_cell? w _ hx123_7)).trans hx123_7
              replace hx123_8 := (HB.out.cell (World.block_lt_of_cell? w _ hx123_8)).trans hx123_8
              replace hx123_9 := (HB.out.cell (World.block_lt_of_cell? w _ hx123_9)).trans hx123_9
              replace hx123_10 := (HB.out.cell (World.block_lt_of_cell? w _ hx123_10)).trans hx123_10
              replace hx123_11 := (HB.out.cell (World.block_lt_of_cell? w _ hx123_11)).trans hx123_11
              replace hx123_12 := (HB.out.cell (World.block_lt_of_cell? w _ hx123_12)).trans hx123_12
              replace hx123_13 := (HB.out.cell (World.block_lt_of_cell? w _ hx123_13)).trans hx123_13
              have HR123_7 := Aside0.mk hi123_7
              have HC123_7 := Aside0.mk hl123_7
              clear hi123_7 hl123_7
              have HR123_8 := Aside0.mk hi123_8
              have HC123_8 := Aside0.mk hl123_8
              clear hi123_8 hl123_8
              have HR123_11 := Aside0.mk hi123_11
              have HC123_11 := Aside0.mk hl123_11
              clear hi123_11 hl123_11
              have HR123_13 := Aside0.mk hi123_13
              have HC123_13 := Aside0.mk hl123_13
              clear hi123_13 hl123_13
              replace p123 := eq_true p123
              replace q123 := eq_true q123
              have p124 : 0 ≤ (x5_1 : Int) := of_decide_eq_true (by first | (with_reducible assumption) | assumption)
              have q124 : x5_1 < (l0_1.length : Int) := of_decide_eq_true (by first | (with_reducible assumption) | assumption)
              obtain ⟨ad124, A124_7, c124_7, A124_8, c124_8, A124_11, c124_11, A124_13, c124_13, e124, hx124_0, hx124_1, hx124_2, hx124_3, hx124_4, hx124_5, hx124_6, hx124_7, hx124_8, hx124_9, hx124_10, hx124_11, hx124_12, hx124_13, hl124_7, hi124_7, hl124_8, hi124_8, hl124_11, hi124_11, hl124_13, hi124_13⟩ := at_T33 HR0_1.out x5_1 p124 q124
              obtain rfl : ad123 = ad124 := (by injection e124)
              replace hx124_0 := (HB.out.cell (World.block_lt_of_cell? w _ hx124_0)).trans hx124_0
              replace hx124_1 := (HB.out.cell (World.block_lt_of_cell? w _ hx124_1)).trans hx124_1
              replace hx124_2 := (HB.out.cell (World.block_lt_of_cell? w _ hx124_2)).trans hx124_2
              replace hx124_3 := (HB.out.cell (World.block_lt_of_cell? w _ hx124_3)).trans hx124_3
              replace hx124_4 := (HB.out.cell (World.block_lt_of_cell? w _ hx124_4)).trans hx124_4
              replace hx124_5 := (HB.out.cell (World.block_lt_of_cell? w _ hx124_5)).trans hx124_5
              replace hx124_6 := (HB.out.cell (World.block_lt_of_cell? w _ hx124_6)).trans hx124_6
              replace hx124_7 := (HB.out.cell (World.block_lt_of_cell? w _ hx124_7)).trans hx124_7
              replace hx124_8 := (HB.out.cell (World.block_lt_of_cell? w _ hx124_8)).trans hx124_8
              replace hx124_9 := (HB.out.cell (World.block_lt_of_cell? w _ hx124_9)).trans hx124_9
              replace hx124_10 := (HB.out.cell (World.block_lt_of_cell? w _ hx124_10)).trans hx124_10
              replace hx124_11 := (HB.out.cell (World.block_lt_of_cell? w _ hx124_11)).trans hx124_11
              replace hx124_12 := (HB.out.cell (World.block_lt_of_cell? w _ hx124_12)).trans hx124_12
              replace hx124_13 := (HB.out.cell (World.block_lt_of_cell? w _ hx124_13)).trans hx124_13
              have HR124_7 := Aside0.mk hi124_7
              have HC124_7 := Aside0.mk hl124_7
              clear hi124_7 hl124_7
              have HR124_8 := Aside0.mk hi124_8
              have HC124_8 := Aside0.mk hl124_8
              clear hi124_8 hl124_8
              have HR124_11 := Aside0.mk hi124_11
              have HC124_11 := Aside0.mk hl124_11
              clear hi124_11 hl124_11
              have HR124_13 := Aside0.mk hi124_13
              have HC124_13 := Aside0.mk hl124_13
              clear hi124_13 hl124_13
              replace p124 := eq_true p124
              replace q124 := eq_true q124
              have ea_ := Option.some.inj (hx123_7.symm.trans hx124_7)
              injection ea_ with ea_ en_ ec_
              subst ea_
              subst ec_
              clear en_
              have ea_ := Option.some.inj (hx123_8.symm.trans hx124_8)
              injection ea_ with ea_ en_ ec_
              subst ea_
              subst ec_
              clear en_
              have ea_ := Option.some.inj (hx123_11.symm.trans hx124_11)
              injection ea_ with ea_ en_ ec_
              subst ea_
              subst ec_
              clear en_
              have ea_ := Option.some.inj (hx123_13.symm.trans hx124_13)
              injection ea_ with ea_ en_ ec_
              subst ea_
              subst ec_
              clear en_
              go_wp2
              go_roundg k1
              case measure => have := HK1.out; omega
              case rel => exact ⟨(wrap64 (x5_1 + 1)), (by first | rfl | (simp; done) | (simp [*]; done) | (simp; exact isEmpty_bne _) | (simp [*]; exact isEmpty_bne _)), H', ⟨by have := HK1.out; omega⟩, ⟨by (with_reducible repeat (first | refine blk_drewN ?_ _ | refine blk_drew ?_ | refine blk_alloc ?_ _)); exact BK122.out⟩, ⟨by repeat (first | (with_reducible first | exact HB.out | apply below_alloc | apply pw_below_drewN | apply below_drew1 | refine below_set ?_ GE122.out) | exact HB.out)⟩⟩
          · rw [if_neg c6] at H
            have c6b0 : (((rd_T33 l0_1 x5_1).f0) == 2) = false := beq_eq_false_iff_ne.mpr c6
            have c6b1 : (((rd_T33 l0_1 x5_1).f0) != 2) = true := bne_iff_ne.mpr c6
            have H' := Aside0.mk H
            clear H
            have hcz10_0 : wr.cell? ⟨gb122, 0, none⟩ = some (.string a0_0) := (blk_cell BK122.out 0).trans rfl
            have hcz10_1 : wr.cell? ⟨gb122, 1, none⟩ = some (.slice A0_1 l0_1.length c0_1) := (blk_cell BK122.out 1).trans rfl
            have hfz10_0 := blk_frozen BK122.out 0
            have hfz10_1 := blk_frozen BK122.out 1
            have p123 : 0 ≤ (x5_1 : Int) := of_decide_eq_true (by first | (with_reducible assumption) | assumption)
            have q123 : x5_1 < (l0_1.length : Int) := of_decide_eq_true (by first | (with_reducible assumption) | assumption)
            obtain ⟨ad123, A123_7, c123_7, A123_8, c123_8, A123_11, c123_11, A123_13, c123_13, e123, hx123_0, hx123_1, hx123_2, hx123_3, hx123_4, hx123_5, hx123_6, hx123_7, hx123_8, hx123_9, hx123_10, hx123_11, hx123_12, hx123_13, hl123_7, hi123_7, hl123_8, hi123_8, hl123_11, hi123_11, hl123_13, hi123_13⟩ := at_T33 HR0_1.out x5_1 p123 q123
            cases e123
            replace hx123_0 := (HB.out.cell (World.block_lt_of_cell? w _ hx123_0)).trans hx123_0
            replace hx123_1 := (HB.out.cell (World.block_lt_of_cell? w _ hx123_1)).trans hx123_1
            replace hx123_2 := (HB.out.cell (World.block_lt_of_cell? w _ hx123_2)).trans hx123_2
            replace hx123_3 := (HB.out.cell (World.block_lt_of_cell? w _ hx123_3)).trans hx123_3
            replace hx123_4 := (HB.out.cell (World.block_lt_of_cell? w _ hx123_4)).trans hx123_4
            replace hx123_5 := (HB.out.cell (World.block_lt_of_cell? w _ hx123_5)).trans hx123_5
            replace hx123_6 := (HB.out.cell (World.block_lt_of_cell? w _ hx123_6)).trans hx123_6
            replace hx123_7 := (HB.out.cell (World.block_lt_of_cell? w _ hx123_7)).trans hx123_7
            replace hx123_8 := (HB.out.cell (World.block_lt_of_cell? w _ hx123_8)).trans hx123_8
            replace hx123_9 := (HB.out.cell (World.block_lt_of_cell? w _ hx123_9)).trans hx123_9
            replace hx123_10 := (HB.out.cell (World.block_lt_of_cell? w _ hx123_10)).trans hx123_10
            replace hx123_11 := (HB.out.cell (World.block_lt_of_cell? w _ hx123_11)).trans hx123_11
            replace hx123_12 := (HB.out.cell (World.block_lt_of_cell? w _ hx123_12)).trans hx123_12
            replace hx123_13 := (HB.out.cell (World.block_lt_of_cell? w _ hx123_13)).trans hx123_13
            have HR123_7 := Aside0.mk hi123_7
            have HC123_7 := Aside0.mk hl123_7
            clear hi123_7 hl123_7
            have HR123_8 := Aside0.mk hi123_8
            have HC123_8 := Aside0.mk hl123_8
            clear hi123_8 hl123_8
            have HR123_11 := Aside0.mk hi123_11
            have HC123_11 := Aside0.mk hl123_11
            clear hi123_11 hl123_11
            have HR123_13 := Aside0.mk hi123_13
            have HC123_13 := Aside0.mk hl123_13
            clear hi123_13 hl123_13
            replace p123 := eq_true p123
            replace q123 := eq_true q123
            go_wp2
            go_roundg k1
            case measure => have := HK1.out; omega
            case rel => exact ⟨(wrap64 (x5_1 + 1)), (by first | rfl | (simp; done) | (simp [*]; done) | (simp; exact isEmpty_bne _) | (simp [*]; exact isEmpty_bne _)), H', ⟨by have := HK1.out; omega⟩, ⟨by (with_reducible repeat (first | refine blk_drewN ?_ _ | refine blk_drew ?_ | refine blk_alloc ?_ _)); exact BK122.out⟩, ⟨by repeat (first | (with_reducible first | exact HB.out | apply below_alloc | apply pw_below_drewN | apply below_drew1 | refine below_set ?_ GE122.out) | exact HB.out)⟩⟩
        · rw [if_neg c5] at H
          exact absurd H (by simp)
      · rw [if_neg c4] at H
        have c4b0 : decide (x5_1 < (l0_1.length : Int)) = false := decide_eq_false c4
        clear c4
        obtain rfl := Option.some.inj H
        have hcz11_0 : wr.cell? ⟨gb122, 0, none⟩ = some (.string a0_0) := (blk_cell BK122.out 0).trans rfl
        have hcz11_1 : wr.cell? ⟨gb122, 1, none⟩ = some (.slice A0_1 l0_1.length c0_1) := (blk_cell BK122.out 1).trans rfl
        have hfz11_0 := blk_frozen BK122.out 0
        have hfz11_1 := blk_frozen BK122.out 1
        go_wp2
        go_ret
        exact ⟨by first | rfl | (simp [errW_none, errW_some] <;> rfl) | (simp [*, errW_none, errW_some] <;> rfl), by repeat (first | (with_reducible first | exact HB.out | apply below_alloc | apply pw_below_drewN | apply below_drew1 | refine below_set ?_ GE122.out) | exact HB.out)⟩
/-! ### haspref22_Mode: function 30 -/
def haspref22_Mode.l0 : Nat → ByteArray → Int → Int → ByteArray → List (S33) → Option (Int)
  | 0, _, _, _, _, _ => none
  | k + 1, x1, x5, x6, x126000, x126001 => if x6 < (x126001.length : Int) then (if 0 ≤ x6 then (if ((rd_T33 x126001 x6).f0) = 1 then (if ((rd_T33 x126001 x6).f5).toList = x1.toList then ((haspref09_Join.f x5 ((rd_T33 x126001 x6).f3)).bind fun t129 => (haspref22_Mode.l0 k x1 t129 (wrap64 (x6 + 1)) x126000 x126001)) else (haspref22_Mode.l0 k x1 x5 (wrap64 (x6 + 1)) x126000 x126001)) else (haspref22_Mode.l0 k x1 x5 (wrap64 (x6 + 1)) x126000 x126001)) else (none)) else (some x5)
def haspref22_Mode.f (k : Nat) (a0_0 : ByteArray) (l0_1 : List (S33)) (a1 : ByteArray) : Option (Int) := haspref22_Mode.l0 k a1 0 0 a0_0 l0_1
set_option maxHeartbeats 8000000 in
set_option maxRecDepth 100000 in
theorem haspref22_Mode.calls (k : Nat) (a0_0 : ByteArray) (A0_1 : Option Addr) (c0_1 : Nat) (l0_1 : List (S33)) (a1 : ByteArray) (r : Int) (w : World) (hr0_1 : Kd.C k33 w A0_1 l0_1.length l0_1) (hc0_1 : l0_1.length ≤ c0_1) (h : haspref22_Mode.f k a0_0 l0_1 a1 = some r) :
    Calls Try.prog 30 #[.agg #[.string a0_0, .slice A0_1 l0_1.length c0_1], .string a1] w fun e w' => e = .returned (.int .i64 r) ∧ Below w.heap.size w w' := by
  have hu25 := Try.underlying25
  have HR0_1 := Aside0.mk hr0_1
  have HC0_1 := Aside0.mk hc0_1
  clear hr0_1 hc0_1
  have HB := Aside0.mk (Below.refl w.heap.size w)
  have H : (haspref22_Mode.l0 k a1 0 0 a0_0 l0_1) = some r := h
  clear h
  have H' := Aside0.mk H
  clear H
  go_enter Try.func30, Try.ntmps30
  go_wp2_with (first | ((with_reducible refine gate_dst (N := 2) rfl ?_); refine box_event ?hg (N := 2) ?hd (cs := #[.string a0_0, .slice A0_1 l0_1.length c0_1]) (t := 25) ?hr ?_; (case hd => rfl); (case hg => rfl); (case hr => first | (go_simp; done) | (go_simp; rfl)); intro gb125 hg w3 hbox hb; have n0_ := Aside0.mk (below_step (by repeat (first | (with_reducible first | exact HB.out | apply below_alloc | apply pw_below_drewN | apply below_drew1) | exact HB.out)) hb); have n1_ := Aside0.mk (hbox); have n2_ := Aside0.mk ((by rw [hg]; exact (below_size (by repeat (first | (with_reducible first | exact HB.out | apply below_alloc | apply pw_below_drewN | apply below_drew1) | exact HB.out))) : w.heap.size ≤ gb125)); have n3_ := Aside0.mk ((by rw [hg]; exact (below_size (by repeat (first | (with_reducible first | exact HB.out | apply below_alloc | apply pw_below_drewN | apply below_drew1) | exact HB.out))) : w.heap.size ≤ gb125)); clear HB; have HB := n0_; have BK125 := n1_; have GW125 := n2_; have GE125 := n3_; clear n0_ n1_ n2_ n3_; clear hb hbox hg))
  go_loopg [5, 6] k (fun kq v5 v6 w' => ∃ (x5_1 : Int) (x6_1 : Int), v5 = .int .i64 x5_1 ∧ v6 = .int .i64 x6_1 ∧ Aside0 (haspref22_Mode.l0 kq a1 x5_1 x6_1 a0_0 l0_1 = some r) ∧ Aside0 (kq ≤ k) ∧ Aside0 (w'.heap[gb125]? = some (.cells #[.string a0_0, (.slice A0_1 l0_1.length c0_1)] 25 (0, 0))) ∧ Aside0 (Below w.heap.size w w'))
  case atStart => exact ⟨(0), (0), (by first | rfl | (simp; done) | (simp [*]; done) | (simp; exact isEmpty_bne _) | (simp [*]; exact isEmpty_bne _)), (by first | rfl | (simp; done) | (simp [*]; done) | (simp; exact isEmpty_bne _) | (simp [*]; exact isEmpty_bne _)), H', ⟨Nat.le_refl _⟩, ⟨by (with_reducible repeat (first | refine blk_drewN ?_ _ | refine blk_drew ?_ | refine blk_alloc ?_ _)); exact BK125.out⟩, ⟨by repeat (first | (with_reducible first | exact HB.out | apply below_alloc | apply pw_below_drewN | apply below_drew1 | refine below_set ?_ GE125.out) | exact HB.out)⟩⟩
  case round =>
    clear H'
    try clear p2
    try clear c3
    obtain ⟨x5_1, x6_1, rfl, rfl, HA, HK1, BK125, HB⟩ := hrel
    cases gk with
    | zero => exact absurd HA.out (by simp [haspref22_Mode.l0])
    | succ k1 =>
      have H := HA.out
      clear HA
      simp only [haspref22_Mode.l0] at H
      by_cases c4 : x6_1 < (l0_1.length : Int)
      · rw [if_pos c4] at H
        have c4b0 : decide (x6_1 < (l0_1.length : Int)) = true := decide_eq_true c4
        clear c4
        by_cases c5 : 0 ≤ x6_1
        · rw [if_pos c5] at H
          have c5b0 : decide (0 ≤ x6_1) = true := decide_eq_true c5
          clear c5
          by_cases c6 : ((rd_T33 l0_1 x6_1).f0) = 1
          · rw [if_pos c6] at H
            have c6b0 : (((rd_T33 l0_1 x6_1).f0) == 1) = true := beq_iff_eq.mpr c6
            have c6b1 : (((rd_T33 l0_1 x6_1).f0) != 1) = false := bne_eq_false_iff_eq.mpr c6
            clear c6
            by_cases c7 : ((rd_T33 l0_1 x6_1).f5).toList = a1.toList
            · rw [if_pos c7] at H
              have c7b0 : (((rd_T33 l0_1 x6_1).f5).toList == a1.toList) = true := beq_iff_eq.mpr c7
              have c7b1 : (((rd_T33 l0_1 x6_1).f5).toList != a1.toList) = false := bne_eq_false_iff_eq.mpr c7
              clear c7
              replace H := Option.bind_eq_some_iff.mp H
              obtain ⟨t129, A80, H⟩ := H
              replace H : (haspref22_Mode.l0 k1 a1 t129 (wrap64 (x6_1 + 1)) a0_0 l0_1) = some r := H
              have A8 := Aside0.mk A80
              clear A80
              have H' := Aside0.mk H
              clear H
              have hcz9_0 : wr.cell? ⟨gb125, 0, none⟩ = some (.string a0_0) := (blk_cell BK125.out 0).trans rfl
              have hcz9_1 : wr.cell? ⟨gb125, 1, none⟩ = some (.slice A0_1 l0_1.length c0_1) := (blk_cell BK125.out 1).trans rfl
              have hfz9_0 := blk_frozen BK125.out 0
              have hfz9_1 := blk_frozen BK125.out 1
              have p126 : 0 ≤ (x6_1 : Int) := of_decide_eq_true (by first | (with_reducible assumption) | assumption)
              have q126 : x6_1 < (l0_1.length : Int) := of_decide_eq_true (by first | (with_reducible assumption) | assumption)
              obtain ⟨ad126, A126_7, c126_7, A126_8, c126_8, A126_11, c126_11, A126_13, c126_13, e126, hx126_0, hx126_1, hx126_2, hx126_3, hx126_4, hx126_5, hx126_6, hx126_7, hx126_8, hx126_9, hx126_10, hx126_11, hx126_12, hx126_13, hl126_7, hi126_7, hl126_8, hi126_8, hl126_11, hi126_11, hl126_13, hi126_13⟩ := at_T33 HR0_1.out x6_1 p126 q126
              cases e126
              replace hx126_0 := (HB.out.cell (World.block_lt_of_cell? w _ hx126_0)).trans hx126_0
              replace hx126_1 := (HB.out.cell (World.block_lt_of_cell? w _ hx126_1)).trans hx126_1
              replace hx126_2 := (HB.out.cell (World.block_lt_of_cell? w _ hx126_2)).trans hx126_2
              replace hx126_3 := (HB.out.cell (World.block_lt_of_cell? w _ hx126_3)).trans hx126_3
              replace hx126_4 := (HB.out.cell (World.block_lt_of_cell? w _ hx126_4)).trans hx126_4
              replace hx126_5 := (HB.out.cell (World.block_lt_of_cell? w _ hx126_5)).trans hx126_5
              replace hx126_6 := (HB.out.cell (World.block_lt_of_cell? w _ hx126_6)).trans hx126_6
              replace hx126_7 := (HB.out.cell (World.block_lt_of_cell? w _ hx126_7)).trans hx126_7
              replace hx126_8 := (HB.out.cell (World.block_lt_of_cell? w _ hx126_8)).trans hx126_8
              replace hx126_9 := (HB.out.cell (World.block_lt_of_cell? w _ hx126_9)).trans hx126_9
              replace hx126_10 := (HB.out.cell (World.block_lt_of_cell? w _ hx126_10)).trans hx126_10
              replace hx126_11 := (HB.out.cell (World.block_lt_of_cell? w _ hx126_11)).trans hx126_11
              replace hx126_12 := (HB.out.cell (World.block_lt_of_cell? w _ hx126_12)).trans hx126_12
              replace hx126_13 := (HB.out.cell (World.block_lt_of_cell? w _ hx126_13)).trans hx126_13
              have HR126_7 := Aside0.mk hi126_7
              have HC126_7 := Aside0.mk hl126_7
              clear hi126_7 hl126_7
              have HR126_8 := Aside0.mk hi126_8
              have HC126_8 := Aside0.mk hl126_8
              clear hi126_8 hl126_8
              have HR126_11 := Aside0.mk hi126_11
              have HC126_11 := Aside0.mk hl126_11
              clear hi126_11 hl126_11
              have HR126_13 := Aside0.mk hi126_13
              have HC126_13 := Aside0.mk hl126_13
              clear hi126_13 hl126_13
              replace p126 := eq_true p126
              replace q126 := eq_true q126
              have p127 : 0 ≤ (x6_1 : Int) := of_decide_eq_true (by first | (with_reducible assumption) | assumption)
              have q127 : x6_1 < (l0_1.length : Int) := of_decide_eq_true (by first | (with_reducible assumption) | assumption)
              obtain ⟨ad127, A127_7, c127_7, A127_8, c127_8, A127_11, c127_11, A127_13, c127_13, e127, hx127_0, hx127_1, hx127_2, hx127_3, hx127_4, hx127_5, hx127_6, hx127_7, hx127_8, hx127_9, hx127_10, hx127_11, hx127_12, hx127_13, hl127_7, hi127_7, hl127_8, hi127_8, hl127_11, hi127_11, hl127_13, hi127_13⟩ := at_T33 HR0_1.out x6_1 p127 q127
              obtain rfl : ad126 = ad127 := (by injection e127)
              replace hx127_0 := (HB.out.cell (World.block_lt_of_cell? w _ hx127_0)).trans hx127_0
              replace hx127_1 := (HB.out.cell (World.block_lt_of_cell? w _ hx127_1)).trans hx127_1
              replace hx127_2 := (HB.out.cell (World.block_lt_of_cell? w _ hx127_2)).trans hx127_2
              replace hx127_3 := (HB.out.cell (World.block_lt_of_cell? w _ hx127_3)).trans hx127_3
              replace hx127_4 := (HB.out.cell (World.block_lt_of_cell? w _ hx127_4)).trans hx127_4
              replace hx127_5 := (HB.out.cell (World.block_lt_of_cell? w _ hx127_5)).trans hx127_5
              replace hx127_6 := (HB.out.cell (World.block_lt_of_cell? w _ hx127_6)).trans hx127_6
              replace hx127_7 := (HB.out.cell (World.block_lt_of_cell? w _ hx127_7)).trans hx127_7
              replace hx127_8 := (HB.out.cell (World.block_lt_of_cell? w _ hx127_8)).trans hx127_8
              replace hx127_9 := (HB.out.cell (World.block_lt_of_cell? w _ hx127_9)).trans hx127_9
              replace hx127_10 := (HB.out.cell (World.block_lt_of_cell? w _ hx127_10)).trans hx127_10
              replace hx127_11 := (HB.out.cell (World.block_lt_of_cell? w _ hx127_11)).trans hx127_11
              replace hx127_12 := (HB.out.cell (World.block_lt_of_cell? w _ hx127_12)).trans hx127_12
              replace hx127_13 := (HB.out.cell (World.block_lt_of_cell? w _ hx127_13)).trans hx127_13
              have HR127_7 := Aside0.mk hi127_7
              have HC127_7 := Aside0.mk hl127_7
              clear hi127_7 hl127_7
              have HR127_8 := Aside0.mk hi127_8
              have HC127_8 := Aside0.mk hl127_8
              clear hi127_8 hl127_8
              have HR127_11 := Aside0.mk hi127_11
              have HC127_11 := Aside0.mk hl127_11
              clear hi127_11 hl127_11
              have HR127_13 := Aside0.mk hi127_13
              have HC127_13 := Aside0.mk hl127_13
              clear hi127_13 hl127_13
              replace p127 := eq_true p127
              replace q127 := eq_true q127
              have ea_ := Option.some.inj (hx126_7.symm.trans hx127_7)
              injection ea_ with ea_ en_ ec_
              subst ea_
              subst ec_
              clear en_
              have ea_ := Option.some.inj (hx126_8.symm.trans hx127_8)
              injection ea_ with ea_ en_ ec_
              subst ea_
              subst ec_
              clear en_
              have ea_ := Option.some.inj (hx126_11.symm.trans hx127_11)
              injection ea_ with ea_ en_ ec_
              subst ea_
              subst ec_
              clear en_
              have ea_ := Option.some.inj (hx126_13.symm.trans hx127_13)
              injection ea_ with ea_ en_ ec_
              subst ea_
              subst ec_
              clear en_
              have p128 : 0 ≤ (x6_1 : Int) := of_decide_eq_true (by first | (with_reducible assumption) | assumption)
              have q128 : x6_1 < (l0_1.length : Int) := of_decide_eq_true (by first | (with_reducible assumption) | assumption)
              obtain ⟨ad128, A128_7, c128_7, A128_8, c128_8, A128_11, c128_11, A128_13, c128_13, e128, hx128_0, hx128_1, hx128_2, hx128_3, hx128_4, hx128_5, hx128_6, hx128_7, hx128_8, hx128_9, hx128_10, hx128_11, hx128_12, hx128_13, hl128_7, hi128_7, hl128_8, hi128_8, hl128_11, hi128_11, hl128_13, hi128_13⟩ := at_T33 HR0_1.out x6_1 p128 q128
              obtain rfl : ad126 = ad128 := (by injection e128)
              replace hx128_0 := (HB.out.cell (World.block_lt_of_cell? w _ hx128_0)).trans hx128_0
              replace hx128_1 := (HB.out.cell (World.block_lt_of_cell? w _ hx128_1)).trans hx128_1
              replace hx128_2 := (HB.out.cell (World.block_lt_of_cell? w _ hx128_2)).trans hx128_2
              replace hx128_3 := (HB.out.cell (World.block_lt_of_cell? w _ hx128_3)).trans hx128_3
              replace hx128_4 := (HB.out.cell (World.block_lt_of_cell? w _ hx128_4)).trans hx128_4
              replace hx128_5 := (HB.out.cell (World.block_lt_of_cell? w _ hx128_5)).trans hx128_5
              replace hx128_6 := (HB.out.cell (World.block_lt_of_cell? w _ hx128_6)).trans hx128_6
              replace hx128_7 := (HB.out.cell (World.block_lt_of_cell? w _ hx128_7)).trans hx128_7
              replace hx128_8 := (HB.out.cell (World.block_lt_of_cell? w _ hx128_8)).trans hx128_8
              replace hx128_9 := (HB.out.cell (World.block_lt_of_cell? w _ hx128_9)).trans hx128_9
              replace hx128_10 := (HB.out.cell (World.block_lt_of_cell? w _ hx128_10)).trans hx128_10
              replace hx128_11 := (HB.out.cell (World.block_lt_of_cell? w _ hx128_11)).trans hx128_11
              replace hx128_12 := (HB.out.cell (World.block_lt_of_cell? w _ hx128_12)).trans hx128_12
              replace hx128_13 := (HB.out.cell (World.block_lt_of_cell? w _ hx128_13)).trans hx128_13
              have HR128_7 := Aside0.mk hi128_7
              have HC128_7 := Aside0.mk hl128_7
              clear hi128_7 hl128_7
              have HR128_8 := Aside0.mk hi128_8
              have HC128_8 := Aside0.mk hl128_8
              clear hi128_8 hl128_8
              have HR128_11 := Aside0.mk hi128_11
              have HC128_11 := Aside0.mk hl128_11
              clear hi128_11 hl128_11
              have HR128_13 := Aside0.mk hi128_13
              have HC128_13 := Aside0.mk hl128_13
              clear hi128_13 hl128_13
              replace p128 := eq_true p128
              replace q128 := eq_true q128
              have ea_ := Option.some.inj (hx126_7.symm.trans hx128_7)
              injection ea_ with ea_ en_ ec_
              subst ea_
              subst ec_
              clear en_
              have ea_ := Option.some.inj (hx126_8.symm.trans hx128_8)
              injection ea_ with ea_ en_ ec_
              subst ea_
              subst ec_
              clear en_
              have ea_ := Option.some.inj (hx126_11.symm.trans hx128_11)
              injection ea_ with ea_ en_ ec_
              subst ea_
              subst ec_
              clear en_
              have ea_ := Option.some.inj (hx126_13.symm.trans hx128_13)
              injection ea_ with ea_ en_ ec_
              subst ea_
              subst ec_
              clear en_
              go_wp2_with (first | ((with_reducible refine gate_callee (f := 38) rfl ?_); refine goesL_ (some 38) rfl rfl Try.func38 (by kernel_rfl) rfl #[.int .i64 x5_1, .int .i64 ((rd_T33 l0_1 x6_1).f3)] rfl (by (try simp only [List.map_toArray, List.map_cons, List.map_nil]); first | done | rfl | (simp only [List.length_drop, List.length_take]; rfl)) ?_; (with_reducible refine (haspref09_Join.calls x5_1 ((rd_T33 l0_1 x6_1).f3) t129 _ A8.out).mono ?_); rintro e w10 ⟨rfl, hb⟩; refine ⟨_, rfl, ?_⟩; have n0_ := Aside0.mk (blk_below (g := gb125) (o := .cells #[.string a0_0, .slice (some ad126) l0_1.length c0_1] 25 (0, 0)) (by (with_reducible repeat (first | refine blk_drewN ?_ _ | refine blk_drew ?_ | refine blk_alloc ?_ _)); exact BK125.out) hb); have n1_ := Aside0.mk (below_step (by repeat (first | (with_reducible first | exact HB.out | apply below_alloc | apply pw_below_drewN | apply below_drew1 | refine below_set ?_ GE125.out) | exact HB.out)) hb); clear BK125; clear HB; have BK125 := n0_; have HB := n1_; clear n0_ n1_; (try clear hb); (try clear hb2); (try clear hk); (try clear hi)))
              go_roundg k1
              case measure => have := HK1.out; omega
              case rel => exact ⟨(t129), (wrap64 (x6_1 + 1)), (by first | rfl | (simp; done) | (simp [*]; done) | (simp; exact isEmpty_bne _) | (simp [*]; exact isEmpty_bne _)), (by first | rfl | (simp; done) | (simp [*]; done) | (simp; exact isEmpty_bne _) | (simp [*]; exact isEmpty_bne _)), H', ⟨by have := HK1.out; omega⟩, ⟨by (with_reducible repeat (first | refine blk_drewN ?_ _ | refine blk_drew ?_ | refine blk_alloc ?_ _)); exact BK125.out⟩, ⟨by repeat (first | (with_reducible first | exact HB.out | apply below_alloc | apply pw_below_drewN | apply below_drew1 | refine below_set ?_ GE125.out) | exact HB.out)⟩⟩
            · rw [if_neg c7] at H
              have c7b0 : (((rd_T33 l0_1 x6_1).f5).toList == a1.toList) = false := beq_eq_false_iff_ne.mpr c7
              have c7b1 : (((rd_T33 l0_1 x6_1).f5).toList != a1.toList) = true := bne_iff_ne.mpr c7
              have H' := Aside0.mk H
              clear H
              have hcz11_0 : wr.cell? ⟨gb125, 0, none⟩ = some (.string a0_0) := (blk_cell BK125.out 0).trans rfl
              have hcz11_1 : wr.cell? ⟨gb125, 1, none⟩ = some (.slice A0_1 l0_1.length c0_1) := (blk_cell BK125.out 1).trans rfl
              have hfz11_0 := blk_frozen BK125.out 0
              have hfz11_1 := blk_frozen BK125.out 1
              have p126 : 0 ≤ (x6_1 : Int) := of_decide_eq_true (by first | (with_reducible assumption) | assumption)
              have q126 : x6_1 < (l0_1.length : Int) := of_decide_eq_true (by first | (with_reducible assumption) | assumption)
              obtain ⟨ad126, A126_7, c126_7, A126_8, c126_8, A126_11, c126_11, A126_13, c126_13, e126, hx126_0, hx126_1, hx126_2, hx126_3, hx126_4, hx126_5, hx126_6, hx126_7, hx126_8, hx126_9, hx126_10, hx126_11, hx126_12, hx126_13, hl126_7, hi126_7, hl126_8, hi126_8, hl126_11, hi126_11, hl126_13, hi126_13⟩ := at_T33 HR0_1.out x6_1 p126 q126
              cases e126
              replace hx126_0 := (HB.out.cell (World.block_lt_of_cell? w _ hx126_0)).trans hx126_0
              replace hx126_1 := (HB.out.cell (World.block_lt_of_cell? w _ hx126_1)).trans hx126_1
              replace hx126_2 := (HB.out.cell (World.block_lt_of_cell? w _ hx126_2)).trans hx126_2
              replace hx126_3 := (HB.out.cell (World.block_lt_of_cell? w _ hx126_3)).trans hx126_3
              replace hx126_4 := (HB.out.cell (World.block_lt_of_cell? w _ hx126_4)).trans hx126_4
              replace hx126_5 := (HB.out.cell (World.block_lt_of_cell? w _ hx126_5)).trans hx126_5
              replace hx126_6 := (HB.out.cell (World.block_lt_of_cell? w _ hx126_6)).trans hx126_6
              replace hx126_7 := (HB.out.cell (World.block_lt_of_cell? w _ hx126_7)).trans hx126_7
              replace hx126_8 := (HB.out.cell (World.block_lt_of_cell? w _ hx126_8)).trans hx126_8
              replace hx126_9 := (HB.out.cell (World.block_lt_of_cell? w _ hx126_9)).trans hx126_9
              replace hx126_10 := (HB.out.cell (World.block_lt_of_cell? w _ hx126_10)).trans hx126_10
              replace hx126_11 := (HB.out.cell (World.block_lt_of_cell? w _ hx126_11)).trans hx126_11
              replace hx126_12 := (HB.out.cell (World.block_lt_of_cell? w _ hx126_12)).trans hx126_12
              replace hx126_13 := (HB.out.cell (World.block_lt_of_cell? w _ hx126_13)).trans hx126_13
              have HR126_7 := Aside0.mk hi126_7
              have HC126_7 := Aside0.mk hl126_7
              clear hi126_7 hl126_7
              have HR126_8 := Aside0.mk hi126_8
              have HC126_8 := Aside0.mk hl126_8
              clear hi126_8 hl126_8
              have HR126_11 := Aside0.mk hi126_11
              have HC126_11 := Aside0.mk hl126_11
              clear hi126_11 hl126_11
              have HR126_13 := Aside0.mk hi126_13
              have HC126_13 := Aside0.mk hl126_13
              clear hi126_13 hl126_13
              replace p126 := eq_true p126
              replace q126 := eq_true q126
              have p127 : 0 ≤ (x6_1 : Int) := of_decide_eq_true (by first | (with_reducible assumption) | assumption)
              have q127 : x6_1 < (l0_1.length : Int) := of_decide_eq_true (by first | (with_reducible assumption) | assumption)
              obtain ⟨ad127, A127_7, c127_7, A127_8, c127_8, A127_11, c127_11, A127_13, c127_13, e127, hx127_0, hx127_1, hx127_2, hx127_3, hx127_4, hx127_5, hx127_6, hx127_7, hx127_8, hx127_9, hx127_10, hx127_11, hx127_12, hx127_13, hl127_7, hi127_7, hl127_8, hi127_8, hl127_11, hi127_11, hl127_13, hi127_13⟩ := at_T33 HR0_1.out x6_1 p127 q127
              obtain rfl : ad126 = ad127 := (by injection e127)
              replace hx127_0 := (HB.out.cell (World.block_lt_of_cell? w _ hx127_0)).trans hx127_0
              replace hx127_1 := (HB.out.cell (World.block_lt_of_cell? w _ hx127_1)).trans hx127_1
              replace hx127_2 := (HB.out.cell (World.block_lt_of_cell? w _ hx127_2)).trans hx127_2
              replace hx127_3 := (HB.out.cell (World.block_lt_of_cell? w _ hx127_3)).trans hx127_3
              replace hx127_4 := (HB.out.cell (World.block_lt_of_cell? w _ hx127_4)).trans hx127_4
              replace hx127_5 := (HB.out.cell (World.block_lt_of_cell? w _ hx127_5)).trans hx127_5
              replace hx127_6 := (HB.out.cell (World.block_lt_of_cell? w _ hx127_6)).trans hx127_6
              replace hx127_7 := (HB.out.cell (World.block_lt_of_cell? w _ hx127_7)).trans hx127_7
              replace hx127_8 := (HB.out.cell (World.block_lt_of_cell? w _ hx127_8)).trans hx127_8
              replace hx127_9 := (HB.out.cell (World.block_lt_of_cell? w _ hx127_9)).trans hx127_9
              replace hx127_10 := (HB.out.cell (World.block_lt_of_cell? w _ hx127_10)).trans hx127_10
              replace hx127_11 := (HB.out.cell (World.block_lt_of_cell? w _ hx127_11)).trans hx127_11
              replace hx127_12 := (HB.out.cell (World.block_lt_of_cell? w _ hx127_12)).trans hx127_12
              replace hx127_13 := (HB.out.cell (World.block_lt_of_cell? w _ hx127_13)).trans hx127_13
              have HR127_7 := Aside0.mk hi127_7
              have HC127_7 := Aside0.mk hl127_7
              clear hi127_7 hl127_7
              have HR127_8 := Aside0.mk hi127_8
              have HC127_8 := Aside0.mk hl127_8
              clear hi127_8 hl127_8
              have HR127_11 := Aside0.mk hi127_11
              have HC127_11 := Aside0.mk hl127_11
              clear hi127_11 hl127_11
              have HR127_13 := Aside0.mk hi127_13
              have HC127_13 := Aside0.mk hl127_13
              clear hi127_13 hl127_13
              replace p127 := eq_true p127
              replace q127 := eq_true q127
              have ea_ := Option.some.inj (hx126_7.symm.trans hx127_7)
              injection ea_ with ea_ en_ ec_
              subst ea_
              subst ec_
              clear en_
              have ea_ := Option.some.inj (hx126_8.symm.trans hx127_8)
              injection ea_ with ea_ en_ ec_
              subst ea_
              subst ec_
              clear en_
              have ea_ := Option.some.inj (hx126_11.symm.trans hx127_11)
              injection ea_ with ea_ en_ ec_
              subst ea_
              subst ec_
              clear en_
              have ea_ := Option.some.inj (hx126_13.symm.trans hx127_13)
              injection ea_ with ea_ en_ ec_
              subst ea_
              subst ec_
              clear en_
              go_wp2
              go_roundg k1
              case measure => have := HK1.out; omega
              case rel => exact ⟨(x5_1), (wrap64 (x6_1 + 1)), (by first | rfl | (simp; done) | (simp [*]; done) | (simp; exact isEmpty_bne _) | (simp [*]; exact isEmpty_bne _)), (by first | rfl | (simp; done) | (simp [*]; done) | (simp; exact isEmpty_bne _) | (simp [*]; exact isEmpty_bne _)), H', ⟨by have := HK1.out; omega⟩, ⟨by (with_reducible repeat (first | refine blk_drewN ?_ _ | refine blk_drew ?_ | refine blk_alloc ?_ _)); exact BK125.out⟩, ⟨by repeat (first | (with_reducible first | exact HB.out | apply below_alloc | apply pw_below_drewN | apply below_drew1 | refine below_set ?_ GE125.out) | exact HB.out)⟩⟩
          · rw [if_neg c6] at H
            have c6b0 : (((rd_T33 l0_1 x6_1).f0) == 1) = false := beq_eq_false_iff_ne.mpr c6
            have c6b1 : (((rd_T33 l0_1 x6_1).f0) != 1) = true := bne_iff_ne.mpr c6
            have H' := Aside0.mk H
            clear H
            have hcz12_0 : wr.cell? ⟨gb125, 0, none⟩ = some (.string a0_0) := (blk_cell BK125.out 0).trans rfl
            have hcz12_1 : wr.cell? ⟨gb125, 1, none⟩ = some (.slice A0_1 l0_1.length c0_1) := (blk_cell BK125.out 1).trans rfl
            have hfz12_0 := blk_frozen BK125.out 0
            have hfz12_1 := blk_frozen BK125.out 1
            have p126 : 0 ≤ (x6_1 : Int) := of_decide_eq_true (by first | (with_reducible assumption) | assumption)
            have q126 : x6_1 < (l0_1.length : Int) := of_decide_eq_true (by first | (with_reducible assumption) | assumption)
            obtain ⟨ad126, A126_7, c126_7, A126_8, c126_8, A126_11, c126_11, A126_13, c126_13, e126, hx126_0, hx126_1, hx126_2, hx126_3, hx126_4, hx126_5, hx126_6, hx126_7, hx126_8, hx126_9, hx126_10, hx126_11, hx126_12, hx126_13, hl126_7, hi126_7, hl126_8, hi126_8, hl126_11, hi126_11, hl126_13, hi126_13⟩ := at_T33 HR0_1.out x6_1 p126 q126
            cases e126
            replace hx126_0 := (HB.out.cell (World.block_lt_of_cell? w _ hx126_0)).trans hx126_0
            replace hx126_1 := (HB.out.cell (World.block_lt_of_cell? w _ hx126_1)).trans hx126_1
            replace hx126_2 := (HB.out.cell (World.block_lt_of_cell? w _ hx126_2)).trans hx126_2
            replace hx126_3 := (HB.out.cell (World.block_lt_of_cell? w _ hx126_3)).trans hx126_3
            replace hx126_4 := (HB.out.cell (World.block_lt_of_cell? w _ hx126_4)).trans hx126_4
            replace hx126_5 := (HB.out.cell (World.block_lt_of_cell? w _ hx126_5)).trans hx126_5
            replace hx126_6 := (HB.out.cell (World.block_lt_of_cell? w _ hx126_6)).trans hx126_6
            replace hx126_7 := (HB.out.cell (World.block_lt_of_cell? w _ hx126_7)).trans hx126_7
            replace hx126_8 := (HB.out.cell (World.block_lt_of_cell? w _ hx126_8)).trans hx126_8
            replace hx126_9 := (HB.out.cell (World.block_lt_of_cell? w _ hx126_9)).trans hx126_9
            replace hx126_10 := (HB.out.cell (World.block_lt_of_cell? w _ hx126_10)).trans hx126_10
            replace hx126_11 := (HB.out.cell (World.block_lt_of_cell? w _ hx126_11)).trans hx126_11
            replace hx126_12 := (HB.out.cell (World.block_lt_of_cell? w _ hx126_12)).trans hx126_12
            replace hx126_13 := (HB.out.cell (World.block_lt_of_cell? w _ hx126_13)).trans hx126_13
            have HR126_7 := Aside0.mk hi126_7
            have HC126_7 := Aside0.mk hl126_7
            clear hi126_7 hl126_7
            have HR126_8 := Aside0.mk hi126_8
            have HC126_8 := Aside0.mk hl126_8
            clear hi126_8 hl126_8
            have HR126_11 := Aside0.mk hi126_11
            have HC126_11 := Aside0.mk hl126_11
            clear hi126_11 hl126_11
            have HR126_13 := Aside0.mk hi126_13
            have HC126_13 := Aside0.mk hl126_13
            clear hi126_13 hl126_13
            replace p126 := eq_true p126
            replace q126 := eq_true q126
            go_wp2
            go_roundg k1
            case measure => have := HK1.out; omega
            case rel => exact ⟨(x5_1), (wrap64 (x6_1 + 1)), (by first | rfl | (simp; done) | (simp [*]; done) | (simp; exact isEmpty_bne _) | (simp [*]; exact isEmpty_bne _)), (by first | rfl | (simp; done) | (simp [*]; done) | (simp; exact isEmpty_bne _) | (simp [*]; exact isEmpty_bne _)), H', ⟨by have := HK1.out; omega⟩, ⟨by (with_reducible repeat (first | refine blk_drewN ?_ _ | refine blk_drew ?_ | refine blk_alloc ?_ _)); exact BK125.out⟩, ⟨by repeat (first | (with_reducible first | exact HB.out | apply below_alloc | apply pw_below_drewN | apply below_drew1 | refine below_set ?_ GE125.out) | exact HB.out)⟩⟩
        · rw [if_neg c5] at H
          exact absurd H (by simp)
      · rw [if_neg c4] at H
        have c4b0 : decide (x6_1 < (l0_1.length : Int)) = false := decide_eq_false c4
        clear c4
        obtain rfl := Option.some.inj H
        have hcz13_0 : wr.cell? ⟨gb125, 0, none⟩ = some (.string a0_0) := (blk_cell BK125.out 0).trans rfl
        have hcz13_1 : wr.cell? ⟨gb125, 1, none⟩ = some (.slice A0_1 l0_1.length c0_1) := (blk_cell BK125.out 1).trans rfl
        have hfz13_0 := blk_frozen BK125.out 0
        have hfz13_1 := blk_frozen BK125.out 1
        go_wp2
        go_ret
        exact ⟨by first | rfl | (simp [errW_none, errW_some] <;> rfl) | (simp [*, errW_none, errW_some] <;> rfl), by repeat (first | (with_reducible first | exact HB.out | apply below_alloc | apply pw_below_drewN | apply below_drew1 | refine below_set ?_ GE125.out) | exact HB.out)⟩
/-! ### haspref09_Covers: function 31 -/
def haspref09_Covers.f (a0 : Int) (a1 : Int) : Option (Bool) := if a0 < 0 then (some false) else (if a0 > 6 then (some false) else (if a1 < 0 then (some false) else (if a1 > 6 then (some false) else ((haspref09_Join.f a0 a1).bind fun t130 => (some (t130 == a0))))))
set_option maxHeartbeats 8000000 in
set_option maxRecDepth 100000 in
theorem haspref09_Covers.calls (a0 : Int) (a1 : Int) (r : Bool) (w : World) (h : haspref09_Covers.f a0 a1 = some r) :
    Calls Try.prog 31 #[.int .i64 a0, .int .i64 a1] w fun e w' => e = .returned (.bool r) ∧ Below w.heap.size w w' := by
  have HB := Aside0.mk (Below.refl w.heap.size w)
  have H : (if a0 < 0 then (some false) else (if a0 > 6 then (some false) else (if a1 < 0 then (some false) else (if a1 > 6 then (some false) else ((haspref09_Join.f a0 a1).bind fun t130 => (some (t130 == a0))))))) = some r := h
  clear h
  by_cases c3 : a0 < 0
  · rw [if_pos c3] at H
    have c3b0 : decide (a0 < 0) = true := decide_eq_true c3
    clear c3
    obtain rfl := Option.some.inj H
    go_enter Try.func31, Try.ntmps31
    go_wp2
    go_ret
    exact ⟨by first | rfl | (simp [errW_none, errW_some] <;> rfl) | (simp [*, errW_none, errW_some] <;> rfl), by repeat (first | (with_reducible first | exact HB.out | apply below_alloc | apply pw_below_drewN | apply below_drew1) | exact HB.out)⟩
  · rw [if_neg c3] at H
    have c3b0 : decide (a0 < 0) = false := decide_eq_false c3
    clear c3
    by_cases c4 : a0 > 6
    · rw [if_pos c4] at H
      have c4b0 : decide (6 < a0) = true := decide_eq_true c4
      clear c4
      obtain rfl := Option.some.inj H
      go_enter Try.func31, Try.ntmps31
      go_wp2
      go_ret
      exact ⟨by first | rfl | (simp [errW_none, errW_some] <;> rfl) | (simp [*, errW_none, errW_some] <;> rfl), by repeat (first | (with_reducible first | exact HB.out | apply below_alloc | apply pw_below_drewN | apply below_drew1) | exact HB.out)⟩
    · rw [if_neg c4] at H
      have c4b0 : decide (6 < a0) = false := decide_eq_false c4
      clear c4
      by_cases c5 : a1 < 0
      · rw [if_pos c5] at H
        have c5b0 : decide (a1 < 0) = true := decide_eq_true c5
        clear c5
        obtain rfl := Option.some.inj H
        go_enter Try.func31, Try.ntmps31
        go_wp2
        go_ret
        exact ⟨by first | rfl | (simp [errW_none, errW_some] <;> rfl) | (simp [*, errW_none, errW_some] <;> rfl), by repeat (first | (with_reducible first | exact HB.out | apply below_alloc | apply pw_below_drewN | apply below_drew1) | exact HB.out)⟩
      · rw [if_neg c5] at H
        have c5b0 : decide (a1 < 0) = false := decide_eq_false c5
        clear c5
        by_cases c6 : a1 > 6
        · rw [if_pos c6] at H
          have c6b0 : decide (6 < a1) = true := decide_eq_true c6
          clear c6
          obtain rfl := Option.some.inj H
          go_enter Try.func31, Try.ntmps31
          go_wp2
          go_ret
          exact ⟨by first | rfl | (simp [errW_none, errW_some] <;> rfl) | (simp [*, errW_none, errW_some] <;> rfl), by repeat (first | (with_reducible first | exact HB.out | apply below_alloc | apply pw_below_drewN | apply below_drew1) | exact HB.out)⟩
        · rw [if_neg c6] at H
          have c6b0 : decide (6 < a1) = false := decide_eq_false c6
          clear c6
          replace H := Option.bind_eq_some_iff.mp H
          obtain ⟨t130, A70, H⟩ := H
          replace H : (some (t130 == a0)) = some r := H
          have A7 := Aside0.mk A70
          clear A70
          obtain rfl := Option.some.inj H
          go_enter Try.func31, Try.ntmps31
          go_wp2_with (first | ((with_reducible refine gate_callee (f := 38) rfl ?_); refine goesL_ (some 21) rfl rfl Try.func38 (by kernel_rfl) rfl #[.int .i64 a0, .int .i64 a1] rfl (by (try simp only [List.map_toArray, List.map_cons, List.map_nil]); first | done | rfl | (simp only [List.length_drop, List.length_take]; rfl)) ?_; (with_reducible refine (haspref09_Join.calls a0 a1 t130 _ A7.out).mono ?_); rintro e w8 ⟨rfl, hb⟩; refine ⟨_, rfl, ?_⟩; have n0_ := Aside0.mk (below_step (by repeat (first | (with_reducible first | exact HB.out | apply below_alloc | apply pw_below_drewN | apply below_drew1) | exact HB.out)) hb); clear HB; have HB := n0_; clear n0_; (try clear hb); (try clear hb2); (try clear hk); (try clear hi)))
          go_ret
          exact ⟨by first | rfl | (simp [errW_none, errW_some] <;> rfl) | (simp [*, errW_none, errW_some] <;> rfl), by repeat (first | (with_reducible first | exact HB.out | apply below_alloc | apply pw_below_drewN | apply below_drew1) | exact HB.out)⟩
end Go.Proofs.Ytfnmploaklboiaa.V
