import Derived.Test.YtfnmploaklboiaaZkVx0
import Derived.Test.YtfnmploaklboiaaZkVx2
import Derived.Test.YtfnmploaklboiaaZkVx4
import Derived.Test.YtfnmploaklboiaaZkVx5
namespace Go.Proofs.Ytfnmploaklboiaa.V
open Go.RowKit Go.Proofs.YtfnmploaklboiaaW.PrintWords Go.Proofs.YtfnmploaklboiaaW.PrintLast Go.Proofs.YtfnmploaklboiaaW.PrintMore Go.Proofs.Ytfnmploaklboiaa.A
attribute [local go_sem] max2_int min2_int max_two min_two max_three min_three max_four min_four   -- for this text's walks alone
set_option linter.unusedVariables false
set_option linter.unusedSimpArgs false
/-! ### haspref22_Check: function 9 -/
mutual
def haspref22_Check.j0 : Nat → Int → Bool → ByteArray → List (S33) → Option (Int)
  | 0, _, _, _, _ => none
  | k + 1, x3, x14, x154000, x154001 => if x14 = true then (some 240) else (if 0 ≤ (wrap64 (x3 - 1)) then (if (wrap64 (x3 - 1)) < (x154001.length : Int) then (if ((rd_T33 x154001 (wrap64 (x3 - 1))).f0) = 12 then (haspref22_Check.l0 k x3 0 x154000 x154001) else (some 240)) else (none)) else (none))
def haspref22_Check.l0 : Nat → Int → Int → ByteArray → List (S33) → Option (Int)
  | 0, _, _, _, _ => none
  | k + 1, x3, x4, x154000, x154001 => if x4 < x3 then (if 0 ≤ x4 then (if x4 < (x154001.length : Int) then ((haspref22_right.f k ((rd_T33 x154001 x4).f0) ((rd_T33 x154001 x4).f1) ((rd_T33 x154001 x4).f2) ((rd_T33 x154001 x4).f3) ((rd_T33 x154001 x4).f4) ((rd_T33 x154001 x4).f5) ((rd_T33 x154001 x4).f6) ((rd_T33 x154001 x4).f7) ((rd_T33 x154001 x4).f8) ((rd_T33 x154001 x4).f9) ((rd_T33 x154001 x4).f10) ((rd_T33 x154001 x4).f11) ((rd_T33 x154001 x4).f12) ((rd_T33 x154001 x4).f13) x3).bind fun t158 => (if t158 = true then (if ((rd_T33 x154001 x4).f0) = 1 then (haspref22_Check.j2 k x3 x4 (decide (x4 > 0)) x154000 x154001 ((rd_T33 x154001 x4).f0) ((rd_T33 x154001 x4).f1) ((rd_T33 x154001 x4).f2) ((rd_T33 x154001 x4).f3) ((rd_T33 x154001 x4).f4) ((rd_T33 x154001 x4).f5) ((rd_T33 x154001 x4).f6) ((rd_T33 x154001 x4).f7) ((rd_T33 x154001 x4).f8) ((rd_T33 x154001 x4).f9) ((rd_T33 x154001 x4).f10) ((rd_T33 x154001 x4).f11) ((rd_T33 x154001 x4).f12) ((rd_T33 x154001 x4).f13)) else (haspref22_Check.j2 k x3 x4 false x154000 x154001 ((rd_T33 x154001 x4).f0) ((rd_T33 x154001 x4).f1) ((rd_T33 x154001 x4).f2) ((rd_T33 x154001 x4).f3) ((rd_T33 x154001 x4).f4) ((rd_T33 x154001 x4).f5) ((rd_T33 x154001 x4).f6) ((rd_T33 x154001 x4).f7) ((rd_T33 x154001 x4).f8) ((rd_T33 x154001 x4).f9) ((rd_T33 x154001 x4).f10) ((rd_T33 x154001 x4).f11) ((rd_T33 x154001 x4).f12) ((rd_T33 x154001 x4).f13))) else (some 240))) else (none)) else (none)) else ((haspref22_changes.f k x154000 x154001).bind fun t155 => (if t155 = true then (some 0) else (some 240)))
def haspref22_Check.j2 : Nat → Int → Int → Bool → ByteArray → List (S33) → Int → Int → Int → Int → Int → ByteArray → Int → List (S81) → List (S81) → Bool → Bool → List (S81) → Int → List Bool → Option (Int)
  | 0, _, _, _, _, _, _, _, _, _, _, _, _, _, _, _, _, _, _, _ => none
  | k + 1, x3, x4, x43, x154000, x154001, x158000, x158001, x158002, x158003, x158004, x158005, x158006, x158007, x158008, x158009, x158010, x158011, x158012, x158013 => if x43 = true then (if 0 ≤ (wrap64 (x4 - 1)) then (if (wrap64 (x4 - 1)) < (x154001.length : Int) then (if ((rd_T33 x154001 (wrap64 (x4 - 1))).f0) = 1 then ((haspref22_read.f k x154000 x154001 x158000 x158001 x158002 x158003 x158004 x158005 x158006 x158007 x158008 x158009 x158010 x158011 x158012 x158013).bind fun t160 => (if t160 = true then (haspref22_Check.l0 k x3 (wrap64 (x4 + 1)) x154000 x154001) else (some 240))) else (some 240)) else (none)) else (none)) else ((haspref22_read.f k x154000 x154001 x158000 x158001 x158002 x158003 x158004 x158005 x158006 x158007 x158008 x158009 x158010 x158011 x158012 x158013).bind fun t161 => (if t161 = true then (haspref22_Check.l0 k x3 (wrap64 (x4 + 1)) x154000 x154001) else (some 240)))
end
def haspref22_Check.f (k : Nat) (a0_0 : ByteArray) (l0_1 : List (S33)) : Option (Int) := if (l0_1.length : Int) < 1 then (haspref22_Check.j0 k (l0_1.length : Int) true a0_0 l0_1) else (haspref22_Check.j0 k (l0_1.length : Int) (decide ((l0_1.length : Int) > 4096)) a0_0 l0_1)
set_option maxHeartbeats 8000000 in
set_option maxRecDepth 100000 in
theorem haspref22_Check.calls (k : Nat) (a0_0 : ByteArray) (A0_1 : Option Addr) (c0_1 : Nat) (l0_1 : List (S33)) (r : Int) (w : World) (hr0_1 : Kd.C k33 w A0_1 l0_1.length l0_1) (hc0_1 : l0_1.length ≤ c0_1) (h : haspref22_Check.f k a0_0 l0_1 = some r) :
    Calls Try.prog 9 #[.agg #[.string a0_0, .slice A0_1 l0_1.length c0_1]] w fun e w' => e = .returned (.int .i64 r) ∧ Below w.heap.size w w' := by
  have hu25 := Try.underlying25
  have hu33 := Try.underlying33
  have HR0_1 := Aside0.mk hr0_1
  have HC0_1 := Aside0.mk hc0_1
  clear hr0_1 hc0_1
  have HB := Aside0.mk (Below.refl w.heap.size w)
  have H : (if (l0_1.length : Int) < 1 then (haspref22_Check.j0 k (l0_1.length : Int) true a0_0 l0_1) else (haspref22_Check.j0 k (l0_1.length : Int) (decide ((l0_1.length : Int) > 4096)) a0_0 l0_1)) = some r := h
  clear h
  have HC2 := Aside0.mk H
  clear H
  go_enter Try.func9, Try.ntmps9
  go_upto_region 2 with (first | ((with_reducible refine gate_dst (N := 1) rfl ?_); refine box_event ?hg (N := 1) ?hd (cs := #[.string a0_0, .slice A0_1 l0_1.length c0_1]) (t := 25) ?hr ?_; (case hd => rfl); (case hg => rfl); (case hr => first | (go_simp; done) | (go_simp; rfl)); intro gb153 hg w3 hbox hb; have n0_ := Aside0.mk (below_step (by repeat (first | (with_reducible first | exact HB.out | apply below_alloc | apply pw_below_drewN | apply below_drew1) | exact HB.out)) hb); have n1_ := Aside0.mk (hbox); have n2_ := Aside0.mk ((by rw [hg]; exact (below_size (by repeat (first | (with_reducible first | exact HB.out | apply below_alloc | apply pw_below_drewN | apply below_drew1) | exact HB.out))) : w.heap.size ≤ gb153)); have n3_ := Aside0.mk ((by rw [hg]; exact (below_size (by repeat (first | (with_reducible first | exact HB.out | apply below_alloc | apply pw_below_drewN | apply below_drew1) | exact HB.out))) : w.heap.size ≤ gb153)); clear HB; have HB := n0_; have BK153 := n1_; have GW153 := n2_; have GE153 := n3_; clear n0_ n1_ n2_ n3_; clear hb hbox hg; have hcz4_0 : w3.cell? ⟨gb153, 0, none⟩ = some (.string a0_0) := (blk_cell BK153.out 0).trans rfl; have hcz4_1 : w3.cell? ⟨gb153, 1, none⟩ = some (.slice A0_1 l0_1.length c0_1) := (blk_cell BK153.out 1).trans rfl; have hfz4_0 := blk_frozen BK153.out 0; have hfz4_1 := blk_frozen BK153.out 1))
  (try simp only [Act.put, List.setIfInBounds_toArray, List.set_cons_zero, List.set_cons_succ])
  go_cut [14] (fun v14 wc => ∃ (kq : Nat) (x14_1 : Bool), v14 = .bool x14_1 ∧ Aside0 (haspref22_Check.j0 kq (l0_1.length : Int) x14_1 a0_0 l0_1 = some r) ∧ Aside0 (kq ≤ k) ∧ Aside0 (wc.heap[gb153]? = some (.cells #[.string a0_0, (.slice A0_1 l0_1.length c0_1)] 25 (0, 0))) ∧ Aside0 (Below w.heap.size w wc))
  case first =>
    have H := HC2.out
    clear HC2
    by_cases c5 : (l0_1.length : Int) < 1
    · rw [if_pos c5] at H
      have c5b0 : decide ((l0_1.length : Int) < 1) = true := decide_eq_true c5
      have c5b1 : decide (l0_1.length < 1) = true := decide_eq_true (by omega)
      clear c5
      (first | rw [c5b0] | (simp only [i64_w, i32_w]; rw [c5b0]) | skip)
      have H' := Aside0.mk H
      clear H
      go_wp2
      go_meet
      case rel => exact ⟨_, (true), (by first | rfl | (simp; done) | (simp [*]; done) | (simp; exact isEmpty_bne _) | (simp [*]; exact isEmpty_bne _)), H', ⟨by first | omega | exact Nat.le_refl _⟩, ⟨by (with_reducible repeat (first | refine blk_drewN ?_ _ | refine blk_drew ?_ | refine blk_alloc ?_ _)); exact BK153.out⟩, ⟨by repeat (first | (with_reducible first | exact HB.out | apply below_alloc | apply pw_below_drewN | apply below_drew1 | refine below_set ?_ GE153.out) | exact HB.out)⟩⟩
    · rw [if_neg c5] at H
      have c5b0 : decide ((l0_1.length : Int) < 1) = false := decide_eq_false c5
      have c5b1 : decide (l0_1.length < 1) = false := decide_eq_false (by omega)
      clear c5
      (first | rw [c5b0] | (simp only [i64_w, i32_w]; rw [c5b0]) | skip)
      have H' := Aside0.mk H
      clear H
      go_wp2
      go_meet
      case rel => exact ⟨_, (decide ((l0_1.length : Int) > 4096)), (by first | rfl | (simp; done) | (simp [*]; done) | (simp; exact isEmpty_bne _) | (simp [*]; exact isEmpty_bne _)), H', ⟨by first | omega | exact Nat.le_refl _⟩, ⟨by (with_reducible repeat (first | refine blk_drewN ?_ _ | refine blk_drew ?_ | refine blk_alloc ?_ _)); exact BK153.out⟩, ⟨by repeat (first | (with_reducible first | exact HB.out | apply below_alloc | apply pw_below_drewN | apply below_drew1 | refine below_set ?_ GE153.out) | exact HB.out)⟩⟩
  case rest =>
    clear HC2
    try clear p2
    try clear c5
    try clear c5b0
    try clear c5b1
    try clear hcz4_0
    try clear hcz4_1
    try clear hfz4_0
    try clear hfz4_1
    obtain ⟨kq, x14_1, rfl, HA, HJ1, BK153, HB⟩ := hcut
    cases kq with
    | zero => exact absurd HA.out (by simp [haspref22_Check.j0])
    | succ kj1 =>
      have H := HA.out
      clear HA
      simp only [haspref22_Check.j0] at H
      by_cases c6 : x14_1 = true
      · subst c6
        have H1 : (some 240) = some r := by rw [if_pos rfl] at H; exact H
        clear H
        have H := H1
        clear H1
        obtain rfl := Option.some.inj H
        go_wp2
        go_ret
        exact ⟨by first | rfl | (simp [errW_none, errW_some] <;> rfl) | (simp [*, errW_none, errW_some] <;> rfl), by repeat (first | (with_reducible first | exact HB.out | apply below_alloc | apply pw_below_drewN | apply below_drew1 | refine below_set ?_ GE153.out) | exact HB.out)⟩
      · replace c6 := Bool.eq_false_iff.mpr c6
        subst c6
        have H1 : (if 0 ≤ (wrap64 ((l0_1.length : Int) - 1)) then (if (wrap64 ((l0_1.length : Int) - 1)) < (l0_1.length : Int) then (if ((rd_T33 l0_1 (wrap64 ((l0_1.length : Int) - 1))).f0) = 12 then (haspref22_Check.l0 kj1 (l0_1.length : Int) 0 a0_0 l0_1) else (some 240)) else (none)) else (none)) = some r := by rw [if_neg (show ¬ (false = true) by decide)] at H; exact H
        clear H
        have H := H1
        clear H1
        obtain ⟨ji7, hji7⟩ : ∃ j_ : Int, (wrap64 ((l0_1.length : Int) - 1)) = j_ := ⟨_, rfl⟩
        replace H : (if 0 ≤ (ji7) then (if (ji7) < (l0_1.length : Int) then (if ((rd_T33 l0_1 (ji7)).f0) = 12 then (haspref22_Check.l0 kj1 (l0_1.length : Int) 0 a0_0 l0_1) else (some 240)) else (none)) else (none)) = some r := by first | (rw [hji7] at H; exact H) | (simp only [hji7] at H ⊢; exact H)
        have hji7w : (IntKind.i64.wrap ((l0_1.length : Int) - 1)) = ji7 := (i64_w _).trans hji7
        by_cases c8 : 0 ≤ (ji7)
        · rw [if_pos c8] at H
          have c8b0 : decide (0 ≤ (ji7)) = true := decide_eq_true c8
          clear c8
          by_cases c9 : (ji7) < (l0_1.length : Int)
          · rw [if_pos c9] at H
            have c9b0 : decide ((ji7) < (l0_1.length : Int)) = true := decide_eq_true c9
            clear c9
            by_cases c10 : ((rd_T33 l0_1 (ji7)).f0) = 12
            · rw [if_pos c10] at H
              have c10b0 : (((rd_T33 l0_1 (ji7)).f0) == 12) = true := beq_iff_eq.mpr c10
              have c10b1 : (((rd_T33 l0_1 (ji7)).f0) != 12) = false := bne_eq_false_iff_eq.mpr c10
              clear c10
              have H' := Aside0.mk H
              clear H
              have hcz11_0 : wc.cell? ⟨gb153, 0, none⟩ = some (.string a0_0) := (blk_cell BK153.out 0).trans rfl
              have hcz11_1 : wc.cell? ⟨gb153, 1, none⟩ = some (.slice A0_1 l0_1.length c0_1) := (blk_cell BK153.out 1).trans rfl
              have hfz11_0 := blk_frozen BK153.out 0
              have hfz11_1 := blk_frozen BK153.out 1
              have p154 : 0 ≤ ((ji7) : Int) := of_decide_eq_true (by first | (with_reducible assumption) | assumption)
              have q154 : (ji7) < (l0_1.length : Int) := of_decide_eq_true (by first | (with_reducible assumption) | assumption)
              obtain ⟨ad154, A154_7, c154_7, A154_8, c154_8, A154_11, c154_11, A154_13, c154_13, e154, hx154_0, hx154_1, hx154_2, hx154_3, hx154_4, hx154_5, hx154_6, hx154_7, hx154_8, hx154_9, hx154_10, hx154_11, hx154_12, hx154_13, hl154_7, hi154_7, hl154_8, hi154_8, hl154_11, hi154_11, hl154_13, hi154_13⟩ := at_T33 HR0_1.out (ji7) p154 q154
              cases e154
              replace hx154_0 := (HB.out.cell (World.block_lt_of_cell? w _ hx154_0)).trans hx154_0
              replace hx154_1 := (HB.out.cell (World.block_lt_of_cell? w _ hx154_1)).trans hx154_1
              replace hx154_2 := (HB.out.cell (World.block_lt_of_cell? w _ hx154_2)).trans hx154_2
              replace hx154_3 := (HB.out.cell (World.block_lt_of_cell? w _ hx154_3)).trans hx154_3
              replace hx154_4 := (HB.out.cell (World.block_lt_of_cell? w _ hx154_4)).trans hx154_4
              replace hx154_5 := (HB.out.cell (World.block_lt_of_cell? w _ hx154_5)).trans hx154_5
              replace hx154_6 := (HB.out.cell (World.block_lt_of_cell? w _ hx154_6)).trans hx154_6
              replace hx154_7 := (HB.out.cell (World.block_lt_of_cell? w _ hx154_7)).trans hx154_7
              replace hx154_8 := (HB.out.cell (World.block_lt_of_cell? w _ hx154_8)).trans hx154_8
              replace hx154_9 := (HB.out.cell (World.block_lt_of_cell? w _ hx154_9)).trans hx154_9
              replace hx154_10 := (HB.out.cell (World.block_lt_of_cell? w _ hx154_10)).trans hx154_10
              replace hx154_11 := (HB.out.cell (World.block_lt_of_cell? w _ hx154_11)).trans hx154_11
              replace hx154_12 := (HB.out.cell (World.block_lt_of_cell? w _ hx154_12)).trans hx154_12
              replace hx154_13 := (HB.out.cell (World.block_lt_of_cell? w _ hx154_13)).trans hx154_13
              have HR154_7 := Aside0.mk hi154_7
              have HC154_7 := Aside0.mk hl154_7
              clear hi154_7 hl154_7
              have HR154_8 := Aside0.mk hi154_8
              have HC154_8 := Aside0.mk hl154_8
              clear hi154_8 hl154_8
              have HR154_11 := Aside0.mk hi154_11
              have HC154_11 := Aside0.mk hl154_11
              clear hi154_11 hl154_11
              have HR154_13 := Aside0.mk hi154_13
              have HC154_13 := Aside0.mk hl154_13
              clear hi154_13 hl154_13
              replace p154 := eq_true p154
              replace q154 := eq_true q154
              go_wp2
              go_loopg [4] kj1 (fun kq v4 w' => ∃ (x4_2 : Int), v4 = .int .i64 x4_2 ∧ Aside0 (haspref22_Check.l0 kq (l0_1.length : Int) x4_2 a0_0 l0_1 = some r) ∧ Aside0 (kq ≤ kj1) ∧ Aside0 (w'.heap[gb153]? = some (.cells #[.string a0_0, (.slice (some ad154) l0_1.length c0_1)] 25 (0, 0))) ∧ Aside0 (Below w.heap.size w w'))
              case atStart => exact ⟨(0), (by first | rfl | (simp; done) | (simp [*]; done) | (simp; exact isEmpty_bne _) | (simp [*]; exact isEmpty_bne _)), H', ⟨Nat.le_refl _⟩, ⟨by (with_reducible repeat (first | refine blk_drewN ?_ _ | refine blk_drew ?_ | refine blk_alloc ?_ _)); exact BK153.out⟩, ⟨by repeat (first | (with_reducible first | exact HB.out | apply below_alloc | apply pw_below_drewN | apply below_drew1 | refine below_set ?_ GE153.out) | exact HB.out)⟩⟩
              case round =>
                clear H'
                try clear c1
                try clear p1
                try clear q1
                try clear hx1
                try clear p2
                try clear c5
                try clear c5b0
                try clear c5b1
                try clear c6
                try clear p6
                try clear c8
                try clear c8b0
                try clear c9
                try clear c9b0
                try clear c10
                try clear c10b0
                try clear c10b1
                try clear hcz11_0
                try clear hcz11_1
                try clear hcz4_0
                try clear hcz4_1
                try clear hfz11_0
                try clear hfz11_1
                try clear hfz4_0
                try clear hfz4_1
                try clear hx154_0
                try clear hx154_1
                try clear hx154_10
                try clear hx154_11
                try clear hx154_12
                try clear hx154_13
                try clear hx154_2
                try clear hx154_3
                try clear hx154_4
                try clear hx154_5
                try clear hx154_6
                try clear hx154_7
                try clear hx154_8
                try clear hx154_9
                try clear p154
                try clear p2
                try clear q154
                obtain ⟨x4_2, rfl, HA, HK2, BK153, HB⟩ := hrel
                cases gk with
                | zero => exact absurd HA.out (by simp [haspref22_Check.l0])
                | succ k2 =>
                  have H := HA.out
                  clear HA
                  simp only [haspref22_Check.l0] at H
                  by_cases c12 : x4_2 < (l0_1.length : Int)
                  · rw [if_pos c12] at H
                    have c12b0 : decide (x4_2 < (l0_1.length : Int)) = true := decide_eq_true c12
                    clear c12
                    by_cases c13 : 0 ≤ x4_2
                    · rw [if_pos c13] at H
                      have c13b0 : decide (0 ≤ x4_2) = true := decide_eq_true c13
                      clear c13
                      by_cases c14 : x4_2 < (l0_1.length : Int)
                      · rw [if_pos c14] at H
                        have c14b0 : decide (x4_2 < (l0_1.length : Int)) = true := decide_eq_true c14
                        clear c14
                        replace H := Option.bind_eq_some_iff.mp H
                        obtain ⟨t158, A150, H⟩ := H
                        replace H : (if t158 = true then (if ((rd_T33 l0_1 x4_2).f0) = 1 then (haspref22_Check.j2 k2 (l0_1.length : Int) x4_2 (decide (x4_2 > 0)) a0_0 l0_1 ((rd_T33 l0_1 x4_2).f0) ((rd_T33 l0_1 x4_2).f1) ((rd_T33 l0_1 x4_2).f2) ((rd_T33 l0_1 x4_2).f3) ((rd_T33 l0_1 x4_2).f4) ((rd_T33 l0_1 x4_2).f5) ((rd_T33 l0_1 x4_2).f6) ((rd_T33 l0_1 x4_2).f7) ((rd_T33 l0_1 x4_2).f8) ((rd_T33 l0_1 x4_2).f9) ((rd_T33 l0_1 x4_2).f10) ((rd_T33 l0_1 x4_2).f11) ((rd_T33 l0_1 x4_2).f12) ((rd_T33 l0_1 x4_2).f13)) else (haspref22_Check.j2 k2 (l0_1.length : Int) x4_2 false a0_0 l0_1 ((rd_T33 l0_1 x4_2).f0) ((rd_T33 l0_1 x4_2).f1) ((rd_T33 l0_1 x4_2).f2) ((rd_T33 l0_1 x4_2).f3) ((rd_T33 l0_1 x4_2).f4) ((rd_T33 l0_1 x4_2).f5) ((rd_T33 l0_1 x4_2).f6) ((rd_T33 l0_1 x4_2).f7) ((rd_T33 l0_1 x4_2).f8) ((rd_T33 l0_1 x4_2).f9) ((rd_T33 l0_1 x4_2).f10) ((rd_T33 l0_1 x4_2).f11) ((rd_T33 l0_1 x4_2).f12) ((rd_T33 l0_1 x4_2).f13))) else (some 240)) = some r := H
                        have A15 := Aside0.mk A150
                        clear A150
                        by_cases c16 : t158 = true
                        · subst c16
                          have H1 : (if ((rd_T33 l0_1 x4_2).f0) = 1 then (haspref22_Check.j2 k2 (l0_1.length : Int) x4_2 (decide (x4_2 > 0)) a0_0 l0_1 ((rd_T33 l0_1 x4_2).f0) ((rd_T33 l0_1 x4_2).f1) ((rd_T33 l0_1 x4_2).f2) ((rd_T33 l0_1 x4_2).f3) ((rd_T33 l0_1 x4_2).f4) ((rd_T33 l0_1 x4_2).f5) ((rd_T33 l0_1 x4_2).f6) ((rd_T33 l0_1 x4_2).f7) ((rd_T33 l0_1 x4_2).f8) ((rd_T33 l0_1 x4_2).f9) ((rd_T33 l0_1 x4_2).f10) ((rd_T33 l0_1 x4_2).f11) ((rd_T33 l0_1 x4_2).f12) ((rd_T33 l0_1 x4_2).f13)) else (haspref22_Check.j2 k2 (l0_1.length : Int) x4_2 false a0_0 l0_1 ((rd_T33 l0_1 x4_2).f0) ((rd_T33 l0_1 x4_2).f1) ((rd_T33 l0_1 x4_2).f2) ((rd_T33 l0_1 x4_2).f3) ((rd_T33 l0_1 x4_2).f4) ((rd_T33 l0_1 x4_2).f5) ((rd_T33 l0_1 x4_2).f6) ((rd_T33 l0_1 x4_2).f7) ((rd_T33 l0_1 x4_2).f8) ((rd_T33 l0_1 x4_2).f9) ((rd_T33 l0_1 x4_2).f10) ((rd_T33 l0_1 x4_2).f11) ((rd_T33 l0_1 x4_2).f12) ((rd_T33 l0_1 x4_2).f13))) = some r := by rw [if_pos rfl] at H; exact H
                          clear H
                          have H := H1
                          clear H1
                          have HC17 := Aside0.mk H
                          clear H
                          have hcz18_0 : wr.cell? ⟨gb153, 0, none⟩ = some (.string a0_0) := (blk_cell BK153.out 0).trans rfl
                          have hcz18_1 : wr.cell? ⟨gb153, 1, none⟩ = some (.slice (some ad154) l0_1.length c0_1) := (blk_cell BK153.out 1).trans rfl
                          have hfz18_0 := blk_frozen BK153.out 0
                          have hfz18_1 := blk_frozen BK153.out 1
                          have p156 : 0 ≤ (x4_2 : Int) := of_decide_eq_true (by first | (with_reducible assumption) | assumption)
                          have q156 : x4_2 < (l0_1.length : Int) := of_decide_eq_true (by first | (with_reducible assumption) | assumption)
                          obtain ⟨ad156, A156_7, c156_7, A156_8, c156_8, A156_11, c156_11, A156_13, c156_13, e156, hx156_0, hx156_1, hx156_2, hx156_3, hx156_4, hx156_5, hx156_6, hx156_7, hx156_8, hx156_9, hx156_10, hx156_11, hx156_12, hx156_13, hl156_7, hi156_7, hl156_8, hi156_8, hl156_11, hi156_11, hl156_13, hi156_13⟩ := at_T33 HR0_1.out x4_2 p156 q156
                          obtain rfl : ad154 = ad156 := (by injection e156)
                          replace hx156_0 := (HB.out.cell (World.block_lt_of_cell? w _ hx156_0)).trans hx156_0
                          replace hx156_1 := (HB.out.cell (World.block_lt_of_cell? w _ hx156_1)).trans hx156_1
                          replace hx156_2 := (HB.out.cell (World.block_lt_of_cell? w _ hx156_2)).trans hx156_2
                          replace hx156_3 := (HB.out.cell (World.block_lt_of_cell? w _ hx156_3)).trans hx156_3
                          replace hx156_4 := (HB.out.cell (World.block_lt_of_cell? w _ hx156_4)).trans hx156_4
                          replace hx156_5 := (HB.out.cell (World.block_lt_of_cell? w _ hx156_5)).trans hx156_5
                          replace hx156_6 := (HB.out.cell (World.block_lt_of_cell? w _ hx156_6)).trans hx156_6
                          replace hx156_7 := (HB.out.cell (World.block_lt_of_cell? w _ hx156_7)).trans hx156_7
                          replace hx156_8 := (HB.out.cell (World.block_lt_of_cell? w _ hx156_8)).trans hx156_8
                          replace hx156_9 := (HB.out.cell (World.block_lt_of_cell? w _ hx156_9)).trans hx156_9
                          replace hx156_10 := (HB.out.cell (World.block_lt_of_cell? w _ hx156_10)).trans hx156_10
                          replace hx156_11 := (HB.out.cell (World.block_lt_of_cell? w _ hx156_11)).trans hx156_11
                          replace hx156_12 := (HB.out.cell (World.block_lt_of_cell? w _ hx156_12)).trans hx156_12
                          replace hx156_13 := (HB.out.cell (World.block_lt_of_cell? w _ hx156_13)).trans hx156_13
                          have HR156_7 := Aside0.mk hi156_7
                          have HC156_7 := Aside0.mk hl156_7
                          clear hi156_7 hl156_7
                          have HR156_8 := Aside0.mk hi156_8
                          have HC156_8 := Aside0.mk hl156_8
                          clear hi156_8 hl156_8
                          have HR156_11 := Aside0.mk hi156_11
                          have HC156_11 := Aside0.mk hl156_11
                          clear hi156_11 hl156_11
                          have HR156_13 := Aside0.mk hi156_13
                          have HC156_13 := Aside0.mk hl156_13
                          clear hi156_13 hl156_13
                          replace p156 := eq_true p156
                          replace q156 := eq_true q156
                          go_upto_region 12 with (first | ((with_reducible refine gate_dst (N := 5) rfl ?_); refine box_event ?hg (N := 5) ?hd (cs := #[.int .i64 0, .int .i64 0, .int .i64 0, .int .i64 0, .int .i64 0, .string (⟨#[]⟩ : ByteArray), .int .i64 0, .slice none 0 0, .slice none 0 0, .bool false, .bool false, .slice none 0 0, .int .i64 0, .slice none 0 0]) (t := 33) ?hr ?_; (case hd => rfl); (case hg => rfl); (case hr => first | (go_simp; done) | (go_simp; rfl)); intro gb157 hg w19 hbox hb; have n0_ := Aside0.mk (blk_below (g := gb153) (o := .cells #[.string a0_0, .slice (some ad154) l0_1.length c0_1] 25 (0, 0)) (by (with_reducible repeat (first | refine blk_drewN ?_ _ | refine blk_drew ?_ | refine blk_alloc ?_ _)); exact BK153.out) hb); have n1_ := Aside0.mk (below_step (by repeat (first | (with_reducible first | exact HB.out | apply below_alloc | apply pw_below_drewN | apply below_drew1 | refine below_set ?_ GE153.out) | exact HB.out)) hb); have n2_ := Aside0.mk (hbox); have n3_ := Aside0.mk ((by rw [hg]; exact (below_size (by repeat (first | (with_reducible first | exact HB.out | apply below_alloc | apply pw_below_drewN | apply below_drew1 | refine below_set ?_ GE153.out) | exact HB.out))) : w.heap.size ≤ gb157)); have n4_ := Aside0.mk ((by rw [hg]; exact (below_size (by repeat (first | (with_reducible first | exact HB.out | apply below_alloc | apply pw_below_drewN | apply below_drew1 | refine below_set ?_ GE153.out) | exact HB.out))) : w.heap.size ≤ gb157)); have n5_ := Aside0.mk ((by rw [hg]; exact Nat.ne_of_lt (blk_lt (g := gb153) (o := .cells #[.string a0_0, .slice (some ad154) l0_1.length c0_1] 25 (0, 0)) (by (with_reducible repeat (first | refine blk_drewN ?_ _ | refine blk_drew ?_ | refine blk_alloc ?_ _)); exact BK153.out)) : gb153 ≠ gb157)); have n6_ := Aside0.mk ((by rw [hg]; exact Nat.ne_of_gt (blk_lt (g := gb153) (o := .cells #[.string a0_0, .slice (some ad154) l0_1.length c0_1] 25 (0, 0)) (by (with_reducible repeat (first | refine blk_drewN ?_ _ | refine blk_drew ?_ | refine blk_alloc ?_ _)); exact BK153.out)) : gb157 ≠ gb153)); clear BK153; clear HB; have BK153 := n0_; have HB := n1_; have BK157 := n2_; have GW157 := n3_; have GE157 := n4_; have NB153_157 := n5_; have NB157_153 := n6_; clear n0_ n1_ n2_ n3_ n4_ n5_ n6_; clear hb hbox hg; have hnb20 := NB157_153.out; have hnc20 := NB153_157.out; have hcz21_0 : w19.cell? ⟨gb157, 0, none⟩ = some (.int .i64 0) := (blk_cell BK157.out 0).trans rfl; have hcz21_1 : w19.cell? ⟨gb157, 1, none⟩ = some (.int .i64 0) := (blk_cell BK157.out 1).trans rfl; have hcz21_2 : w19.cell? ⟨gb157, 2, none⟩ = some (.int .i64 0) := (blk_cell BK157.out 2).trans rfl; have hcz21_3 : w19.cell? ⟨gb157, 3, none⟩ = some (.int .i64 0) := (blk_cell BK157.out 3).trans rfl; have hcz21_4 : w19.cell? ⟨gb157, 4, none⟩ = some (.int .i64 0) := (blk_cell BK157.out 4).trans rfl; have hcz21_5 : w19.cell? ⟨gb157, 5, none⟩ = some (.string (⟨#[]⟩ : ByteArray)) := (blk_cell BK157.out 5).trans rfl; have hcz21_6 : w19.cell? ⟨gb157, 6, none⟩ = some (.int .i64 0) := (blk_cell BK157.out 6).trans rfl; have hcz21_7 : w19.cell? ⟨gb157, 7, none⟩ = some (.slice none 0 0) := (blk_cell BK157.out 7).trans rfl; have hcz21_8 : w19.cell? ⟨gb157, 8, none⟩ = some (.slice none 0 0) := (blk_cell BK157.out 8).trans rfl; have hcz21_9 : w19.cell? ⟨gb157, 9, none⟩ = some (.bool false) := (blk_cell BK157.out 9).trans rfl; have hcz21_10 : w19.cell? ⟨gb157, 10, none⟩ = some (.bool false) := (blk_cell BK157.out 10).trans rfl; have hcz21_11 : w19.cell? ⟨gb157, 11, none⟩ = some (.slice none 0 0) := (blk_cell BK157.out 11).trans rfl; have hcz21_12 : w19.cell? ⟨gb157, 12, none⟩ = some (.int .i64 0) := (blk_cell BK157.out 12).trans rfl; have hcz21_13 : w19.cell? ⟨gb157, 13, none⟩ = some (.slice none 0 0) := (blk_cell BK157.out 13).trans rfl; have hfz21_0 := blk_frozen BK157.out 0; have hfz21_1 := blk_frozen BK157.out 1; have hfz21_2 := blk_frozen BK157.out 2; have hfz21_3 := blk_frozen BK157.out 3; have hfz21_4 := blk_frozen BK157.out 4; have hfz21_5 := blk_frozen BK157.out 5; have hfz21_6 := blk_frozen BK157.out 6; have hfz21_7 := blk_frozen BK157.out 7; have hfz21_8 := blk_frozen BK157.out 8; have hfz21_9 := blk_frozen BK157.out 9; have hfz21_10 := blk_frozen BK157.out 10; have hfz21_11 := blk_frozen BK157.out 11; have hfz21_12 := blk_frozen BK157.out 12; have hfz21_13 := blk_frozen BK157.out 13) | ((with_reducible refine gate_callee (f := 15) rfl ?_); refine goesL_ (some 35) rfl rfl Try.func15 (by kernel_rfl) rfl #[.agg #[.int .i64 ((rd_T33 l0_1 x4_2).f0), .int .i64 ((rd_T33 l0_1 x4_2).f1), .int .i64 ((rd_T33 l0_1 x4_2).f2), .int .i64 ((rd_T33 l0_1 x4_2).f3), .int .i64 ((rd_T33 l0_1 x4_2).f4), .string ((rd_T33 l0_1 x4_2).f5), .int .i64 ((rd_T33 l0_1 x4_2).f6), .slice A156_7 ((rd_T33 l0_1 x4_2).f7).length c156_7, .slice A156_8 ((rd_T33 l0_1 x4_2).f8).length c156_8, .bool ((rd_T33 l0_1 x4_2).f9), .bool ((rd_T33 l0_1 x4_2).f10), .slice A156_11 ((rd_T33 l0_1 x4_2).f11).length c156_11, .int .i64 ((rd_T33 l0_1 x4_2).f12), .slice A156_13 ((rd_T33 l0_1 x4_2).f13).length c156_13], .int .i64 (l0_1.length : Int)] rfl (by (try simp only [List.map_toArray, List.map_cons, List.map_nil]); first | done | rfl | (simp only [List.length_drop, List.length_take]; rfl)) ?_; (with_reducible refine (haspref22_right.calls k2 ((rd_T33 l0_1 x4_2).f0) ((rd_T33 l0_1 x4_2).f1) ((rd_T33 l0_1 x4_2).f2) ((rd_T33 l0_1 x4_2).f3) ((rd_T33 l0_1 x4_2).f4) ((rd_T33 l0_1 x4_2).f5) ((rd_T33 l0_1 x4_2).f6) _ _ ((rd_T33 l0_1 x4_2).f7) _ _ ((rd_T33 l0_1 x4_2).f8) ((rd_T33 l0_1 x4_2).f9) ((rd_T33 l0_1 x4_2).f10) _ _ ((rd_T33 l0_1 x4_2).f11) ((rd_T33 l0_1 x4_2).f12) _ _ ((rd_T33 l0_1 x4_2).f13) (l0_1.length : Int) true _ ?side1 ?side2 ?side3 ?side4 ?side5 ?side6 ?side7 ?side8 A15.out).mono ?_); (case side1 => exact Kd.C_below HR156_7.out (by repeat (first | (with_reducible first | exact HB.out | apply below_alloc | apply pw_below_drewN | apply below_drew1 | refine below_set ?_ GE153.out | refine below_set ?_ GE157.out) | exact HB.out))); (case side2 => exact HC156_7.out); (case side3 => exact Kd.C_below HR156_8.out (by repeat (first | (with_reducible first | exact HB.out | apply below_alloc | apply pw_below_drewN | apply below_drew1 | refine below_set ?_ GE153.out | refine below_set ?_ GE157.out) | exact HB.out))); (case side4 => exact HC156_8.out); (case side5 => exact Kd.C_below HR156_11.out (by repeat (first | (with_reducible first | exact HB.out | apply below_alloc | apply pw_below_drewN | apply below_drew1 | refine below_set ?_ GE153.out | refine below_set ?_ GE157.out) | exact HB.out))); (case side6 => exact HC156_11.out); (case side7 => exact Kd.C_below HR156_13.out (by repeat (first | (with_reducible first | exact HB.out | apply below_alloc | apply pw_below_drewN | apply below_drew1 | refine below_set ?_ GE153.out | refine below_set ?_ GE157.out) | exact HB.out))); (case side8 => exact HC156_13.out); rintro e w22 ⟨rfl, hb⟩; refine ⟨_, rfl, ?_⟩; have n0_ := Aside0.mk (blk_below (g := gb153) (o := .cells #[.string a0_0, .slice (some ad154) l0_1.length c0_1] 25 (0, 0)) (by (with_reducible repeat (first | refine blk_drewN ?_ _ | refine blk_drew ?_ | refine blk_alloc ?_ _)); refine blk_far ?_ NB153_157.out _; (with_reducible repeat (first | refine blk_drewN ?_ _ | refine blk_drew ?_ | refine blk_alloc ?_ _)); refine blk_far ?_ NB153_157.out _; (with_reducible repeat (first | refine blk_drewN ?_ _ | refine blk_drew ?_ | refine blk_alloc ?_ _)); refine blk_far ?_ NB153_157.out _; (with_reducible repeat (first | refine blk_drewN ?_ _ | refine blk_drew ?_ | refine blk_alloc ?_ _)); refine blk_far ?_ NB153_157.out _; (with_reducible repeat (first | refine blk_drewN ?_ _ | refine blk_drew ?_ | refine blk_alloc ?_ _)); refine blk_far ?_ NB153_157.out _; (with_reducible repeat (first | refine blk_drewN ?_ _ | refine blk_drew ?_ | refine blk_alloc ?_ _)); refine blk_far ?_ NB153_157.out _; (with_reducible repeat (first | refine blk_drewN ?_ _ | refine blk_drew ?_ | refine blk_alloc ?_ _)); refine blk_far ?_ NB153_157.out _; (with_reducible repeat (first | refine blk_drewN ?_ _ | refine blk_drew ?_ | refine blk_alloc ?_ _)); refine blk_far ?_ NB153_157.out _; (with_reducible repeat (first | refine blk_drewN ?_ _ | refine blk_drew ?_ | refine blk_alloc ?_ _)); refine blk_far ?_ NB153_157.out _; (with_reducible repeat (first | refine blk_drewN ?_ _ | refine blk_drew ?_ | refine blk_alloc ?_ _)); refine blk_far ?_ NB153_157.out _; (with_reducible repeat (first | refine blk_drewN ?_ _ | refine blk_drew ?_ | refine blk_alloc ?_ _)); refine blk_far ?_ NB153_157.out _; (with_reducible repeat (first | refine blk_drewN ?_ _ | refine blk_drew ?_ | refine blk_alloc ?_ _)); refine blk_far ?_ NB153_157.out _; (with_reducible repeat (first | refine blk_drewN ?_ _ | refine blk_drew ?_ | refine blk_alloc ?_ _)); refine blk_far ?_ NB153_157.out _; (with_reducible repeat (first | refine blk_drewN ?_ _ | refine blk_drew ?_ | refine blk_alloc ?_ _)); refine blk_far ?_ NB153_157.out _; (with_reducible repeat (first | refine blk_drewN ?_ _ | refine blk_drew ?_ | refine blk_alloc ?_ _)); exact BK153.out) hb); have n1_ := Aside0.mk (blk_below (g := gb157) (o := .cells #[.int .i64 ((rd_T33 l0_1 x4_2).f0), .int .i64 ((rd_T33 l0_1 x4_2).f1), .int .i64 ((rd_T33 l0_1 x4_2).f2), .int .i64 ((rd_T33 l0_1 x4_2).f3), .int .i64 ((rd_T33 l0_1 x4_2).f4), .string ((rd_T33 l0_1 x4_2).f5), .int .i64 ((rd_T33 l0_1 x4_2).f6), .slice A156_7 ((rd_T33 l0_1 x4_2).f7).length c156_7, .slice A156_8 ((rd_T33 l0_1 x4_2).f8).length c156_8, .bool ((rd_T33 l0_1 x4_2).f9), .bool ((rd_T33 l0_1 x4_2).f10), .slice A156_11 ((rd_T33 l0_1 x4_2).f11).length c156_11, .int .i64 ((rd_T33 l0_1 x4_2).f12), .slice A156_13 ((rd_T33 l0_1 x4_2).f13).length c156_13] 33 (0, 0)) (by (with_reducible repeat (first | refine blk_drewN ?_ _ | refine blk_drew ?_ | refine blk_alloc ?_ _)); refine blk_put (cs := #[.int .i64 ((rd_T33 l0_1 x4_2).f0), .int .i64 ((rd_T33 l0_1 x4_2).f1), .int .i64 ((rd_T33 l0_1 x4_2).f2), .int .i64 ((rd_T33 l0_1 x4_2).f3), .int .i64 ((rd_T33 l0_1 x4_2).f4), .string ((rd_T33 l0_1 x4_2).f5), .int .i64 ((rd_T33 l0_1 x4_2).f6), .slice A156_7 ((rd_T33 l0_1 x4_2).f7).length c156_7, .slice A156_8 ((rd_T33 l0_1 x4_2).f8).length c156_8, .bool ((rd_T33 l0_1 x4_2).f9), .bool ((rd_T33 l0_1 x4_2).f10), .slice A156_11 ((rd_T33 l0_1 x4_2).f11).length c156_11, .int .i64 ((rd_T33 l0_1 x4_2).f12), .slice none 0 0]) ?_ 13 _ rfl; (with_reducible repeat (first | refine blk_drewN ?_ _ | refine blk_drew ?_ | refine blk_alloc ?_ _)); refine blk_put (cs := #[.int .i64 ((rd_T33 l0_1 x4_2).f0), .int .i64 ((rd_T33 l0_1 x4_2).f1), .int .i64 ((rd_T33 l0_1 x4_2).f2), .int .i64 ((rd_T33 l0_1 x4_2).f3), .int .i64 ((rd_T33 l0_1 x4_2).f4), .string ((rd_T33 l0_1 x4_2).f5), .int .i64 ((rd_T33 l0_1 x4_2).f6), .slice A156_7 ((rd_T33 l0_1 x4_2).f7).length c156_7, .slice A156_8 ((rd_T33 l0_1 x4_2).f8).length c156_8, .bool ((rd_T33 l0_1 x4_2).f9), .bool ((rd_T33 l0_1 x4_2).f10), .slice A156_11 ((rd_T33 l0_1 x4_2).f11).length c156_11, .int .i64 0, .slice none 0 0]) ?_ 12 _ rfl; (with_reducible repeat (first | refine blk_drewN ?_ _ | refine blk_drew ?_ | refine blk_alloc ?_ _)); refine blk_put (cs := #[.int .i64 ((rd_T33 l0_1 x4_2).f0), .int .i64 ((rd_T33 l0_1 x4_2).f1), .int .i64 ((rd_T33 l0_1 x4_2).f2), .int .i64 ((rd_T33 l0_1 x4_2).f3), .int .i64 ((rd_T33 l0_1 x4_2).f4), .string ((rd_T33 l0_1 x4_2).f5), .int .i64 ((rd_T33 l0_1 x4_2).f6), .slice A156_7 ((rd_T33 l0_1 x4_2).f7).length c156_7, .slice A156_8 ((rd_T33 l0_1 x4_2).f8).length c156_8, .bool ((rd_T33 l0_1 x4_2).f9), .bool ((rd_T33 l0_1 x4_2).f10), .slice none 0 0, .int .i64 0, .slice none 0 0]) ?_ 11 _ rfl; (with_reducible repeat (first | refine blk_drewN ?_ _ | refine blk_drew ?_ | refine blk_alloc ?_ _)); refine blk_put (cs := #[.int .i64 ((rd_T33 l0_1 x4_2).f0), .int .i64 ((rd_T33 l0_1 x4_2).f1), .int .i64 ((rd_T33 l0_1 x4_2).f2), .int .i64 ((rd_T33 l0_1 x4_2).f3), .int .i64 ((rd_T33 l0_1 x4_2).f4), .string ((rd_T33 l0_1 x4_2).f5), .int .i64 ((rd_T33 l0_1 x4_2).f6), .slice A156_7 ((rd_T33 l0_1 x4_2).f7).length c156_7, .slice A156_8 ((rd_T33 l0_1 x4_2).f8).length c156_8, .bool ((rd_T33 l0_1 x4_2).f9), .bool false, .slice none 0 0, .int .i64 0, .slice none 0 0]) ?_ 10 _ rfl; (with_reducible repeat (first | refine blk_drewN ?_ _ | refine blk_drew ?_ | refine blk_alloc ?_ _)); refine blk_put (cs := #[.int .i64 ((rd_T33 l0_1 x4_2).f0), .int .i64 ((rd_T33 l0_1 x4_2).f1), .int .i64 ((rd_T33 l0_1 x4_2).f2), .int .i64 ((rd_T33 l0_1 x4_2).f3), .int .i64 ((rd_T33 l0_1 x4_2).f4), .string ((rd_T33 l0_1 x4_2).f5), .int .i64 ((rd_T33 l0_1 x4_2).f6), .slice A156_7 ((rd_T33 l0_1 x4_2).f7).length c156_7, .slice A156_8 ((rd_T33 l0_1 x4_2).f8).length c156_8, .bool false, .bool false, .slice none 0 0, .int .i64 0, .slice none 0 0]) ?_ 9 _ rfl; (with_reducible repeat (first | refine blk_drewN ?_ _ | refine blk_drew ?_ | refine blk_alloc ?_ _)); refine blk_put (cs := #[.int .i64 ((rd_T33 l0_1 x4_2).f0), .int .i64 ((rd_T33 l0_1 x4_2).f1), .int .i64 ((rd_T33 l0_1 x4_2).f2), .int .i64 ((rd_T33 l0_1 x4_2).f3), .int .i64 ((rd_T33 l0_1 x4_2).f4), .string ((rd_T33 l0_1 x4_2).f5), .int .i64 ((rd_T33 l0_1 x4_2).f6), .slice A156_7 ((rd_T33 l0_1 x4_2).f7).length c156_7, .slice none 0 0, .bool false, .bool false, .slice none 0 0, .int .i64 0, .slice none 0 0]) ?_ 8 _ rfl; (with_reducible repeat (first | refine blk_drewN ?_ _ | refine blk_drew ?_ | refine blk_alloc ?_ _)); refine blk_put (cs := #[.int .i64 ((rd_T33 l0_1 x4_2).f0), .int .i64 ((rd_T33 l0_1 x4_2).f1), .int .i64 ((rd_T33 l0_1 x4_2).f2), .int .i64 ((rd_T33 l0_1 x4_2).f3), .int .i64 ((rd_T33 l0_1 x4_2).f4), .string ((rd_T33 l0_1 x4_2).f5), .int .i64 ((rd_T33 l0_1 x4_2).f6), .slice none 0 0, .slice none 0 0, .bool false, .bool false, .slice none 0 0, .int .i64 0, .slice none 0 0]) ?_ 7 _ rfl; (with_reducible repeat (first | refine blk_drewN ?_ _ | refine blk_drew ?_ | refine blk_alloc ?_ _)); refine blk_put (cs := #[.int .i64 ((rd_T33 l0_1 x4_2).f0), .int .i64 ((rd_T33 l0_1 x4_2).f1), .int .i64 ((rd_T33 l0_1 x4_2).f2), .int .i64 ((rd_T33 l0_1 x4_2).f3), .int .i64 ((rd_T33 l0_1 x4_2).f4), .string ((rd_T33 l0_1 x4_2).f5), .int .i64 0, .slice none 0 0, .slice none 0 0, .bool false, .bool false, .slice none 0 0, .int .i64 0, .slice none 0 0]) ?_ 6 _ rfl; (with_reducible repeat (first | refine blk_drewN ?_ _ | refine blk_drew ?_ | refine blk_alloc ?_ _)); refine blk_put (cs := #[.int .i64 ((rd_T33 l0_1 x4_2).f0), .int .i64 ((rd_T33 l0_1 x4_2).f1), .int .i64 ((rd_T33 l0_1 x4_2).f2), .int .i64 ((rd_T33 l0_1 x4_2).f3), .int .i64 ((rd_T33 l0_1 x4_2).f4), .string (⟨#[]⟩ : ByteArray), .int .i64 0, .slice none 0 0, .slice none 0 0, .bool false, .bool false, .slice none 0 0, .int .i64 0, .slice none 0 0]) ?_ 5 _ rfl; (with_reducible repeat (first | refine blk_drewN ?_ _ | refine blk_drew ?_ | refine blk_alloc ?_ _)); refine blk_put (cs := #[.int .i64 ((rd_T33 l0_1 x4_2).f0), .int .i64 ((rd_T33 l0_1 x4_2).f1), .int .i64 ((rd_T33 l0_1 x4_2).f2), .int .i64 ((rd_T33 l0_1 x4_2).f3), .int .i64 0, .string (⟨#[]⟩ : ByteArray), .int .i64 0, .slice none 0 0, .slice none 0 0, .bool false, .bool false, .slice none 0 0, .int .i64 0, .slice none 0 0]) ?_ 4 _ rfl; (with_reducible repeat (first | refine blk_drewN ?_ _ | refine blk_drew ?_ | refine blk_alloc ?_ _)); refine blk_put (cs := #[.int .i64 ((rd_T33 l0_1 x4_2).f0), .int .i64 ((rd_T33 l0_1 x4_2).f1), .int .i64 ((rd_T33 l0_1 x4_2).f2), .int .i64 0, .int .i64 0, .string (⟨#[]⟩ : ByteArray), .int .i64 0, .slice none 0 0, .slice none 0 0, .bool false, .bool false, .slice none 0 0, .int .i64 0, .slice none 0 0]) ?_ 3 _ rfl; (with_reducible repeat (first | refine blk_drewN ?_ _ | refine blk_drew ?_ | refine blk_alloc ?_ _)); refine blk_put (cs := #[.int .i64 ((rd_T33 l0_1 x4_2).f0), .int .i64 ((rd_T33 l0_1 x4_2).f1), .int .i64 0, .int .i64 0, .int .i64 0, .string (⟨#[]⟩ : ByteArray), .int .i64 0, .slice none 0 0, .slice none 0 0, .bool false, .bool false, .slice none 0 0, .int .i64 0, .slice none 0 0]) ?_ 2 _ rfl; (with_reducible repeat (first | refine blk_drewN ?_ _ | refine blk_drew ?_ | refine blk_alloc ?_ _)); refine blk_put (cs := #[.int .i64 ((rd_T33 l0_1 x4_2).f0), .int .i64 0, .int .i64 0, .int .i64 0, .int .i64 0, .string (⟨#[]⟩ : ByteArray), .int .i64 0, .slice none 0 0, .slice none 0 0, .bool false, .bool false, .slice none 0 0, .int .i64 0, .slice none 0 0]) ?_ 1 _ rfl; (with_reducible repeat (first | refine blk_drewN ?_ _ | refine blk_drew ?_ | refine blk_alloc ?_ _)); refine blk_put (cs := #[.int .i64 0, .int .i64 0, .int .i64 0, .int .i64 0, .int .i64 0, .string (⟨#[]⟩ : ByteArray), .int .i64 0, .slice none 0 0, .slice none 0 0, .bool false, .bool false, .slice none 0 0, .int .i64 0, .slice none 0 0]) ?_ 0 _ rfl; (with_reducible repeat (first | refine blk_drewN ?_ _ | refine blk_drew ?_ | refine blk_alloc ?_ _)); exact BK157.out) hb); have n2_ := Aside0.mk (below_step (by repeat (first | (with_reducible first | exact HB.out | apply below_alloc | apply pw_below_drewN | apply below_drew1 | refine below_set ?_ GE153.out | refine below_set ?_ GE157.out) | exact HB.out)) hb); clear BK153; clear BK157; clear HB; have BK153 := n0_; have BK157 := n1_; have HB := n2_; clear n0_ n1_ n2_; (try clear hb); (try clear hb2); (try clear hk); (try clear hi)))
                          (try simp only [Act.put, List.setIfInBounds_toArray, List.set_cons_zero, List.set_cons_succ])
                          go_cut [43] (fun v43 wc => ∃ (kq : Nat) (x43_16 : Bool), v43 = .bool x43_16 ∧ Aside0 (haspref22_Check.j2 kq (l0_1.length : Int) x4_2 x43_16 a0_0 l0_1 ((rd_T33 l0_1 x4_2).f0) ((rd_T33 l0_1 x4_2).f1) ((rd_T33 l0_1 x4_2).f2) ((rd_T33 l0_1 x4_2).f3) ((rd_T33 l0_1 x4_2).f4) ((rd_T33 l0_1 x4_2).f5) ((rd_T33 l0_1 x4_2).f6) ((rd_T33 l0_1 x4_2).f7) ((rd_T33 l0_1 x4_2).f8) ((rd_T33 l0_1 x4_2).f9) ((rd_T33 l0_1 x4_2).f10) ((rd_T33 l0_1 x4_2).f11) ((rd_T33 l0_1 x4_2).f12) ((rd_T33 l0_1 x4_2).f13) = some r) ∧ Aside0 (kq ≤ k2) ∧ Aside0 (wc.heap[gb153]? = some (.cells #[.string a0_0, (.slice (some ad154) l0_1.length c0_1)] 25 (0, 0))) ∧ Aside0 (wc.heap[gb157]? = some (.cells #[.int .i64 ((rd_T33 l0_1 x4_2).f0), .int .i64 ((rd_T33 l0_1 x4_2).f1), .int .i64 ((rd_T33 l0_1 x4_2).f2), .int .i64 ((rd_T33 l0_1 x4_2).f3), .int .i64 ((rd_T33 l0_1 x4_2).f4), .string ((rd_T33 l0_1 x4_2).f5), .int .i64 ((rd_T33 l0_1 x4_2).f6), (.slice A156_7 ((rd_T33 l0_1 x4_2).f7).length c156_7), (.slice A156_8 ((rd_T33 l0_1 x4_2).f8).length c156_8), .bool ((rd_T33 l0_1 x4_2).f9), .bool ((rd_T33 l0_1 x4_2).f10), (.slice A156_11 ((rd_T33 l0_1 x4_2).f11).length c156_11), .int .i64 ((rd_T33 l0_1 x4_2).f12), (.slice A156_13 ((rd_T33 l0_1 x4_2).f13).length c156_13)] 33 (0, 0))) ∧ Aside0 (Below w.heap.size w wc))
                          case first =>
                            have H := HC17.out
                            clear HC17
                            by_cases c23 : ((rd_T33 l0_1 x4_2).f0) = 1
                            · rw [if_pos c23] at H
                              have c23b0 : (((rd_T33 l0_1 x4_2).f0) == 1) = true := beq_iff_eq.mpr c23
                              have c23b1 : (((rd_T33 l0_1 x4_2).f0) != 1) = false := bne_eq_false_iff_eq.mpr c23
                              clear c23
                              (first | rw [c23b0] | (simp only [i64_w, i32_w]; rw [c23b0]) | skip)
                              have H' := Aside0.mk H
                              clear H
                              have hnb24 := NB157_153.out
                              have hnc24 := NB153_157.out
                              have hcz25_0 : w22.cell? ⟨gb157, 0, none⟩ = some (.int .i64 ((rd_T33 l0_1 x4_2).f0)) := (blk_cell BK157.out 0).trans rfl
                              have hcz25_1 : w22.cell? ⟨gb157, 1, none⟩ = some (.int .i64 ((rd_T33 l0_1 x4_2).f1)) := (blk_cell BK157.out 1).trans rfl
                              have hcz25_2 : w22.cell? ⟨gb157, 2, none⟩ = some (.int .i64 ((rd_T33 l0_1 x4_2).f2)) := (blk_cell BK157.out 2).trans rfl
                              have hcz25_3 : w22.cell? ⟨gb157, 3, none⟩ = some (.int .i64 ((rd_T33 l0_1 x4_2).f3)) := (blk_cell BK157.out 3).trans rfl
                              have hcz25_4 : w22.cell? ⟨gb157, 4, none⟩ = some (.int .i64 ((rd_T33 l0_1 x4_2).f4)) := (blk_cell BK157.out 4).trans rfl
                              have hcz25_5 : w22.cell? ⟨gb157, 5, none⟩ = some (.string ((rd_T33 l0_1 x4_2).f5)) := (blk_cell BK157.out 5).trans rfl
                              have hcz25_6 : w22.cell? ⟨gb157, 6, none⟩ = some (.int .i64 ((rd_T33 l0_1 x4_2).f6)) := (blk_cell BK157.out 6).trans rfl
                              have hcz25_7 : w22.cell? ⟨gb157, 7, none⟩ = some (.slice A156_7 ((rd_T33 l0_1 x4_2).f7).length c156_7) := (blk_cell BK157.out 7).trans rfl
                              have hcz25_8 : w22.cell? ⟨gb157, 8, none⟩ = some (.slice A156_8 ((rd_T33 l0_1 x4_2).f8).length c156_8) := (blk_cell BK157.out 8).trans rfl
                              have hcz25_9 : w22.cell? ⟨gb157, 9, none⟩ = some (.bool ((rd_T33 l0_1 x4_2).f9)) := (blk_cell BK157.out 9).trans rfl
                              have hcz25_10 : w22.cell? ⟨gb157, 10, none⟩ = some (.bool ((rd_T33 l0_1 x4_2).f10)) := (blk_cell BK157.out 10).trans rfl
                              have hcz25_11 : w22.cell? ⟨gb157, 11, none⟩ = some (.slice A156_11 ((rd_T33 l0_1 x4_2).f11).length c156_11) := (blk_cell BK157.out 11).trans rfl
                              have hcz25_12 : w22.cell? ⟨gb157, 12, none⟩ = some (.int .i64 ((rd_T33 l0_1 x4_2).f12)) := (blk_cell BK157.out 12).trans rfl
                              have hcz25_13 : w22.cell? ⟨gb157, 13, none⟩ = some (.slice A156_13 ((rd_T33 l0_1 x4_2).f13).length c156_13) := (blk_cell BK157.out 13).trans rfl
                              have hfz25_0 := blk_frozen BK157.out 0
                              have hfz25_1 := blk_frozen BK157.out 1
                              have hfz25_2 := blk_frozen BK157.out 2
                              have hfz25_3 := blk_frozen BK157.out 3
                              have hfz25_4 := blk_frozen BK157.out 4
                              have hfz25_5 := blk_frozen BK157.out 5
                              have hfz25_6 := blk_frozen BK157.out 6
                              have hfz25_7 := blk_frozen BK157.out 7
                              have hfz25_8 := blk_frozen BK157.out 8
                              have hfz25_9 := blk_frozen BK157.out 9
                              have hfz25_10 := blk_frozen BK157.out 10
                              have hfz25_11 := blk_frozen BK157.out 11
                              have hfz25_12 := blk_frozen BK157.out 12
                              have hfz25_13 := blk_frozen BK157.out 13
                              go_wp2
                              go_meet
                              case rel => exact ⟨_, (decide (x4_2 > 0)), (by first | rfl | (simp; done) | (simp [*]; done) | (simp; exact isEmpty_bne _) | (simp [*]; exact isEmpty_bne _)), H', ⟨by have := HJ1.out; have := HK2.out; first | omega | exact Nat.le_refl _⟩, ⟨by (with_reducible repeat (first | refine blk_drewN ?_ _ | refine blk_drew ?_ | refine blk_alloc ?_ _)); exact BK153.out⟩, ⟨by (with_reducible repeat (first | refine blk_drewN ?_ _ | refine blk_drew ?_ | refine blk_alloc ?_ _)); exact BK157.out⟩, ⟨by repeat (first | (with_reducible first | exact HB.out | apply below_alloc | apply pw_below_drewN | apply below_drew1 | refine below_set ?_ GE153.out | refine below_set ?_ GE157.out) | exact HB.out)⟩⟩
                            · rw [if_neg c23] at H
                              have c23b0 : (((rd_T33 l0_1 x4_2).f0) == 1) = false := beq_eq_false_iff_ne.mpr c23
                              have c23b1 : (((rd_T33 l0_1 x4_2).f0) != 1) = true := bne_iff_ne.mpr c23
                              (first | rw [c23b0] | (simp only [i64_w, i32_w]; rw [c23b0]) | skip)
                              have H' := Aside0.mk H
                              clear H
                              have hnb26 := NB157_153.out
                              have hnc26 := NB153_157.out
                              have hcz27_0 : w22.cell? ⟨gb157, 0, none⟩ = some (.int .i64 ((rd_T33 l0_1 x4_2).f0)) := (blk_cell BK157.out 0).trans rfl
                              have hcz27_1 : w22.cell? ⟨gb157, 1, none⟩ = some (.int .i64 ((rd_T33 l0_1 x4_2).f1)) := (blk_cell BK157.out 1).trans rfl
                              have hcz27_2 : w22.cell? ⟨gb157, 2, none⟩ = some (.int .i64 ((rd_T33 l0_1 x4_2).f2)) := (blk_cell BK157.out 2).trans rfl
                              have hcz27_3 : w22.cell? ⟨gb157, 3, none⟩ = some (.int .i64 ((rd_T33 l0_1 x4_2).f3)) := (blk_cell BK157.out 3).trans rfl
                              have hcz27_4 : w22.cell? ⟨gb157, 4, none⟩ = some (.int .i64 ((rd_T33 l0_1 x4_2).f4)) := (blk_cell BK157.out 4).trans rfl
                              have hcz27_5 : w22.cell? ⟨gb157, 5, none⟩ = some (.string ((rd_T33 l0_1 x4_2).f5)) := (blk_cell BK157.out 5).trans rfl
                              have hcz27_6 : w22.cell? ⟨gb157, 6, none⟩ = some (.int .i64 ((rd_T33 l0_1 x4_2).f6)) := (blk_cell BK157.out 6).trans rfl
                              have hcz27_7 : w22.cell? ⟨gb157, 7, none⟩ = some (.slice A156_7 ((rd_T33 l0_1 x4_2).f7).length c156_7) := (blk_cell BK157.out 7).trans rfl
                              have hcz27_8 : w22.cell? ⟨gb157, 8, none⟩ = some (.slice A156_8 ((rd_T33 l0_1 x4_2).f8).length c156_8) := (blk_cell BK157.out 8).trans rfl
                              have hcz27_9 : w22.cell? ⟨gb157, 9, none⟩ = some (.bool ((rd_T33 l0_1 x4_2).f9)) := (blk_cell BK157.out 9).trans rfl
                              have hcz27_10 : w22.cell? ⟨gb157, 10, none⟩ = some (.bool ((rd_T33 l0_1 x4_2).f10)) := (blk_cell BK157.out 10).trans rfl
                              have hcz27_11 : w22.cell? ⟨gb157, 11, none⟩ = some (.slice A156_11 ((rd_T33 l0_1 x4_2).f11).length c156_11) := (blk_cell BK157.out 11).trans rfl
                              have hcz27_12 : w22.cell? ⟨gb157, 12, none⟩ = some (.int .i64 ((rd_T33 l0_1 x4_2).f12)) := (blk_cell BK157.out 12).trans rfl
                              have hcz27_13 : w22.cell? ⟨gb157, 13, none⟩ = some (.slice A156_13 ((rd_T33 l0_1 x4_2).f13).length c156_13) := (blk_cell BK157.out 13).trans rfl
                              have hfz27_0 := blk_frozen BK157.out 0
                              have hfz27_1 := blk_frozen BK157.out 1
                              have hfz27_2 := blk_frozen BK157.out 2
                              have hfz27_3 := blk_frozen BK157.out 3
                              have hfz27_4 := blk_frozen BK157.out 4
                              have hfz27_5 := blk_frozen BK157.out 5
                              have hfz27_6 := blk_frozen BK157.out 6
                              have hfz27_7 := blk_frozen BK157.out 7
                              have hfz27_8 := blk_frozen BK157.out 8
                              have hfz27_9 := blk_frozen BK157.out 9
                              have hfz27_10 := blk_frozen BK157.out 10
                              have hfz27_11 := blk_frozen BK157.out 11
                              have hfz27_12 := blk_frozen BK157.out 12
                              have hfz27_13 := blk_frozen BK157.out 13
                              go_wp2
                              go_meet
                              case rel => exact ⟨_, (false), (by first | rfl | (simp; done) | (simp [*]; done) | (simp; exact isEmpty_bne _) | (simp [*]; exact isEmpty_bne _)), H', ⟨by have := HJ1.out; have := HK2.out; first | omega | exact Nat.le_refl _⟩, ⟨by (with_reducible repeat (first | refine blk_drewN ?_ _ | refine blk_drew ?_ | refine blk_alloc ?_ _)); exact BK153.out⟩, ⟨by (with_reducible repeat (first | refine blk_drewN ?_ _ | refine blk_drew ?_ | refine blk_alloc ?_ _)); exact BK157.out⟩, ⟨by repeat (first | (with_reducible first | exact HB.out | apply below_alloc | apply pw_below_drewN | apply below_drew1 | refine below_set ?_ GE153.out | refine below_set ?_ GE157.out) | exact HB.out)⟩⟩
                          case rest =>
                            clear HC17
                            try clear c1
                            try clear p1
                            try clear q1
                            try clear hx1
                            try clear c2
                            try clear p2
                            try clear c5
                            try clear c5b0
                            try clear c5b1
                            try clear c6
                            try clear p6
                            try clear c8
                            try clear c8b0
                            try clear c9
                            try clear c9b0
                            try clear c10
                            try clear c10b0
                            try clear c10b1
                            try clear c12
                            try clear c12b0
                            try clear c13
                            try clear c13b0
                            try clear c14
                            try clear c14b0
                            try clear c15
                            try clear p15
                            try clear q15
                            try clear hx15
                            try clear c16
                            try clear c20
                            try clear c23
                            try clear c23b0
                            try clear c23b1
                            try clear c24
                            try clear c26
                            try clear hcz11_0
                            try clear hcz11_1
                            try clear hcz18_0
                            try clear hcz18_1
                            try clear hcz21_0
                            try clear hcz21_1
                            try clear hcz21_10
                            try clear hcz21_11
                            try clear hcz21_12
                            try clear hcz21_13
                            try clear hcz21_2
                            try clear hcz21_3
                            try clear hcz21_4
                            try clear hcz21_5
                            try clear hcz21_6
                            try clear hcz21_7
                            try clear hcz21_8
                            try clear hcz21_9
                            try clear hcz25_0
                            try clear hcz25_1
                            try clear hcz25_10
                            try clear hcz25_11
                            try clear hcz25_12
                            try clear hcz25_13
                            try clear hcz25_2
                            try clear hcz25_3
                            try clear hcz25_4
                            try clear hcz25_5
                            try clear hcz25_6
                            try clear hcz25_7
                            try clear hcz25_8
                            try clear hcz25_9
                            try clear hcz27_0
                            try clear hcz27_1
                            try clear hcz27_10
                            try clear hcz27_11
                            try clear hcz27_12
                            try clear hcz27_13
                            try clear hcz27_2
                            try clear hcz27_3
                            try clear hcz27_4
                            try clear hcz27_5
                            try clear hcz27_6
                            try clear hcz27_7
                            try clear hcz27_8
                            try clear hcz27_9
                            try clear hcz4_0
                            try clear hcz4_1
                            try clear hfz11_0
                            try clear hfz11_1
                            try clear hfz18_0
                            try clear hfz18_1
                            try clear hfz21_0
                            try clear hfz21_1
                            try clear hfz21_10
                            try clear hfz21_11
                            try clear hfz21_12
                            try clear hfz21_13
                            try clear hfz21_2
                            try clear hfz21_3
                            try clear hfz21_4
                            try clear hfz21_5
                            try clear hfz21_6
                            try clear hfz21_7
                            try clear hfz21_8
                            try clear hfz21_9
                            try clear hfz25_0
                            try clear hfz25_1
                            try clear hfz25_10
                            try clear hfz25_11
                            try clear hfz25_12
                            try clear hfz25_13
                            try clear hfz25_2
                            try clear hfz25_3
                            try clear hfz25_4
                            try clear hfz25_5
                            try clear hfz25_6
                            try clear hfz25_7
                            try clear hfz25_8
                            try clear hfz25_9
                            try clear hfz27_0
                            try clear hfz27_1
                            try clear hfz27_10
                            try clear hfz27_11
                            try clear hfz27_12
                            try clear hfz27_13
                            try clear hfz27_2
                            try clear hfz27_3
                            try clear hfz27_4
                            try clear hfz27_5
                            try clear hfz27_6
                            try clear hfz27_7
                            try clear hfz27_8
                            try clear hfz27_9
                            try clear hfz4_0
                            try clear hfz4_1
                            try clear hx154_0
                            try clear hx154_1
                            try clear hx154_10
                            try clear hx154_11
                            try clear hx154_12
                            try clear hx154_13
                            try clear hx154_2
                            try clear hx154_3
                            try clear hx154_4
                            try clear hx154_5
                            try clear hx154_6
                            try clear hx154_7
                            try clear hx154_8
                            try clear hx154_9
                            try clear hx156_0
                            try clear hx156_1
                            try clear hx156_10
                            try clear hx156_11
                            try clear hx156_12
                            try clear hx156_13
                            try clear hx156_2
                            try clear hx156_3
                            try clear hx156_4
                            try clear hx156_5
                            try clear hx156_6
                            try clear hx156_7
                            try clear hx156_8
                            try clear hx156_9
                            try clear p1
                            try clear p154
                            try clear p156
                            try clear p2
                            try clear p6
                            try clear q1
                            try clear q154
                            try clear q156
                            obtain ⟨kq, x43_16, rfl, HA, HJ16, BK153, BK157, HB⟩ := hcut
                            cases kq with
                            | zero => exact absurd HA.out (by simp [haspref22_Check.j2])
                            | succ kj16 =>
                              have H := HA.out
                              clear HA
                              simp only [haspref22_Check.j2] at H
                              by_cases c28 : x43_16 = true
                              · subst c28
                                have H1 : (if 0 ≤ (wrap64 (x4_2 - 1)) then (if (wrap64 (x4_2 - 1)) < (l0_1.length : Int) then (if ((rd_T33 l0_1 (wrap64 (x4_2 - 1))).f0) = 1 then ((haspref22_read.f kj16 a0_0 l0_1 ((rd_T33 l0_1 x4_2).f0) ((rd_T33 l0_1 x4_2).f1) ((rd_T33 l0_1 x4_2).f2) ((rd_T33 l0_1 x4_2).f3) ((rd_T33 l0_1 x4_2).f4) ((rd_T33 l0_1 x4_2).f5) ((rd_T33 l0_1 x4_2).f6) ((rd_T33 l0_1 x4_2).f7) ((rd_T33 l0_1 x4_2).f8) ((rd_T33 l0_1 x4_2).f9) ((rd_T33 l0_1 x4_2).f10) ((rd_T33 l0_1 x4_2).f11) ((rd_T33 l0_1 x4_2).f12) ((rd_T33 l0_1 x4_2).f13)).bind fun t160 => (if t160 = true then (haspref22_Check.l0 kj16 (l0_1.length : Int) (wrap64 (x4_2 + 1)) a0_0 l0_1) else (some 240))) else (some 240)) else (none)) else (none)) = some r := by rw [if_pos rfl] at H; exact H
                                clear H
                                have H := H1
                                clear H1
                                obtain ⟨ji29, hji29⟩ : ∃ j_ : Int, (wrap64 (x4_2 - 1)) = j_ := ⟨_, rfl⟩
                                replace H : (if 0 ≤ (ji29) then (if (ji29) < (l0_1.length : Int) then (if ((rd_T33 l0_1 (ji29)).f0) = 1 then ((haspref22_read.f kj16 a0_0 l0_1 ((rd_T33 l0_1 x4_2).f0) ((rd_T33 l0_1 x4_2).f1) ((rd_T33 l0_1 x4_2).f2) ((rd_T33 l0_1 x4_2).f3) ((rd_T33 l0_1 x4_2).f4) ((rd_T33 l0_1 x4_2).f5) ((rd_T33 l0_1 x4_2).f6) ((rd_T33 l0_1 x4_2).f7) ((rd_T33 l0_1 x4_2).f8) ((rd_T33 l0_1 x4_2).f9) ((rd_T33 l0_1 x4_2).f10) ((rd_T33 l0_1 x4_2).f11) ((rd_T33 l0_1 x4_2).f12) ((rd_T33 l0_1 x4_2).f13)).bind fun t160 => (if t160 = true then (haspref22_Check.l0 kj16 (l0_1.length : Int) (wrap64 (x4_2 + 1)) a0_0 l0_1) else (some 240))) else (some 240)) else (none)) else (none)) = some r := by first | (rw [hji29] at H; exact H) | (simp only [hji29] at H ⊢; exact H)
                                have hji29w : (IntKind.i64.wrap (x4_2 - 1)) = ji29 := (i64_w _).trans hji29
                                by_cases c30 : 0 ≤ (ji29)
                                · rw [if_pos c30] at H
                                  have c30b0 : decide (0 ≤ (ji29)) = true := decide_eq_true c30
                                  clear c30
                                  by_cases c31 : (ji29) < (l0_1.length : Int)
                                  · rw [if_pos c31] at H
                                    have c31b0 : decide ((ji29) < (l0_1.length : Int)) = true := decide_eq_true c31
                                    clear c31
                                    by_cases c32 : ((rd_T33 l0_1 (ji29)).f0) = 1
                                    · rw [if_pos c32] at H
                                      have c32b0 : (((rd_T33 l0_1 (ji29)).f0) == 1) = true := beq_iff_eq.mpr c32
                                      have c32b1 : (((rd_T33 l0_1 (ji29)).f0) != 1) = false := bne_eq_false_iff_eq.mpr c32
                                      clear c32
                                      replace H := Option.bind_eq_some_iff.mp H
                                      obtain ⟨t160, A330, H⟩ := H
                                      replace H : (if t160 = true then (haspref22_Check.l0 kj16 (l0_1.length : Int) (wrap64 (x4_2 + 1)) a0_0 l0_1) else (some 240)) = some r := H
                                      have A33 := Aside0.mk A330
                                      clear A330
                                      by_cases c34 : t160 = true
                                      · subst c34
                                        have H1 : (haspref22_Check.l0 kj16 (l0_1.length : Int) (wrap64 (x4_2 + 1)) a0_0 l0_1) = some r := by rw [if_pos rfl] at H; exact H
                                        clear H
                                        have H := H1
                                        clear H1
                                        have H' := Aside0.mk H
                                        clear H
                                        have hnb35 := NB153_157.out
                                        have hnc35 := NB157_153.out
                                        have hcz36_0 : wc.cell? ⟨gb153, 0, none⟩ = some (.string a0_0) := (blk_cell BK153.out 0).trans rfl
                                        have hcz36_1 : wc.cell? ⟨gb153, 1, none⟩ = some (.slice (some ad154) l0_1.length c0_1) := (blk_cell BK153.out 1).trans rfl
                                        have hfz36_0 := blk_frozen BK153.out 0
                                        have hfz36_1 := blk_frozen BK153.out 1
                                        have p159 : 0 ≤ ((ji29) : Int) := of_decide_eq_true (by first | (with_reducible assumption) | assumption)
                                        have q159 : (ji29) < (l0_1.length : Int) := of_decide_eq_true (by first | (with_reducible assumption) | assumption)
                                        obtain ⟨ad159, A159_7, c159_7, A159_8, c159_8, A159_11, c159_11, A159_13, c159_13, e159, hx159_0, hx159_1, hx159_2, hx159_3, hx159_4, hx159_5, hx159_6, hx159_7, hx159_8, hx159_9, hx159_10, hx159_11, hx159_12, hx159_13, hl159_7, hi159_7, hl159_8, hi159_8, hl159_11, hi159_11, hl159_13, hi159_13⟩ := at_T33 HR0_1.out (ji29) p159 q159
                                        obtain rfl : ad154 = ad159 := (by injection e159)
                                        replace hx159_0 := (HB.out.cell (World.block_lt_of_cell? w _ hx159_0)).trans hx159_0
                                        replace hx159_1 := (HB.out.cell (World.block_lt_of_cell? w _ hx159_1)).trans hx159_1
                                        replace hx159_2 := (HB.out.cell (World.block_lt_of_cell? w _ hx159_2)).trans hx159_2
                                        replace hx159_3 := (HB.out.cell (World.block_lt_of_cell? w _ hx159_3)).trans hx159_3
                                        replace hx159_4 := (HB.out.cell (World.block_lt_of_cell? w _ hx159_4)).trans hx159_4
                                        replace hx159_5 := (HB.out.cell (World.block_lt_of_cell? w _ hx159_5)).trans hx159_5
                                        replace hx159_6 := (HB.out.cell (World.block_lt_of_cell? w _ hx159_6)).trans hx159_6
                                        replace hx159_7 := (HB.out.cell (World.block_lt_of_cell? w _ hx159_7)).trans hx159_7
                                        replace hx159_8 := (HB.out.cell (World.block_lt_of_cell? w _ hx159_8)).trans hx159_8
                                        replace hx159_9 := (HB.out.cell (World.block_lt_of_cell? w _ hx159_9)).trans hx159_9
                                        replace hx159_10 := (HB.out.cell (World.block_lt_of_cell? w _ hx159_10)).trans hx159_10
                                        replace hx159_11 := (HB.out.cell (World.block_lt_of_cell? w _ hx159_11)).trans hx159_11
                                        replace hx159_12 := (HB.out.cell (World.block_lt_of_cell? w _ hx159_12)).trans hx159_12
                                        replace hx159_13 := (HB.out.cell (World.block_lt_of_cell? w _ hx159_13)).trans hx159_13
                                        have HR159_7 := Aside0.mk hi159_7
                                        have HC159_7 := Aside0.mk hl159_7
                                        clear hi159_7 hl159_7
                                        have HR159_8 := Aside0.mk hi159_8
                                        have HC159_8 := Aside0.mk hl159_8
                                        clear hi159_8 hl159_8
                                        have HR159_11 := Aside0.mk hi159_11
                                        have HC159_11 := Aside0.mk hl159_11
                                        clear hi159_11 hl159_11
                                        have HR159_13 := Aside0.mk hi159_13
                                        have HC159_13 := Aside0.mk hl159_13
                                        clear hi159_13 hl159_13
                                        replace p159 := eq_true p159
                                        replace q159 := eq_true q159
                                        have hcz37_0 : wc.cell? ⟨gb157, 0, none⟩ = some (.int .i64 ((rd_T33 l0_1 x4_2).f0)) := (blk_cell BK157.out 0).trans rfl
                                        have hcz37_1 : wc.cell? ⟨gb157, 1, none⟩ = some (.int .i64 ((rd_T33 l0_1 x4_2).f1)) := (blk_cell BK157.out 1).trans rfl
                                        have hcz37_2 : wc.cell? ⟨gb157, 2, none⟩ = some (.int .i64 ((rd_T33 l0_1 x4_2).f2)) := (blk_cell BK157.out 2).trans rfl
                                        have hcz37_3 : wc.cell? ⟨gb157, 3, none⟩ = some (.int .i64 ((rd_T33 l0_1 x4_2).f3)) := (blk_cell BK157.out 3).trans rfl
                                        have hcz37_4 : wc.cell? ⟨gb157, 4, none⟩ = some (.int .i64 ((rd_T33 l0_1 x4_2).f4)) := (blk_cell BK157.out 4).trans rfl
                                        have hcz37_5 : wc.cell? ⟨gb157, 5, none⟩ = some (.string ((rd_T33 l0_1 x4_2).f5)) := (blk_cell BK157.out 5).trans rfl
                                        have hcz37_6 : wc.cell? ⟨gb157, 6, none⟩ = some (.int .i64 ((rd_T33 l0_1 x4_2).f6)) := (blk_cell BK157.out 6).trans rfl
                                        have hcz37_7 : wc.cell? ⟨gb157, 7, none⟩ = some (.slice A156_7 ((rd_T33 l0_1 x4_2).f7).length c156_7) := (blk_cell BK157.out 7).trans rfl
                                        have hcz37_8 : wc.cell? ⟨gb157, 8, none⟩ = some (.slice A156_8 ((rd_T33 l0_1 x4_2).f8).length c156_8) := (blk_cell BK157.out 8).trans rfl
                                        have hcz37_9 : wc.cell? ⟨gb157, 9, none⟩ = some (.bool ((rd_T33 l0_1 x4_2).f9)) := (blk_cell BK157.out 9).trans rfl
                                        have hcz37_10 : wc.cell? ⟨gb157, 10, none⟩ = some (.bool ((rd_T33 l0_1 x4_2).f10)) := (blk_cell BK157.out 10).trans rfl
                                        have hcz37_11 : wc.cell? ⟨gb157, 11, none⟩ = some (.slice A156_11 ((rd_T33 l0_1 x4_2).f11).length c156_11) := (blk_cell BK157.out 11).trans rfl
                                        have hcz37_12 : wc.cell? ⟨gb157, 12, none⟩ = some (.int .i64 ((rd_T33 l0_1 x4_2).f12)) := (blk_cell BK157.out 12).trans rfl
                                        have hcz37_13 : wc.cell? ⟨gb157, 13, none⟩ = some (.slice A156_13 ((rd_T33 l0_1 x4_2).f13).length c156_13) := (blk_cell BK157.out 13).trans rfl
                                        have hfz37_0 := blk_frozen BK157.out 0
                                        have hfz37_1 := blk_frozen BK157.out 1
                                        have hfz37_2 := blk_frozen BK157.out 2
                                        have hfz37_3 := blk_frozen BK157.out 3
                                        have hfz37_4 := blk_frozen BK157.out 4
                                        have hfz37_5 := blk_frozen BK157.out 5
                                        have hfz37_6 := blk_frozen BK157.out 6
                                        have hfz37_7 := blk_frozen BK157.out 7
                                        have hfz37_8 := blk_frozen BK157.out 8
                                        have hfz37_9 := blk_frozen BK157.out 9
                                        have hfz37_10 := blk_frozen BK157.out 10
                                        have hfz37_11 := blk_frozen BK157.out 11
                                        have hfz37_12 := blk_frozen BK157.out 12
                                        have hfz37_13 := blk_frozen BK157.out 13
                                        go_wp2_with (first | ((with_reducible refine gate_callee (f := 16) rfl ?_); refine goesL_ (some 54) rfl rfl Try.func16 (by kernel_rfl) rfl #[.agg #[.string a0_0, .slice (some ad154) l0_1.length c0_1], .agg #[.int .i64 ((rd_T33 l0_1 x4_2).f0), .int .i64 ((rd_T33 l0_1 x4_2).f1), .int .i64 ((rd_T33 l0_1 x4_2).f2), .int .i64 ((rd_T33 l0_1 x4_2).f3), .int .i64 ((rd_T33 l0_1 x4_2).f4), .string ((rd_T33 l0_1 x4_2).f5), .int .i64 ((rd_T33 l0_1 x4_2).f6), .slice A156_7 ((rd_T33 l0_1 x4_2).f7).length c156_7, .slice A156_8 ((rd_T33 l0_1 x4_2).f8).length c156_8, .bool ((rd_T33 l0_1 x4_2).f9), .bool ((rd_T33 l0_1 x4_2).f10), .slice A156_11 ((rd_T33 l0_1 x4_2).f11).length c156_11, .int .i64 ((rd_T33 l0_1 x4_2).f12), .slice A156_13 ((rd_T33 l0_1 x4_2).f13).length c156_13]] rfl (by (try simp only [List.map_toArray, List.map_cons, List.map_nil]); first | done | rfl | (simp only [List.length_drop, List.length_take]; rfl)) ?_; (with_reducible refine (haspref22_read.calls kj16 a0_0 _ _ l0_1 ((rd_T33 l0_1 x4_2).f0) ((rd_T33 l0_1 x4_2).f1) ((rd_T33 l0_1 x4_2).f2) ((rd_T33 l0_1 x4_2).f3) ((rd_T33 l0_1 x4_2).f4) ((rd_T33 l0_1 x4_2).f5) ((rd_T33 l0_1 x4_2).f6) _ _ ((rd_T33 l0_1 x4_2).f7) _ _ ((rd_T33 l0_1 x4_2).f8) ((rd_T33 l0_1 x4_2).f9) ((rd_T33 l0_1 x4_2).f10) _ _ ((rd_T33 l0_1 x4_2).f11) ((rd_T33 l0_1 x4_2).f12) _ _ ((rd_T33 l0_1 x4_2).f13) true _ ?side1 ?side2 ?side3 ?side4 ?side5 ?side6 ?side7 ?side8 ?side9 ?side10 A33.out).mono ?_); (case side1 => repeat (first | exact (Kd.C_below HR0_1.out HB.out) | (with_reducible refine Kd.C_alloc ?_ _) | (with_reducible refine Kd.C_drewN ?_ _) | (with_reducible refine Kd.C_drew ?_))); (case side2 => exact HC0_1.out); (case side3 => repeat (first | exact (Kd.C_below HR156_7.out HB.out) | (with_reducible refine Kd.C_alloc ?_ _) | (with_reducible refine Kd.C_drewN ?_ _) | (with_reducible refine Kd.C_drew ?_))); (case side4 => exact HC156_7.out); (case side5 => repeat (first | exact (Kd.C_below HR156_8.out HB.out) | (with_reducible refine Kd.C_alloc ?_ _) | (with_reducible refine Kd.C_drewN ?_ _) | (with_reducible refine Kd.C_drew ?_))); (case side6 => exact HC156_8.out); (case side7 => repeat (first | exact (Kd.C_below HR156_11.out HB.out) | (with_reducible refine Kd.C_alloc ?_ _) | (with_reducible refine Kd.C_drewN ?_ _) | (with_reducible refine Kd.C_drew ?_))); (case side8 => exact HC156_11.out); (case side9 => repeat (first | exact (Kd.C_below HR156_13.out HB.out) | (with_reducible refine Kd.C_alloc ?_ _) | (with_reducible refine Kd.C_drewN ?_ _) | (with_reducible refine Kd.C_drew ?_))); (case side10 => exact HC156_13.out); rintro e w38 ⟨rfl, hb⟩; refine ⟨_, rfl, ?_⟩; have n0_ := Aside0.mk (blk_below (g := gb153) (o := .cells #[.string a0_0, .slice (some ad154) l0_1.length c0_1] 25 (0, 0)) (by (with_reducible repeat (first | refine blk_drewN ?_ _ | refine blk_drew ?_ | refine blk_alloc ?_ _)); exact BK153.out) hb); have n1_ := Aside0.mk (blk_below (g := gb157) (o := .cells #[.int .i64 ((rd_T33 l0_1 x4_2).f0), .int .i64 ((rd_T33 l0_1 x4_2).f1), .int .i64 ((rd_T33 l0_1 x4_2).f2), .int .i64 ((rd_T33 l0_1 x4_2).f3), .int .i64 ((rd_T33 l0_1 x4_2).f4), .string ((rd_T33 l0_1 x4_2).f5), .int .i64 ((rd_T33 l0_1 x4_2).f6), .slice A156_7 ((rd_T33 l0_1 x4_2).f7).length c156_7, .slice A156_8 ((rd_T33 l0_1 x4_2).f8).length c156_8, .bool ((rd_T33 l0_1 x4_2).f9), .bool ((rd_T33 l0_1 x4_2).f10), .slice A156_11 ((rd_T33 l0_1 x4_2).f11).length c156_11, .int .i64 ((rd_T33 l0_1 x4_2).f12), .slice A156_13 ((rd_T33 l0_1 x4_2).f13).length c156_13] 33 (0, 0)) (by (with_reducible repeat (first | refine blk_drewN ?_ _ | refine blk_drew ?_ | refine blk_alloc ?_ _)); exact BK157.out) hb); have n2_ := Aside0.mk (below_step (by repeat (first | (with_reducible first | exact HB.out | apply below_alloc | apply pw_below_drewN | apply below_drew1 | refine below_set ?_ GE153.out | refine below_set ?_ GE157.out) | exact HB.out)) hb); clear BK153; clear BK157; clear HB; have BK153 := n0_; have BK157 := n1_; have HB := n2_; clear n0_ n1_ n2_; (try clear hb); (try clear hb2); (try clear hk); (try clear hi)))
                                        go_roundg kj16
                                        case measure => have := HJ1.out; have := HK2.out; have := HJ16.out; omega
                                        case rel => exact ⟨(wrap64 (x4_2 + 1)), (by first | rfl | (simp; done) | (simp [*]; done) | (simp; exact isEmpty_bne _) | (simp [*]; exact isEmpty_bne _)), H', ⟨by have := HJ1.out; have := HK2.out; have := HJ16.out; omega⟩, ⟨by (with_reducible repeat (first | refine blk_drewN ?_ _ | refine blk_drew ?_ | refine blk_alloc ?_ _)); exact BK153.out⟩, ⟨by repeat (first | (with_reducible first | exact HB.out | apply below_alloc | apply pw_below_drewN | apply below_drew1 | refine below_set ?_ GE153.out | refine below_set ?_ GE157.out) | exact HB.out)⟩⟩
                                      · replace c34 := Bool.eq_false_iff.mpr c34
                                        subst c34
                                        have H1 : (some 240) = some r := by rw [if_neg (show ¬ (false = true) by decide)] at H; exact H
                                        clear H
                                        have H := H1
                                        clear H1
                                        obtain rfl := Option.some.inj H
                                        have hnb39 := NB153_157.out
                                        have hnc39 := NB157_153.out
                                        have hcz40_0 : wc.cell? ⟨gb153, 0, none⟩ = some (.string a0_0) := (blk_cell BK153.out 0).trans rfl
                                        have hcz40_1 : wc.cell? ⟨gb153, 1, none⟩ = some (.slice (some ad154) l0_1.length c0_1) := (blk_cell BK153.out 1).trans rfl
                                        have hfz40_0 := blk_frozen BK153.out 0
                                        have hfz40_1 := blk_frozen BK153.out 1
                                        have p159 : 0 ≤ ((ji29) : Int) := of_decide_eq_true (by first | (with_reducible assumption) | assumption)
                                        have q159 : (ji29) < (l0_1.length : Int) := of_decide_eq_true (by first | (with_reducible assumption) | assumption)
                                        obtain ⟨ad159, A159_7, c159_7, A159_8, c159_8, A159_11, c159_11, A159_13, c159_13, e159, hx159_0, hx159_1, hx159_2, hx159_3, hx159_4, hx159_5, hx159_6, hx159_7, hx159_8, hx159_9, hx159_10, hx159_11, hx159_12, hx159_13, hl159_7, hi159_7, hl159_8, hi159_8, hl159_11, hi159_11, hl159_13, hi159_13⟩ := at_T33 HR0_1.out (ji29) p159 q159
                                        obtain rfl : ad154 = ad159 := (by injection e159)
                                        replace hx159_0 := (HB.out.cell (World.block_lt_of_cell? w _ hx159_0)).trans hx159_0
                                        replace hx159_1 := (HB.out.cell (World.block_lt_of_cell? w _ hx159_1)).trans hx159_1
                                        replace hx159_2 := (HB.out.cell (World.block_lt_of_cell? w _ hx159_2)).trans hx159_2
                                        replace hx159_3 := (HB.out.cell (World.block_lt_of_cell? w _ hx159_3)).trans hx159_3
                                        replace hx159_4 := (HB.out.cell (World.block_lt_of_cell? w _ hx159_4)).trans hx159_4
                                        replace hx159_5 := (HB.out.cell (World.block_lt_of_cell? w _ hx159_5)).trans hx159_5
                                        replace hx159_6 := (HB.out.cell (World.block_lt_of_cell? w _ hx159_6)).trans hx159_6
                                        replace hx159_7 := (HB.out.cell (World.block_lt_of_cell? w _ hx159_7)).trans hx159_7
                                        replace hx159_8 := (HB.out.cell (World.block_lt_of_cell? w _ hx159_8)).trans hx159_8
                                        replace hx159_9 := (HB.out.cell (World.block_lt_of_cell? w _ hx159_9)).trans hx159_9
                                        replace hx159_10 := (HB.out.cell (World.block_lt_of_cell? w _ hx159_10)).trans hx159_10
                                        replace hx159_11 := (HB.out.cell (World.block_lt_of_cell? w _ hx159_11)).trans hx159_11
                                        replace hx159_12 := (HB.out.cell (World.block_lt_of_cell? w _ hx159_12)).trans hx159_12
                                        replace hx159_13 := (HB.out.cell (World.block_lt_of_cell? w _ hx159_13)).trans hx159_13
                                        have HR159_7 := Aside0.mk hi159_7
                                        have HC159_7 := Aside0.mk hl159_7
                                        clear hi159_7 hl159_7
                                        have HR159_8 := Aside0.mk hi159_8
                                        have HC159_8 := Aside0.mk hl159_8
                                        clear hi159_8 hl159_8
                                        have HR159_11 := Aside0.mk hi159_11
                                        have HC159_11 := Aside0.mk hl159_11
                                        clear hi159_11 hl159_11
                                        have HR159_13 := Aside0.mk hi159_13
                                        have HC159_13 := Aside0.mk hl159_13
                                        clear hi159_13 hl159_13
                                        replace p159 := eq_true p159
                                        replace q159 := eq_true q159
                                        have hcz41_0 : wc.cell? ⟨gb157, 0, none⟩ = some (.int .i64 ((rd_T33 l0_1 x4_2).f0)) := (blk_cell BK157.out 0).trans rfl
                                        have hcz41_1 : wc.cell? ⟨gb157, 1, none⟩ = some (.int .i64 ((rd_T33 l0_1 x4_2).f1)) := (blk_cell BK157.out 1).trans rfl
                                        have hcz41_2 : wc.cell? ⟨gb157, 2, none⟩ = some (.int .i64 ((rd_T33 l0_1 x4_2).f2)) := (blk_cell BK157.out 2).trans rfl
                                        have hcz41_3 : wc.cell? ⟨gb157, 3, none⟩ = some (.int .i64 ((rd_T33 l0_1 x4_2).f3)) := (blk_cell BK157.out 3).trans rfl
                                        have hcz41_4 : wc.cell? ⟨gb157, 4, none⟩ = some (.int .i64 ((rd_T33 l0_1 x4_2).f4)) := (blk_cell BK157.out 4).trans rfl
                                        have hcz41_5 : wc.cell? ⟨gb157, 5, none⟩ = some (.string ((rd_T33 l0_1 x4_2).f5)) := (blk_cell BK157.out 5).trans rfl
                                        have hcz41_6 : wc.cell? ⟨gb157, 6, none⟩ = some (.int .i64 ((rd_T33 l0_1 x4_2).f6)) := (blk_cell BK157.out 6).trans rfl
                                        have hcz41_7 : wc.cell? ⟨gb157, 7, none⟩ = some (.slice A156_7 ((rd_T33 l0_1 x4_2).f7).length c156_7) := (blk_cell BK157.out 7).trans rfl
                                        have hcz41_8 : wc.cell? ⟨gb157, 8, none⟩ = some (.slice A156_8 ((rd_T33 l0_1 x4_2).f8).length c156_8) := (blk_cell BK157.out 8).trans rfl
                                        have hcz41_9 : wc.cell? ⟨gb157, 9, none⟩ = some (.bool ((rd_T33 l0_1 x4_2).f9)) := (blk_cell BK157.out 9).trans rfl
                                        have hcz41_10 : wc.cell? ⟨gb157, 10, none⟩ = some (.bool ((rd_T33 l0_1 x4_2).f10)) := (blk_cell BK157.out 10).trans rfl
                                        have hcz41_11 : wc.cell? ⟨gb157, 11, none⟩ = some (.slice A156_11 ((rd_T33 l0_1 x4_2).f11).length c156_11) := (blk_cell BK157.out 11).trans rfl
                                        have hcz41_12 : wc.cell? ⟨gb157, 12, none⟩ = some (.int .i64 ((rd_T33 l0_1 x4_2).f12)) := (blk_cell BK157.out 12).trans rfl
                                        have hcz41_13 : wc.cell? ⟨gb157, 13, none⟩ = some (.slice A156_13 ((rd_T33 l0_1 x4_2).f13).length c156_13) := (blk_cell BK157.out 13).trans rfl
                                        have hfz41_0 := blk_frozen BK157.out 0
                                        have hfz41_1 := blk_frozen BK157.out 1
                                        have hfz41_2 := blk_frozen BK157.out 2
                                        have hfz41_3 := blk_frozen BK157.out 3
                                        have hfz41_4 := blk_frozen BK157.out 4
                                        have hfz41_5 := blk_frozen BK157.out 5
                                        have hfz41_6 := blk_frozen BK157.out 6
                                        have hfz41_7 := blk_frozen BK157.out 7
                                        have hfz41_8 := blk_frozen BK157.out 8
                                        have hfz41_9 := blk_frozen BK157.out 9
                                        have hfz41_10 := blk_frozen BK157.out 10
                                        have hfz41_11 := blk_frozen BK157.out 11
                                        have hfz41_12 := blk_frozen BK157.out 12
                                        have hfz41_13 := blk_frozen BK157.out 13
                                        go_wp2_with (first | ((with_reducible refine gate_callee (f := 16) rfl ?_); refine goesL_ (some 54) rfl rfl Try.func16 (by kernel_rfl) rfl #[.agg #[.string a0_0, .slice (some ad154) l0_1.length c0_1], .agg #[.int .i64 ((rd_T33 l0_1 x4_2).f0), .int .i64 ((rd_T33 l0_1 x4_2).f1), .int .i64 ((rd_T33 l0_1 x4_2).f2), .int .i64 ((rd_T33 l0_1 x4_2).f3), .int .i64 ((rd_T33 l0_1 x4_2).f4), .string ((rd_T33 l0_1 x4_2).f5), .int .i64 ((rd_T33 l0_1 x4_2).f6), .slice A156_7 ((rd_T33 l0_1 x4_2).f7).length c156_7, .slice A156_8 ((rd_T33 l0_1 x4_2).f8).length c156_8, .bool ((rd_T33 l0_1 x4_2).f9), .bool ((rd_T33 l0_1 x4_2).f10), .slice A156_11 ((rd_T33 l0_1 x4_2).f11).length c156_11, .int .i64 ((rd_T33 l0_1 x4_2).f12), .slice A156_13 ((rd_T33 l0_1 x4_2).f13).length c156_13]] rfl (by (try simp only [List.map_toArray, List.map_cons, List.map_nil]); first | done | rfl | (simp only [List.length_drop, List.length_take]; rfl)) ?_; (with_reducible refine (haspref22_read.calls kj16 a0_0 _ _ l0_1 ((rd_T33 l0_1 x4_2).f0) ((rd_T33 l0_1 x4_2).f1) ((rd_T33 l0_1 x4_2).f2) ((rd_T33 l0_1 x4_2).f3) ((rd_T33 l0_1 x4_2).f4) ((rd_T33 l0_1 x4_2).f5) ((rd_T33 l0_1 x4_2).f6) _ _ ((rd_T33 l0_1 x4_2).f7) _ _ ((rd_T33 l0_1 x4_2).f8) ((rd_T33 l0_1 x4_2).f9) ((rd_T33 l0_1 x4_2).f10) _ _ ((rd_T33 l0_1 x4_2).f11) ((rd_T33 l0_1 x4_2).f12) _ _ ((rd_T33 l0_1 x4_2).f13) false _ ?side1 ?side2 ?side3 ?side4 ?side5 ?side6 ?side7 ?side8 ?side9 ?side10 A33.out).mono ?_); (case side1 => repeat (first | exact (Kd.C_below HR0_1.out HB.out) | (with_reducible refine Kd.C_alloc ?_ _) | (with_reducible refine Kd.C_drewN ?_ _) | (with_reducible refine Kd.C_drew ?_))); (case side2 => exact HC0_1.out); (case side3 => repeat (first | exact (Kd.C_below HR156_7.out HB.out) | (with_reducible refine Kd.C_alloc ?_ _) | (with_reducible refine Kd.C_drewN ?_ _) | (with_reducible refine Kd.C_drew ?_))); (case side4 => exact HC156_7.out); (case side5 => repeat (first | exact (Kd.C_below HR156_8.out HB.out) | (with_reducible refine Kd.C_alloc ?_ _) | (with_reducible refine Kd.C_drewN ?_ _) | (with_reducible refine Kd.C_drew ?_))); (case side6 => exact HC156_8.out); (case side7 => repeat (first | exact (Kd.C_below HR156_11.out HB.out) | (with_reducible refine Kd.C_alloc ?_ _) | (with_reducible refine Kd.C_drewN ?_ _) | (with_reducible refine Kd.C_drew ?_))); (case side8 => exact HC156_11.out); (case side9 => repeat (first | exact (Kd.C_below HR156_13.out HB.out) | (with_reducible refine Kd.C_alloc ?_ _) | (with_reducible refine Kd.C_drewN ?_ _) | (with_reducible refine Kd.C_drew ?_))); (case side10 => exact HC156_13.out); rintro e w42 ⟨rfl, hb⟩; refine ⟨_, rfl, ?_⟩; have n0_ := Aside0.mk (blk_below (g := gb153) (o := .cells #[.string a0_0, .slice (some ad154) l0_1.length c0_1] 25 (0, 0)) (by (with_reducible repeat (first | refine blk_drewN ?_ _ | refine blk_drew ?_ | refine blk_alloc ?_ _)); exact BK153.out) hb); have n1_ := Aside0.mk (blk_below (g := gb157) (o := .cells #[.int .i64 ((rd_T33 l0_1 x4_2).f0), .int .i64 ((rd_T33 l0_1 x4_2).f1), .int .i64 ((rd_T33 l0_1 x4_2).f2), .int .i64 ((rd_T33 l0_1 x4_2).f3), .int .i64 ((rd_T33 l0_1 x4_2).f4), .string ((rd_T33 l0_1 x4_2).f5), .int .i64 ((rd_T33 l0_1 x4_2).f6), .slice A156_7 ((rd_T33 l0_1 x4_2).f7).length c156_7, .slice A156_8 ((rd_T33 l0_1 x4_2).f8).length c156_8, .bool ((rd_T33 l0_1 x4_2).f9), .bool ((rd_T33 l0_1 x4_2).f10), .slice A156_11 ((rd_T33 l0_1 x4_2).f11).length c156_11, .int .i64 ((rd_T33 l0_1 x4_2).f12), .slice A156_13 ((rd_T33 l0_1 x4_2).f13).length c156_13] 33 (0, 0)) (by (with_reducible repeat (first | refine blk_drewN ?_ _ | refine blk_drew ?_ | refine blk_alloc ?_ _)); exact BK157.out) hb); have n2_ := Aside0.mk (below_step (by repeat (first | (with_reducible first | exact HB.out | apply below_alloc | apply pw_below_drewN | apply below_drew1 | refine below_set ?_ GE153.out | refine below_set ?_ GE157.out) | exact HB.out)) hb); clear BK153; clear BK157; clear HB; have BK153 := n0_; have BK157 := n1_; have HB := n2_; clear n0_ n1_ n2_; (try clear hb); (try clear hb2); (try clear hk); (try clear hi)))
                                        go_ret
                                        exact ⟨by first | rfl | (simp [errW_none, errW_some] <;> rfl) | (simp only [← hji7, ← hji29]; first | rfl | (simp [errW_none, errW_some] <;> rfl)) | (simp [*, errW_none, errW_some] <;> rfl), by repeat (first | (with_reducible first | exact HB.out | apply below_alloc | apply pw_below_drewN | apply below_drew1 | refine below_set ?_ GE153.out | refine below_set ?_ GE157.out) | exact HB.out)⟩
                                    · rw [if_neg c32] at H
                                      have c32b0 : (((rd_T33 l0_1 (ji29)).f0) == 1) = false := beq_eq_false_iff_ne.mpr c32
                                      have c32b1 : (((rd_T33 l0_1 (ji29)).f0) != 1) = true := bne_iff_ne.mpr c32
                                      obtain rfl := Option.some.inj H
                                      have hnb43 := NB153_157.out
                                      have hnc43 := NB157_153.out
                                      have hcz44_0 : wc.cell? ⟨gb153, 0, none⟩ = some (.string a0_0) := (blk_cell BK153.out 0).trans rfl
                                      have hcz44_1 : wc.cell? ⟨gb153, 1, none⟩ = some (.slice (some ad154) l0_1.length c0_1) := (blk_cell BK153.out 1).trans rfl
                                      have hfz44_0 := blk_frozen BK153.out 0
                                      have hfz44_1 := blk_frozen BK153.out 1
                                      have p159 : 0 ≤ ((ji29) : Int) := of_decide_eq_true (by first | (with_reducible assumption) | assumption)
                                      have q159 : (ji29) < (l0_1.length : Int) := of_decide_eq_true (by first | (with_reducible assumption) | assumption)
                                      obtain ⟨ad159, A159_7, c159_7, A159_8, c159_8, A159_11, c159_11, A159_13, c159_13, e159, hx159_0, hx159_1, hx159_2, hx159_3, hx159_4, hx159_5, hx159_6, hx159_7, hx159_8, hx159_9, hx159_10, hx159_11, hx159_12, hx159_13, hl159_7, hi159_7, hl159_8, hi159_8, hl159_11, hi159_11, hl159_13, hi159_13⟩ := at_T33 HR0_1.out (ji29) p159 q159
                                      obtain rfl : ad154 = ad159 := (by injection e159)
                                      replace hx159_0 := (HB.out.cell (World.block_lt_of_cell? w _ hx159_0)).trans hx159_0
                                      replace hx159_1 := (HB.out.cell (World.block_lt_of_cell? w _ hx159_1)).trans hx159_1
                                      replace hx159_2 := (HB.out.cell (World.block_lt_of_cell? w _ hx159_2)).trans hx159_2
                                      replace hx159_3 := (HB.out.cell (World.block_lt_of_cell? w _ hx159_3)).trans hx159_3
                                      replace hx159_4 := (HB.out.cell (World.block_lt_of_cell? w _ hx159_4)).trans hx159_4
                                      replace hx159_5 := (HB.out.cell (World.block_lt_of_cell? w _ hx159_5)).trans hx159_5
                                      replace hx159_6 := (HB.out.cell (World.block_lt_of_cell? w _ hx159_6)).trans hx159_6
                                      replace hx159_7 := (HB.out.cell (World.block_lt_of_cell? w _ hx159_7)).trans hx159_7
                                      replace hx159_8 := (HB.out.cell (World.block_lt_of_cell? w _ hx159_8)).trans hx159_8
                                      replace hx159_9 := (HB.out.cell (World.block_lt_of_cell? w _ hx159_9)).trans hx159_9
                                      replace hx159_10 := (HB.out.cell (World.block_lt_of_cell? w _ hx159_10)).trans hx159_10
                                      replace hx159_11 := (HB.out.cell (World.block_lt_of_cell? w _ hx159_11)).trans hx159_11
                                      replace hx159_12 := (HB.out.cell (World.block_lt_of_cell? w _ hx159_12)).trans hx159_12
                                      replace hx159_13 := (HB.out.cell (World.block_lt_of_cell? w _ hx159_13)).trans hx159_13
                                      have HR159_7 := Aside0.mk hi159_7
                                      have HC159_7 := Aside0.mk hl159_7
                                      clear hi159_7 hl159_7
                                      have HR159_8 := Aside0.mk hi159_8
                                      have HC159_8 := Aside0.mk hl159_8
                                      clear hi159_8 hl159_8
                                      have HR159_11 := Aside0.mk hi159_11
                                      have HC159_11 := Aside0.mk hl159_11
                                      clear hi159_11 hl159_11
                                      have HR159_13 := Aside0.mk hi159_13
                                      have HC159_13 := Aside0.mk hl159_13
                                      clear hi159_13 hl159_13
                                      replace p159 := eq_true p159
                                      replace q159 := eq_true q159
                                      go_wp2
                                      go_ret
                                      exact ⟨by first | rfl | (simp [errW_none, errW_some] <;> rfl) | (simp only [← hji7, ← hji29]; first | rfl | (simp [errW_none, errW_some] <;> rfl)) | (simp [*, errW_none, errW_some] <;> rfl), by repeat (first | (with_reducible first | exact HB.out | apply below_alloc | apply pw_below_drewN | apply below_drew1 | refine below_set ?_ GE153.out | refine below_set ?_ GE157.out) | exact HB.out)⟩
                                  · rw [if_neg c31] at H
                                    exact absurd H (by simp)
                                · rw [if_neg c30] at H
                                  exact absurd H (by simp)
                              · replace c28 := Bool.eq_false_iff.mpr c28
                                subst c28
                                have H1 : ((haspref22_read.f kj16 a0_0 l0_1 ((rd_T33 l0_1 x4_2).f0) ((rd_T33 l0_1 x4_2).f1) ((rd_T33 l0_1 x4_2).f2) ((rd_T33 l0_1 x4_2).f3) ((rd_T33 l0_1 x4_2).f4) ((rd_T33 l0_1 x4_2).f5) ((rd_T33 l0_1 x4_2).f6) ((rd_T33 l0_1 x4_2).f7) ((rd_T33 l0_1 x4_2).f8) ((rd_T33 l0_1 x4_2).f9) ((rd_T33 l0_1 x4_2).f10) ((rd_T33 l0_1 x4_2).f11) ((rd_T33 l0_1 x4_2).f12) ((rd_T33 l0_1 x4_2).f13)).bind fun t161 => (if t161 = true then (haspref22_Check.l0 kj16 (l0_1.length : Int) (wrap64 (x4_2 + 1)) a0_0 l0_1) else (some 240))) = some r := by rw [if_neg (show ¬ (false = true) by decide)] at H; exact H
                                clear H
                                have H := H1
                                clear H1
                                replace H := Option.bind_eq_some_iff.mp H
                                obtain ⟨t161, A450, H⟩ := H
                                replace H : (if t161 = true then (haspref22_Check.l0 kj16 (l0_1.length : Int) (wrap64 (x4_2 + 1)) a0_0 l0_1) else (some 240)) = some r := H
                                have A45 := Aside0.mk A450
                                clear A450
                                by_cases c46 : t161 = true
                                · subst c46
                                  have H1 : (haspref22_Check.l0 kj16 (l0_1.length : Int) (wrap64 (x4_2 + 1)) a0_0 l0_1) = some r := by rw [if_pos rfl] at H; exact H
                                  clear H
                                  have H := H1
                                  clear H1
                                  have H' := Aside0.mk H
                                  clear H
                                  have hnb47 := NB153_157.out
                                  have hnc47 := NB157_153.out
                                  have hcz48_0 : wc.cell? ⟨gb153, 0, none⟩ = some (.string a0_0) := (blk_cell BK153.out 0).trans rfl
                                  have hcz48_1 : wc.cell? ⟨gb153, 1, none⟩ = some (.slice (some ad154) l0_1.length c0_1) := (blk_cell BK153.out 1).trans rfl
                                  have hfz48_0 := blk_frozen BK153.out 0
                                  have hfz48_1 := blk_frozen BK153.out 1
                                  have hcz49_0 : wc.cell? ⟨gb157, 0, none⟩ = some (.int .i64 ((rd_T33 l0_1 x4_2).f0)) := (blk_cell BK157.out 0).trans rfl
                                  have hcz49_1 : wc.cell? ⟨gb157, 1, none⟩ = some (.int .i64 ((rd_T33 l0_1 x4_2).f1)) := (blk_cell BK157.out 1).trans rfl
                                  have hcz49_2 : wc.cell? ⟨gb157, 2, none⟩ = some (.int .i64 ((rd_T33 l0_1 x4_2).f2)) := (blk_cell BK157.out 2).trans rfl
                                  have hcz49_3 : wc.cell? ⟨gb157, 3, none⟩ = some (.int .i64 ((rd_T33 l0_1 x4_2).f3)) := (blk_cell BK157.out 3).trans rfl
                                  have hcz49_4 : wc.cell? ⟨gb157, 4, none⟩ = some (.int .i64 ((rd_T33 l0_1 x4_2).f4)) := (blk_cell BK157.out 4).trans rfl
                                  have hcz49_5 : wc.cell? ⟨gb157, 5, none⟩ = some (.string ((rd_T33 l0_1 x4_2).f5)) := (blk_cell BK157.out 5).trans rfl
                                  have hcz49_6 : wc.cell? ⟨gb157, 6, none⟩ = some (.int .i64 ((rd_T33 l0_1 x4_2).f6)) := (blk_cell BK157.out 6).trans rfl
                                  have hcz49_7 : wc.cell? ⟨gb157, 7, none⟩ = some (.slice A156_7 ((rd_T33 l0_1 x4_2).f7).length c156_7) := (blk_cell BK157.out 7).trans rfl
                                  have hcz49_8 : wc.cell? ⟨gb157, 8, none⟩ = some (.slice A156_8 ((rd_T33 l0_1 x4_2).f8).length c156_8) := (blk_cell BK157.out 8).trans rfl
                                  have hcz49_9 : wc.cell? ⟨gb157, 9, none⟩ = some (.bool ((rd_T33 l0_1 x4_2).f9)) := (blk_cell BK157.out 9).trans rfl
                                  have hcz49_10 : wc.cell? ⟨gb157, 10, none⟩ = some (.bool ((rd_T33 l0_1 x4_2).f10)) := (blk_cell BK157.out 10).trans rfl
                                  have hcz49_11 : wc.cell? ⟨gb157, 11, none⟩ = some (.slice A156_11 ((rd_T33 l0_1 x4_2).f11).length c156_11) := (blk_cell BK157.out 11).trans rfl
                                  have hcz49_12 : wc.cell? ⟨gb157, 12, none⟩ = some (.int .i64 ((rd_T33 l0_1 x4_2).f12)) := (blk_cell BK157.out 12).trans rfl
                                  have hcz49_13 : wc.cell? ⟨gb157, 13, none⟩ = some (.slice A156_13 ((rd_T33 l0_1 x4_2).f13).length c156_13) := (blk_cell BK157.out 13).trans rfl
                                  have hfz49_0 := blk_frozen BK157.out 0
                                  have hfz49_1 := blk_frozen BK157.out 1
                                  have hfz49_2 := blk_frozen BK157.out 2
                                  have hfz49_3 := blk_frozen BK157.out 3
                                  have hfz49_4 := blk_frozen BK157.out 4
                                  have hfz49_5 := blk_frozen BK157.out 5
                                  have hfz49_6 := blk_frozen BK157.out 6
                                  have hfz49_7 := blk_frozen BK157.out 7
                                  have hfz49_8 := blk_frozen BK157.out 8
                                  have hfz49_9 := blk_frozen BK157.out 9
                                  have hfz49_10 := blk_frozen BK157.out 10
                                  have hfz49_11 := blk_frozen BK157.out 11
                                  have hfz49_12 := blk_frozen BK157.out 12
                                  have hfz49_13 := blk_frozen BK157.out 13
                                  go_wp2_with (first | ((with_reducible refine gate_callee (f := 16) rfl ?_); refine goesL_ (some 54) rfl rfl Try.func16 (by kernel_rfl) rfl #[.agg #[.string a0_0, .slice (some ad154) l0_1.length c0_1], .agg #[.int .i64 ((rd_T33 l0_1 x4_2).f0), .int .i64 ((rd_T33 l0_1 x4_2).f1), .int .i64 ((rd_T33 l0_1 x4_2).f2), .int .i64 ((rd_T33 l0_1 x4_2).f3), .int .i64 ((rd_T33 l0_1 x4_2).f4), .string ((rd_T33 l0_1 x4_2).f5), .int .i64 ((rd_T33 l0_1 x4_2).f6), .slice A156_7 ((rd_T33 l0_1 x4_2).f7).length c156_7, .slice A156_8 ((rd_T33 l0_1 x4_2).f8).length c156_8, .bool ((rd_T33 l0_1 x4_2).f9), .bool ((rd_T33 l0_1 x4_2).f10), .slice A156_11 ((rd_T33 l0_1 x4_2).f11).length c156_11, .int .i64 ((rd_T33 l0_1 x4_2).f12), .slice A156_13 ((rd_T33 l0_1 x4_2).f13).length c156_13]] rfl (by (try simp only [List.map_toArray, List.map_cons, List.map_nil]); first | done | rfl | (simp only [List.length_drop, List.length_take]; rfl)) ?_; (with_reducible refine (haspref22_read.calls kj16 a0_0 _ _ l0_1 ((rd_T33 l0_1 x4_2).f0) ((rd_T33 l0_1 x4_2).f1) ((rd_T33 l0_1 x4_2).f2) ((rd_T33 l0_1 x4_2).f3) ((rd_T33 l0_1 x4_2).f4) ((rd_T33 l0_1 x4_2).f5) ((rd_T33 l0_1 x4_2).f6) _ _ ((rd_T33 l0_1 x4_2).f7) _ _ ((rd_T33 l0_1 x4_2).f8) ((rd_T33 l0_1 x4_2).f9) ((rd_T33 l0_1 x4_2).f10) _ _ ((rd_T33 l0_1 x4_2).f11) ((rd_T33 l0_1 x4_2).f12) _ _ ((rd_T33 l0_1 x4_2).f13) true _ ?side1 ?side2 ?side3 ?side4 ?side5 ?side6 ?side7 ?side8 ?side9 ?side10 A45.out).mono ?_); (case side1 => repeat (first | exact (Kd.C_below HR0_1.out HB.out) | (with_reducible refine Kd.C_alloc ?_ _) | (with_reducible refine Kd.C_drewN ?_ _) | (with_reducible refine Kd.C_drew ?_))); (case side2 => exact HC0_1.out); (case side3 => repeat (first | exact (Kd.C_below HR156_7.out HB.out) | (with_reducible refine Kd.C_alloc ?_ _) | (with_reducible refine Kd.C_drewN ?_ _) | (with_reducible refine Kd.C_drew ?_))); (case side4 => exact HC156_7.out); (case side5 => repeat (first | exact (Kd.C_below HR156_8.out HB.out) | (with_reducible refine Kd.C_alloc ?_ _) | (with_reducible refine Kd.C_drewN ?_ _) | (with_reducible refine Kd.C_drew ?_))); (case side6 => exact HC156_8.out); (case side7 => repeat (first | exact (Kd.C_below HR156_11.out HB.out) | (with_reducible refine Kd.C_alloc ?_ _) | (with_reducible refine Kd.C_drewN ?_ _) | (with_reducible refine Kd.C_drew ?_))); (case side8 => exact HC156_11.out); (case side9 => repeat (first | exact (Kd.C_below HR156_13.out HB.out) | (with_reducible refine Kd.C_alloc ?_ _) | (with_reducible refine Kd.C_drewN ?_ _) | (with_reducible refine Kd.C_drew ?_))); (case side10 => exact HC156_13.out); rintro e w50 ⟨rfl, hb⟩; refine ⟨_, rfl, ?_⟩; have n0_ := Aside0.mk (blk_below (g := gb153) (o := .cells #[.string a0_0, .slice (some ad154) l0_1.length c0_1] 25 (0, 0)) (by (with_reducible repeat (first | refine blk_drewN ?_ _ | refine blk_drew ?_ | refine blk_alloc ?_ _)); exact BK153.out) hb); have n1_ := Aside0.mk (blk_below (g := gb157) (o := .cells #[.int .i64 ((rd_T33 l0_1 x4_2).f0), .int .i64 ((rd_T33 l0_1 x4_2).f1), .int .i64 ((rd_T33 l0_1 x4_2).f2), .int .i64 ((rd_T33 l0_1 x4_2).f3), .int .i64 ((rd_T33 l0_1 x4_2).f4), .string ((rd_T33 l0_1 x4_2).f5), .int .i64 ((rd_T33 l0_1 x4_2).f6), .slice A156_7 ((rd_T33 l0_1 x4_2).f7).length c156_7, .slice A156_8 ((rd_T33 l0_1 x4_2).f8).length c156_8, .bool ((rd_T33 l0_1 x4_2).f9), .bool ((rd_T33 l0_1 x4_2).f10), .slice A156_11 ((rd_T33 l0_1 x4_2).f11).length c156_11, .int .i64 ((rd_T33 l0_1 x4_2).f12), .slice A156_13 ((rd_T33 l0_1 x4_2).f13).length c156_13] 33 (0, 0)) (by (with_reducible repeat (first | refine blk_drewN ?_ _ | refine blk_drew ?_ | refine blk_alloc ?_ _)); exact BK157.out) hb); have n2_ := Aside0.mk (below_step (by repeat (first | (with_reducible first | exact HB.out | apply below_alloc | apply pw_below_drewN | apply below_drew1 | refine below_set ?_ GE153.out | refine below_set ?_ GE157.out) | exact HB.out)) hb); clear BK153; clear BK157; clear HB; have BK153 := n0_; have BK157 := n1_; have HB := n2_; clear n0_ n1_ n2_; (try clear hb); (try clear hb2); (try clear hk); (try clear hi)))
                                  go_roundg kj16
                                  case measure => have := HJ1.out; have := HK2.out; have := HJ16.out; omega
                                  case rel => exact ⟨(wrap64 (x4_2 + 1)), (by first | rfl | (simp; done) | (simp [*]; done) | (simp; exact isEmpty_bne _) | (simp [*]; exact isEmpty_bne _)), H', ⟨by have := HJ1.out; have := HK2.out; have := HJ16.out; omega⟩, ⟨by (with_reducible repeat (first | refine blk_drewN ?_ _ | refine blk_drew ?_ | refine blk_alloc ?_ _)); exact BK153.out⟩, ⟨by repeat (first | (with_reducible first | exact HB.out | apply below_alloc | apply pw_below_drewN | apply below_drew1 | refine below_set ?_ GE153.out | refine below_set ?_ GE157.out) | exact HB.out)⟩⟩
                                · replace c46 := Bool.eq_false_iff.mpr c46
                                  subst c46
                                  have H1 : (some 240) = some r := by rw [if_neg (show ¬ (false = true) by decide)] at H; exact H
                                  clear H
                                  have H := H1
                                  clear H1
                                  obtain rfl := Option.some.inj H
                                  have hnb51 := NB153_157.out
                                  have hnc51 := NB157_153.out
                                  have hcz52_0 : wc.cell? ⟨gb153, 0, none⟩ = some (.string a0_0) := (blk_cell BK153.out 0).trans rfl
                                  have hcz52_1 : wc.cell? ⟨gb153, 1, none⟩ = some (.slice (some ad154) l0_1.length c0_1) := (blk_cell BK153.out 1).trans rfl
                                  have hfz52_0 := blk_frozen BK153.out 0
                                  have hfz52_1 := blk_frozen BK153.out 1
                                  have hcz53_0 : wc.cell? ⟨gb157, 0, none⟩ = some (.int .i64 ((rd_T33 l0_1 x4_2).f0)) := (blk_cell BK157.out 0).trans rfl
                                  have hcz53_1 : wc.cell? ⟨gb157, 1, none⟩ = some (.int .i64 ((rd_T33 l0_1 x4_2).f1)) := (blk_cell BK157.out 1).trans rfl
                                  have hcz53_2 : wc.cell? ⟨gb157, 2, none⟩ = some (.int .i64 ((rd_T33 l0_1 x4_2).f2)) := (blk_cell BK157.out 2).trans rfl
                                  have hcz53_3 : wc.cell? ⟨gb157, 3, none⟩ = some (.int .i64 ((rd_T33 l0_1 x4_2).f3)) := (blk_cell BK157.out 3).trans rfl
                                  have hcz53_4 : wc.cell? ⟨gb157, 4, none⟩ = some (.int .i64 ((rd_T33 l0_1 x4_2).f4)) := (blk_cell BK157.out 4).trans rfl
                                  have hcz53_5 : wc.cell? ⟨gb157, 5, none⟩ = some (.string ((rd_T33 l0_1 x4_2).f5)) := (blk_cell BK157.out 5).trans rfl
                                  have hcz53_6 : wc.cell? ⟨gb157, 6, none⟩ = some (.int .i64 ((rd_T33 l0_1 x4_2).f6)) := (blk_cell BK157.out 6).trans rfl
                                  have hcz53_7 : wc.cell? ⟨gb157, 7, none⟩ = some (.slice A156_7 ((rd_T33 l0_1 x4_2).f7).length c156_7) := (blk_cell BK157.out 7).trans rfl
                                  have hcz53_8 : wc.cell? ⟨gb157, 8, none⟩ = some (.slice A156_8 ((rd_T33 l0_1 x4_2).f8).length c156_8) := (blk_cell BK157.out 8).trans rfl
                                  have hcz53_9 : wc.cell? ⟨gb157, 9, none⟩ = some (.bool ((rd_T33 l0_1 x4_2).f9)) := (blk_cell BK157.out 9).trans rfl
                                  have hcz53_10 : wc.cell? ⟨gb157, 10, none⟩ = some (.bool ((rd_T33 l0_1 x4_2).f10)) := (blk_cell BK157.out 10).trans rfl
                                  have hcz53_11 : wc.cell? ⟨gb157, 11, none⟩ = some (.slice A156_11 ((rd_T33 l0_1 x4_2).f11).length c156_11) := (blk_cell BK157.out 11).trans rfl
                                  have hcz53_12 : wc.cell? ⟨gb157, 12, none⟩ = some (.int .i64 ((rd_T33 l0_1 x4_2).f12)) := (blk_cell BK157.out 12).trans rfl
                                  have hcz53_13 : wc.cell? ⟨gb157, 13, none⟩ = some (.slice A156_13 ((rd_T33 l0_1 x4_2).f13).length c156_13) := (blk_cell BK157.out 13).trans rfl
                                  have hfz53_0 := blk_frozen BK157.out 0
                                  have hfz53_1 := blk_frozen BK157.out 1
                                  have hfz53_2 := blk_frozen BK157.out 2
                                  have hfz53_3 := blk_frozen BK157.out 3
                                  have hfz53_4 := blk_frozen BK157.out 4
                                  have hfz53_5 := blk_frozen BK157.out 5
                                  have hfz53_6 := blk_frozen BK157.out 6
                                  have hfz53_7 := blk_frozen BK157.out 7
                                  have hfz53_8 := blk_frozen BK157.out 8
                                  have hfz53_9 := blk_frozen BK157.out 9
                                  have hfz53_10 := blk_frozen BK157.out 10
                                  have hfz53_11 := blk_frozen BK157.out 11
                                  have hfz53_12 := blk_frozen BK157.out 12
                                  have hfz53_13 := blk_frozen BK157.out 13
                                  go_wp2_with (first | ((with_reducible refine gate_callee (f := 16) rfl ?_); refine goesL_ (some 54) rfl rfl Try.func16 (by kernel_rfl) rfl #[.agg #[.string a0_0, .slice (some ad154) l0_1.length c0_1], .agg #[.int .i64 ((rd_T33 l0_1 x4_2).f0), .int .i64 ((rd_T33 l0_1 x4_2).f1), .int .i64 ((rd_T33 l0_1 x4_2).f2), .int .i64 ((rd_T33 l0_1 x4_2).f3), .int .i64 ((rd_T33 l0_1 x4_2).f4), .string ((rd_T33 l0_1 x4_2).f5), .int .i64 ((rd_T33 l0_1 x4_2).f6), .slice A156_7 ((rd_T33 l0_1 x4_2).f7).length c156_7, .slice A156_8 ((rd_T33 l0_1 x4_2).f8).length c156_8, .bool ((rd_T33 l0_1 x4_2).f9), .bool ((rd_T33 l0_1 x4_2).f10), .slice A156_11 ((rd_T33 l0_1 x4_2).f11).length c156_11, .int .i64 ((rd_T33 l0_1 x4_2).f12), .slice A156_13 ((rd_T33 l0_1 x4_2).f13).length c156_13]] rfl (by (try simp only [List.map_toArray, List.map_cons, List.map_nil]); first | done | rfl | (simp only [List.length_drop, List.length_take]; rfl)) ?_; (with_reducible refine (haspref22_read.calls kj16 a0_0 _ _ l0_1 ((rd_T33 l0_1 x4_2).f0) ((rd_T33 l0_1 x4_2).f1) ((rd_T33 l0_1 x4_2).f2) ((rd_T33 l0_1 x4_2).f3) ((rd_T33 l0_1 x4_2).f4) ((rd_T33 l0_1 x4_2).f5) ((rd_T33 l0_1 x4_2).f6) _ _ ((rd_T33 l0_1 x4_2).f7) _ _ ((rd_T33 l0_1 x4_2).f8) ((rd_T33 l0_1 x4_2).f9) ((rd_T33 l0_1 x4_2).f10) _ _ ((rd_T33 l0_1 x4_2).f11) ((rd_T33 l0_1 x4_2).f12) _ _ ((rd_T33 l0_1 x4_2).f13) false _ ?side1 ?side2 ?side3 ?side4 ?side5 ?side6 ?side7 ?side8 ?side9 ?side10 A45.out).mono ?_); (case side1 => repeat (first | exact (Kd.C_below HR0_1.out HB.out) | (with_reducible refine Kd.C_alloc ?_ _) | (with_reducible refine Kd.C_drewN ?_ _) | (with_reducible refine Kd.C_drew ?_))); (case side2 => exact HC0_1.out); (case side3 => repeat (first | exact (Kd.C_below HR156_7.out HB.out) | (with_reducible refine Kd.C_alloc ?_ _) | (with_reducible refine Kd.C_drewN ?_ _) | (with_reducible refine Kd.C_drew ?_))); (case side4 => exact HC156_7.out); (case side5 => repeat (first | exact (Kd.C_below HR156_8.out HB.out) | (with_reducible refine Kd.C_alloc ?_ _) | (with_reducible refine Kd.C_drewN ?_ _) | (with_reducible refine Kd.C_drew ?_))); (case side6 => exact HC156_8.out); (case side7 => repeat (first | exact (Kd.C_below HR156_11.out HB.out) | (with_reducible refine Kd.C_alloc ?_ _) | (with_reducible refine Kd.C_drewN ?_ _) | (with_reducible refine Kd.C_drew ?_))); (case side8 => exact HC156_11.out); (case side9 => repeat (first | exact (Kd.C_below HR156_13.out HB.out) | (with_reducible refine Kd.C_alloc ?_ _) | (with_reducible refine Kd.C_drewN ?_ _) | (with_reducible refine Kd.C_drew ?_))); (case side10 => exact HC156_13.out); rintro e w54 ⟨rfl, hb⟩; refine ⟨_, rfl, ?_⟩; have n0_ := Aside0.mk (blk_below (g := gb153) (o := .cells #[.string a0_0, .slice (some ad154) l0_1.length c0_1] 25 (0, 0)) (by (with_reducible repeat (first | refine blk_drewN ?_ _ | refine blk_drew ?_ | refine blk_alloc ?_ _)); exact BK153.out) hb); have n1_ := Aside0.mk (blk_below (g := gb157) (o := .cells #[.int .i64 ((rd_T33 l0_1 x4_2).f0), .int .i64 ((rd_T33 l0_1 x4_2).f1), .int .i64 ((rd_T33 l0_1 x4_2).f2), .int .i64 ((rd_T33 l0_1 x4_2).f3), .int .i64 ((rd_T33 l0_1 x4_2).f4), .string ((rd_T33 l0_1 x4_2).f5), .int .i64 ((rd_T33 l0_1 x4_2).f6), .slice A156_7 ((rd_T33 l0_1 x4_2).f7).length c156_7, .slice A156_8 ((rd_T33 l0_1 x4_2).f8).length c156_8, .bool ((rd_T33 l0_1 x4_2).f9), .bool ((rd_T33 l0_1 x4_2).f10), .slice A156_11 ((rd_T33 l0_1 x4_2).f11).length c156_11, .int .i64 ((rd_T33 l0_1 x4_2).f12), .slice A156_13 ((rd_T33 l0_1 x4_2).f13).length c156_13] 33 (0, 0)) (by (with_reducible repeat (first | refine blk_drewN ?_ _ | refine blk_drew ?_ | refine blk_alloc ?_ _)); exact BK157.out) hb); have n2_ := Aside0.mk (below_step (by repeat (first | (with_reducible first | exact HB.out | apply below_alloc | apply pw_below_drewN | apply below_drew1 | refine below_set ?_ GE153.out | refine below_set ?_ GE157.out) | exact HB.out)) hb); clear BK153; clear BK157; clear HB; have BK153 := n0_; have BK157 := n1_; have HB := n2_; clear n0_ n1_ n2_; (try clear hb); (try clear hb2); (try clear hk); (try clear hi)))
                                  go_ret
                                  exact ⟨by first | rfl | (simp [errW_none, errW_some] <;> rfl) | (simp only [← hji7]; first | rfl | (simp [errW_none, errW_some] <;> rfl)) | (simp [*, errW_none, errW_some] <;> rfl), by repeat (first | (with_reducible first | exact HB.out | apply below_alloc | apply pw_below_drewN | apply below_drew1 | refine below_set ?_ GE153.out | refine below_set ?_ GE157.out) | exact HB.out)⟩
                        · replace c16 := Bool.eq_false_iff.mpr c16
                          subst c16
                          have H1 : (some 240) = some r := by rw [if_neg (show ¬ (false = true) by decide)] at H; exact H
                          clear H
                          have H := H1
                          clear H1
                          obtain rfl := Option.some.inj H
                          have hcz55_0 : wr.cell? ⟨gb153, 0, none⟩ = some (.string a0_0) := (blk_cell BK153.out 0).trans rfl
                          have hcz55_1 : wr.cell? ⟨gb153, 1, none⟩ = some (.slice (some ad154) l0_1.length c0_1) := (blk_cell BK153.out 1).trans rfl
                          have hfz55_0 := blk_frozen BK153.out 0
                          have hfz55_1 := blk_frozen BK153.out 1
                          have p156 : 0 ≤ (x4_2 : Int) := of_decide_eq_true (by first | (with_reducible assumption) | assumption)
                          have q156 : x4_2 < (l0_1.length : Int) := of_decide_eq_true (by first | (with_reducible assumption) | assumption)
                          obtain ⟨ad156, A156_7, c156_7, A156_8, c156_8, A156_11, c156_11, A156_13, c156_13, e156, hx156_0, hx156_1, hx156_2, hx156_3, hx156_4, hx156_5, hx156_6, hx156_7, hx156_8, hx156_9, hx156_10, hx156_11, hx156_12, hx156_13, hl156_7, hi156_7, hl156_8, hi156_8, hl156_11, hi156_11, hl156_13, hi156_13⟩ := at_T33 HR0_1.out x4_2 p156 q156
                          obtain rfl : ad154 = ad156 := (by injection e156)
                          replace hx156_0 := (HB.out.cell (World.block_lt_of_cell? w _ hx156_0)).trans hx156_0
                          replace hx156_1 := (HB.out.cell (World.block_lt_of_cell? w _ hx156_1)).trans hx156_1
                          replace hx156_2 := (HB.out.cell (World.block_lt_of_cell? w _ hx156_2)).trans hx156_2
                          replace hx156_3 := (HB.out.cell (World.block_lt_of_cell? w _ hx156_3)).trans hx156_3
                          replace hx156_4 := (HB.out.cell (World.block_lt_of_cell? w _ hx156_4)).trans hx156_4
                          replace hx156_5 := (HB.out.cell (World.block_lt_of_cell? w _ hx156_5)).trans hx156_5
                          replace hx156_6 := (HB.out.cell (World.block_lt_of_cell? w _ hx156_6)).trans hx156_6
                          replace hx156_7 := (HB.out.cell (World.block_lt_of_cell? w _ hx156_7)).trans hx156_7
                          replace hx156_8 := (HB.out.cell (World.block_lt_of_cell? w _ hx156_8)).trans hx156_8
                          replace hx156_9 := (HB.out.cell (World.block_lt_of_cell? w _ hx156_9)).trans hx156_9
                          replace hx156_10 := (HB.out.cell (World.block_lt_of_cell? w _ hx156_10)).trans hx156_10
                          replace hx156_11 := (HB.out.cell (World.block_lt_of_cell? w _ hx156_11)).trans hx156_11
                          replace hx156_12 := (HB.out.cell (World.block_lt_of_cell? w _ hx156_12)).trans hx156_12
                          replace hx156_13 := (HB.out.cell (World.block_lt_of_cell? w _ hx156_13)).trans hx156_13
                          have HR156_7 := Aside0.mk hi156_7
                          have HC156_7 := Aside0.mk hl156_7
                          clear hi156_7 hl156_7
                          have HR156_8 := Aside0.mk hi156_8
                          have HC156_8 := Aside0.mk hl156_8
                          clear hi156_8 hl156_8
                          have HR156_11 := Aside0.mk hi156_11
                          have HC156_11 := Aside0.mk hl156_11
                          clear hi156_11 hl156_11
                          have HR156_13 := Aside0.mk hi156_13
                          have HC156_13 := Aside0.mk hl156_13
                          clear hi156_13 hl156_13
                          replace p156 := eq_true p156
                          replace q156 := eq_true q156
                          go_wp2_with (first | ((with_reducible refine gate_dst (N := 5) rfl ?_); refine box_event ?hg (N := 5) ?hd (cs := #[.int .i64 0, .int .i64 0, .int .i64 0, .int .i64 0, .int .i64 0, .string (⟨#[]⟩ : ByteArray), .int .i64 0, .slice none 0 0, .slice none 0 0, .bool false, .bool false, .slice none 0 0, .int .i64 0, .slice none 0 0]) (t := 33) ?hr ?_; (case hd => rfl); (case hg => rfl); (case hr => first | (go_simp; done) | (go_simp; rfl)); intro gb157 hg w56 hbox hb; have n0_ := Aside0.mk (blk_below (g := gb153) (o := .cells #[.string a0_0, .slice (some ad154) l0_1.length c0_1] 25 (0, 0)) (by (with_reducible repeat (first | refine blk_drewN ?_ _ | refine blk_drew ?_ | refine blk_alloc ?_ _)); exact BK153.out) hb); have n1_ := Aside0.mk (below_step (by repeat (first | (with_reducible first | exact HB.out | apply below_alloc | apply pw_below_drewN | apply below_drew1 | refine below_set ?_ GE153.out) | exact HB.out)) hb); have n2_ := Aside0.mk (hbox); have n3_ := Aside0.mk ((by rw [hg]; exact (below_size (by repeat (first | (with_reducible first | exact HB.out | apply below_alloc | apply pw_below_drewN | apply below_drew1 | refine below_set ?_ GE153.out) | exact HB.out))) : w.heap.size ≤ gb157)); have n4_ := Aside0.mk ((by rw [hg]; exact (below_size (by repeat (first | (with_reducible first | exact HB.out | apply below_alloc | apply pw_below_drewN | apply below_drew1 | refine below_set ?_ GE153.out) | exact HB.out))) : w.heap.size ≤ gb157)); have n5_ := Aside0.mk ((by rw [hg]; exact Nat.ne_of_lt (blk_lt (g := gb153) (o := .cells #[.string a0_0, .slice (some ad154) l0_1.length c0_1] 25 (0, 0)) (by (with_reducible repeat (first | refine blk_drewN ?_ _ | refine blk_drew ?_ | refine blk_alloc ?_ _)); exact BK153.out)) : gb153 ≠ gb157)); have n6_ := Aside0.mk ((by rw [hg]; exact Nat.ne_of_gt (blk_lt (g := gb153) (o := .cells #[.string a0_0, .slice (some ad154) l0_1.length c0_1] 25 (0, 0)) (by (with_reducible repeat (first | refine blk_drewN ?_ _ | refine blk_drew ?_ | refine blk_alloc ?_ _)); exact BK153.out)) : gb157 ≠ gb153)); clear BK153; clear HB; have BK153 := n0_; have HB := n1_; have BK157 := n2_; have GW157 := n3_; have GE157 := n4_; have NB153_157 := n5_; have NB157_153 := n6_; clear n0_ n1_ n2_ n3_ n4_ n5_ n6_; clear hb hbox hg; have hnb57 := NB157_153.out; have hnc57 := NB153_157.out; have hcz58_0 : w56.cell? ⟨gb157, 0, none⟩ = some (.int .i64 0) := (blk_cell BK157.out 0).trans rfl; have hcz58_1 : w56.cell? ⟨gb157, 1, none⟩ = some (.int .i64 0) := (blk_cell BK157.out 1).trans rfl; have hcz58_2 : w56.cell? ⟨gb157, 2, none⟩ = some (.int .i64 0) := (blk_cell BK157.out 2).trans rfl; have hcz58_3 : w56.cell? ⟨gb157, 3, none⟩ = some (.int .i64 0) := (blk_cell BK157.out 3).trans rfl; have hcz58_4 : w56.cell? ⟨gb157, 4, none⟩ = some (.int .i64 0) := (blk_cell BK157.out 4).trans rfl; have hcz58_5 : w56.cell? ⟨gb157, 5, none⟩ = some (.string (⟨#[]⟩ : ByteArray)) := (blk_cell BK157.out 5).trans rfl; have hcz58_6 : w56.cell? ⟨gb157, 6, none⟩ = some (.int .i64 0) := (blk_cell BK157.out 6).trans rfl; have hcz58_7 : w56.cell? ⟨gb157, 7, none⟩ = some (.slice none 0 0) := (blk_cell BK157.out 7).trans rfl; have hcz58_8 : w56.cell? ⟨gb157, 8, none⟩ = some (.slice none 0 0) := (blk_cell BK157.out 8).trans rfl; have hcz58_9 : w56.cell? ⟨gb157, 9, none⟩ = some (.bool false) := (blk_cell BK157.out 9).trans rfl; have hcz58_10 : w56.cell? ⟨gb157, 10, none⟩ = some (.bool false) := (blk_cell BK157.out 10).trans rfl; have hcz58_11 : w56.cell? ⟨gb157, 11, none⟩ = some (.slice none 0 0) := (blk_cell BK157.out 11).trans rfl; have hcz58_12 : w56.cell? ⟨gb157, 12, none⟩ = some (.int .i64 0) := (blk_cell BK157.out 12).trans rfl; have hcz58_13 : w56.cell? ⟨gb157, 13, none⟩ = some (.slice none 0 0) := (blk_cell BK157.out 13).trans rfl; have hfz58_0 := blk_frozen BK157.out 0; have hfz58_1 := blk_frozen BK157.out 1; have hfz58_2 := blk_frozen BK157.out 2; have hfz58_3 := blk_frozen BK157.out 3; have hfz58_4 := blk_frozen BK157.out 4; have hfz58_5 := blk_frozen BK157.out 5; have hfz58_6 := blk_frozen BK157.out 6; have hfz58_7 := blk_frozen BK157.out 7; have hfz58_8 := blk_frozen BK157.out 8; have hfz58_9 := blk_frozen BK157.out 9; have hfz58_10 := blk_frozen BK157.out 10; have hfz58_11 := blk_frozen BK157.out 11; have hfz58_12 := blk_frozen BK157.out 12; have hfz58_13 := blk_frozen BK157.out 13) | ((with_reducible refine gate_callee (f := 15) rfl ?_); refine goesL_ (some 35) rfl rfl Try.func15 (by kernel_rfl) rfl #[.agg #[.int .i64 ((rd_T33 l0_1 x4_2).f0), .int .i64 ((rd_T33 l0_1 x4_2).f1), .int .i64 ((rd_T33 l0_1 x4_2).f2), .int .i64 ((rd_T33 l0_1 x4_2).f3), .int .i64 ((rd_T33 l0_1 x4_2).f4), .string ((rd_T33 l0_1 x4_2).f5), .int .i64 ((rd_T33 l0_1 x4_2).f6), .slice A156_7 ((rd_T33 l0_1 x4_2).f7).length c156_7, .slice A156_8 ((rd_T33 l0_1 x4_2).f8).length c156_8, .bool ((rd_T33 l0_1 x4_2).f9), .bool ((rd_T33 l0_1 x4_2).f10), .slice A156_11 ((rd_T33 l0_1 x4_2).f11).length c156_11, .int .i64 ((rd_T33 l0_1 x4_2).f12), .slice A156_13 ((rd_T33 l0_1 x4_2).f13).length c156_13], .int .i64 (l0_1.length : Int)] rfl (by (try simp only [List.map_toArray, List.map_cons, List.map_nil]); first | done | rfl | (simp only [List.length_drop, List.length_take]; rfl)) ?_; (with_reducible refine (haspref22_right.calls k2 ((rd_T33 l0_1 x4_2).f0) ((rd_T33 l0_1 x4_2).f1) ((rd_T33 l0_1 x4_2).f2) ((rd_T33 l0_1 x4_2).f3) ((rd_T33 l0_1 x4_2).f4) ((rd_T33 l0_1 x4_2).f5) ((rd_T33 l0_1 x4_2).f6) _ _ ((rd_T33 l0_1 x4_2).f7) _ _ ((rd_T33 l0_1 x4_2).f8) ((rd_T33 l0_1 x4_2).f9) ((rd_T33 l0_1 x4_2).f10) _ _ ((rd_T33 l0_1 x4_2).f11) ((rd_T33 l0_1 x4_2).f12) _ _ ((rd_T33 l0_1 x4_2).f13) (l0_1.length : Int) false _ ?side1 ?side2 ?side3 ?side4 ?side5 ?side6 ?side7 ?side8 A15.out).mono ?_); (case side1 => exact Kd.C_below HR156_7.out (by repeat (first | (with_reducible first | exact HB.out | apply below_alloc | apply pw_below_drewN | apply below_drew1 | refine below_set ?_ GE153.out | refine below_set ?_ GE157.out) | exact HB.out))); (case side2 => exact HC156_7.out); (case side3 => exact Kd.C_below HR156_8.out (by repeat (first | (with_reducible first | exact HB.out | apply below_alloc | apply pw_below_drewN | apply below_drew1 | refine below_set ?_ GE153.out | refine below_set ?_ GE157.out) | exact HB.out))); (case side4 => exact HC156_8.out); (case side5 => exact Kd.C_below HR156_11.out (by repeat (first | (with_reducible first | exact HB.out | apply below_alloc | apply pw_below_drewN | apply below_drew1 | refine below_set ?_ GE153.out | refine below_set ?_ GE157.out) | exact HB.out))); (case side6 => exact HC156_11.out); (case side7 => exact Kd.C_below HR156_13.out (by repeat (first | (with_reducible first | exact HB.out | apply below_alloc | apply pw_below_drewN | apply below_drew1 | refine below_set ?_ GE153.out | refine below_set ?_ GE157.out) | exact HB.out))); (case side8 => exact HC156_13.out); rintro e w59 ⟨rfl, hb⟩; refine ⟨_, rfl, ?_⟩; have n0_ := Aside0.mk (blk_below (g := gb153) (o := .cells #[.string a0_0, .slice (some ad154) l0_1.length c0_1] 25 (0, 0)) (by (with_reducible repeat (first | refine blk_drewN ?_ _ | refine blk_drew ?_ | refine blk_alloc ?_ _)); refine blk_far ?_ NB153_157.out _; (with_reducible repeat (first | refine blk_drewN ?_ _ | refine blk_drew ?_ | refine blk_alloc ?_ _)); refine blk_far ?_ NB153_157.out _; (with_reducible repeat (first | refine blk_drewN ?_ _ | refine blk_drew ?_ | refine blk_alloc ?_ _)); refine blk_far ?_ NB153_157.out _; (with_reducible repeat (first | refine blk_drewN ?_ _ | refine blk_drew ?_ | refine blk_alloc ?_ _)); refine blk_far ?_ NB153_157.out _; (with_reducible repeat (first | refine blk_drewN ?_ _ | refine blk_drew ?_ | refine blk_alloc ?_ _)); refine blk_far ?_ NB153_157.out _; (with_reducible repeat (first | refine blk_drewN ?_ _ | refine blk_drew ?_ | refine blk_alloc ?_ _)); refine blk_far ?_ NB153_157.out _; (with_reducible repeat (first | refine blk_drewN ?_ _ | refine blk_drew ?_ | refine blk_alloc ?_ _)); refine blk_far ?_ NB153_157.out _; (with_reducible repeat (first | refine blk_drewN ?_ _ | refine blk_drew ?_ | refine blk_alloc ?_ _)); refine blk_far ?_ NB153_157.out _; (with_reducible repeat (first | refine blk_drewN ?_ _ | refine blk_drew ?_ | refine blk_alloc ?_ _)); refine blk_far ?_ NB153_157.out _; (with_reducible repeat (first | refine blk_drewN ?_ _ | refine blk_drew ?_ | refine blk_alloc ?_ _)); refine blk_far ?_ NB153_157.out _; (with_reducible repeat (first | refine blk_drewN ?_ _ | refine blk_drew ?_ | refine blk_alloc ?_ _)); refine blk_far ?_ NB153_157.out _; (with_reducible repeat (first | refine blk_drewN ?_ _ | refine blk_drew ?_ | refine blk_alloc ?_ _)); refine blk_far ?_ NB153_157.out _; (with_reducible repeat (first | refine blk_drewN ?_ _ | refine blk_drew ?_ | refine blk_alloc ?_ _)); refine blk_far ?_ NB153_157.out _; (with_reducible repeat (first | refine blk_drewN ?_ _ | refine blk_drew ?_ | refine blk_alloc ?_ _)); refine blk_far ?_ NB153_157.out _; (with_reducible repeat (first | refine blk_drewN ?_ _ | refine blk_drew ?_ | refine blk_alloc ?_ _)); exact BK153.out) hb); have n1_ := Aside0.mk (blk_below (g := gb157) (o := .cells #[.int .i64 ((rd_T33 l0_1 x4_2).f0), .int .i64 ((rd_T33 l0_1 x4_2).f1), .int .i64 ((rd_T33 l0_1 x4_2).f2), .int .i64 ((rd_T33 l0_1 x4_2).f3), .int .i64 ((rd_T33 l0_1 x4_2).f4), .string ((rd_T33 l0_1 x4_2).f5), .int .i64 ((rd_T33 l0_1 x4_2).f6), .slice A156_7 ((rd_T33 l0_1 x4_2).f7).length c156_7, .slice A156_8 ((rd_T33 l0_1 x4_2).f8).length c156_8, .bool ((rd_T33 l0_1 x4_2).f9), .bool ((rd_T33 l0_1 x4_2).f10), .slice A156_11 ((rd_T33 l0_1 x4_2).f11).length c156_11, .int .i64 ((rd_T33 l0_1 x4_2).f12), .slice A156_13 ((rd_T33 l0_1 x4_2).f13).length c156_13] 33 (0, 0)) (by (with_reducible repeat (first | refine blk_drewN ?_ _ | refine blk_drew ?_ | refine blk_alloc ?_ _)); refine blk_put (cs := #[.int .i64 ((rd_T33 l0_1 x4_2).f0), .int .i64 ((rd_T33 l0_1 x4_2).f1), .int .i64 ((rd_T33 l0_1 x4_2).f2), .int .i64 ((rd_T33 l0_1 x4_2).f3), .int .i64 ((rd_T33 l0_1 x4_2).f4), .string ((rd_T33 l0_1 x4_2).f5), .int .i64 ((rd_T33 l0_1 x4_2).f6), .slice A156_7 ((rd_T33 l0_1 x4_2).f7).length c156_7, .slice A156_8 ((rd_T33 l0_1 x4_2).f8).length c156_8, .bool ((rd_T33 l0_1 x4_2).f9), .bool ((rd_T33 l0_1 x4_2).f10), .slice A156_11 ((rd_T33 l0_1 x4_2).f11).length c156_11, .int .i64 ((rd_T33 l0_1 x4_2).f12), .slice none 0 0]) ?_ 13 _ rfl; (with_reducible repeat (first | refine blk_drewN ?_ _ | refine blk_drew ?_ | refine blk_alloc ?_ _)); refine blk_put (cs := #[.int .i64 ((rd_T33 l0_1 x4_2).f0), .int .i64 ((rd_T33 l0_1 x4_2).f1), .int .i64 ((rd_T33 l0_1 x4_2).f2), .int .i64 ((rd_T33 l0_1 x4_2).f3), .int .i64 ((rd_T33 l0_1 x4_2).f4), .string ((rd_T33 l0_1 x4_2).f5), .int .i64 ((rd_T33 l0_1 x4_2).f6), .slice A156_7 ((rd_T33 l0_1 x4_2).f7).length c156_7, .slice A156_8 ((rd_T33 l0_1 x4_2).f8).length c156_8, .bool ((rd_T33 l0_1 x4_2).f9), .bool ((rd_T33 l0_1 x4_2).f10), .slice A156_11 ((rd_T33 l0_1 x4_2).f11).length c156_11, .int .i64 0, .slice none 0 0]) ?_ 12 _ rfl; (with_reducible repeat (first | refine blk_drewN ?_ _ | refine blk_drew ?_ | refine blk_alloc ?_ _)); refine blk_put (cs := #[.int .i64 ((rd_T33 l0_1 x4_2).f0), .int .i64 ((rd_T33 l0_1 x4_2).f1), .int .i64 ((rd_T33 l0_1 x4_2).f2), .int .i64 ((rd_T33 l0_1 x4_2).f3), .int .i64 ((rd_T33 l0_1 x4_2).f4), .string ((rd_T33 l0_1 x4_2).f5), .int .i64 ((rd_T33 l0_1 x4_2).f6), .slice A156_7 ((rd_T33 l0_1 x4_2).f7).length c156_7, .slice A156_8 ((rd_T33 l0_1 x4_2).f8).length c156_8, .bool ((rd_T33 l0_1 x4_2).f9), .bool ((rd_T33 l0_1 x4_2).f10), .slice none 0 0, .int .i64 0, .slice none 0 0]) ?_ 11 _ rfl; (with_reducible repeat (first | refine blk_drewN ?_ _ | refine blk_drew ?_ | refine blk_alloc ?_ _)); refine blk_put (cs := #[.int .i64 ((rd_T33 l0_1 x4_2).f0), .int .i64 ((rd_T33 l0_1 x4_2).f1), .int .i64 ((rd_T33 l0_1 x4_2).f2), .int .i64 ((rd_T33 l0_1 x4_2).f3), .int .i64 ((rd_T33 l0_1 x4_2).f4), .string ((rd_T33 l0_1 x4_2).f5), .int .i64 ((rd_T33 l0_1 x4_2).f6), .slice A156_7 ((rd_T33 l0_1 x4_2).f7).length c156_7, .slice A156_8 ((rd_T33 l0_1 x4_2).f8).length c156_8, .bool ((rd_T33 l0_1 x4_2).f9), .bool false, .slice none 0 0, .int .i64 0, .slice none 0 0]) ?_ 10 _ rfl; (with_reducible repeat (first | refine blk_drewN ?_ _ | refine blk_drew ?_ | refine blk_alloc ?_ _)); refine blk_put (cs := #[.int .i64 ((rd_T33 l0_1 x4_2).f0), .int .i64 ((rd_T33 l0_1 x4_2).f1), .int .i64 ((rd_T33 l0_1 x4_2).f2), .int .i64 ((rd_T33 l0_1 x4_2).f3), .int .i64 ((rd_T33 l0_1 x4_2).f4), .string ((rd_T33 l0_1 x4_2).f5), .int .i64 ((rd_T33 l0_1 x4_2).f6), .slice A156_7 ((rd_T33 l0_1 x4_2).f7).length c156_7, .slice A156_8 ((rd_T33 l0_1 x4_2).f8).length c156_8, .bool false, .bool false, .slice none 0 0, .int .i64 0, .slice none 0 0]) ?_ 9 _ rfl; (with_reducible repeat (first | refine blk_drewN ?_ _ | refine blk_drew ?_ | refine blk_alloc ?_ _)); refine blk_put (cs := #[.int .i64 ((rd_T33 l0_1 x4_2).f0), .int .i64 ((rd_T33 l0_1 x4_2).f1), .int .i64 ((rd_T33 l0_1 x4_2).f2), .int .i64 ((rd_T33 l0_1 x4_2).f3), .int .i64 ((rd_T33 l0_1 x4_2).f4), .string ((rd_T33 l0_1 x4_2).f5), .int .i64 ((rd_T33 l0_1 x4_2).f6), .slice A156_7 ((rd_T33 l0_1 x4_2).f7).length c156_7, .slice none 0 0, .bool false, .bool false, .slice none 0 0, .int .i64 0, .slice none 0 0]) ?_ 8 _ rfl; (with_reducible repeat (first | refine blk_drewN ?_ _ | refine blk_drew ?_ | refine blk_alloc ?_ _)); refine blk_put (cs := #[.int .i64 ((rd_T33 l0_1 x4_2).f0), .int .i64 ((rd_T33 l0_1 x4_2).f1), .int .i64 ((rd_T33 l0_1 x4_2).f2), .int .i64 ((rd_T33 l0_1 x4_2).f3), .int .i64 ((rd_T33 l0_1 x4_2).f4), .string ((rd_T33 l0_1 x4_2).f5), .int .i64 ((rd_T33 l0_1 x4_2).f6), .slice none 0 0, .slice none 0 0, .bool false, .bool false, .slice none 0 0, .int .i64 0, .slice none 0 0]) ?_ 7 _ rfl; (with_reducible repeat (first | refine blk_drewN ?_ _ | refine blk_drew ?_ | refine blk_alloc ?_ _)); refine blk_put (cs := #[.int .i64 ((rd_T33 l0_1 x4_2).f0), .int .i64 ((rd_T33 l0_1 x4_2).f1), .int .i64 ((rd_T33 l0_1 x4_2).f2), .int .i64 ((rd_T33 l0_1 x4_2).f3), .int .i64 ((rd_T33 l0_1 x4_2).f4), .string ((rd_T33 l0_1 x4_2).f5), .int .i64 0, .slice none 0 0, .slice none 0 0, .bool false, .bool false, .slice none 0 0, .int .i64 0, .slice none 0 0]) ?_ 6 _ rfl; (with_reducible repeat (first | refine blk_drewN ?_ _ | refine blk_drew ?_ | refine blk_alloc ?_ _)); refine blk_put (cs := #[.int .i64 ((rd_T33 l0_1 x4_2).f0), .int .i64 ((rd_T33 l0_1 x4_2).f1), .int .i64 ((rd_T33 l0_1 x4_2).f2), .int .i64 ((rd_T33 l0_1 x4_2).f3), .int .i64 ((rd_T33 l0_1 x4_2).f4), .string (⟨#[]⟩ : ByteArray), .int .i64 0, .slice none 0 0, .slice none 0 0, .bool false, .bool false, .slice none 0 0, .int .i64 0, .slice none 0 0]) ?_ 5 _ rfl; (with_reducible repeat (first | refine blk_drewN ?_ _ | refine blk_drew ?_ | refine blk_alloc ?_ _)); refine blk_put (cs := #[.int .i64 ((rd_T33 l0_1 x4_2).f0), .int .i64 ((rd_T33 l0_1 x4_2).f1), .int .i64 ((rd_T33 l0_1 x4_2).f2), .int .i64 ((rd_T33 l0_1 x4_2).f3), .int .i64 0, .string (⟨#[]⟩ : ByteArray), .int .i64 0, .slice none 0 0, .slice none 0 0, .bool false, .bool false, .slice none 0 0, .int .i64 0, .slice none 0 0]) ?_ 4 _ rfl; (with_reducible repeat (first | refine blk_drewN ?_ _ | refine blk_drew ?_ | refine blk_alloc ?_ _)); refine blk_put (cs := #[.int .i64 ((rd_T33 l0_1 x4_2).f0), .int .i64 ((rd_T33 l0_1 x4_2).f1), .int .i64 ((rd_T33 l0_1 x4_2).f2), .int .i64 0, .int .i64 0, .string (⟨#[]⟩ : ByteArray), .int .i64 0, .slice none 0 0, .slice none 0 0, .bool false, .bool false, .slice none 0 0, .int .i64 0, .slice none 0 0]) ?_ 3 _ rfl; (with_reducible repeat (first | refine blk_drewN ?_ _ | refine blk_drew ?_ | refine blk_alloc ?_ _)); refine blk_put (cs := #[.int .i64 ((rd_T33 l0_1 x4_2).f0), .int .i64 ((rd_T33 l0_1 x4_2).f1), .int .i64 0, .int .i64 0, .int .i64 0, .string (⟨#[]⟩ : ByteArray), .int .i64 0, .slice none 0 0, .slice none 0 0, .bool false, .bool false, .slice none 0 0, .int .i64 0, .slice none 0 0]) ?_ 2 _ rfl; (with_reducible repeat (first | refine blk_drewN ?_ _ | refine blk_drew ?_ | refine blk_alloc ?_ _)); refine blk_put (cs := #[.int .i64 ((rd_T33 l0_1 x4_2).f0), .int .i64 0, .int .i64 0, .int .i64 0, .int .i64 0, .string (⟨#[]⟩ : ByteArray), .int .i64 0, .slice none 0 0, .slice none 0 0, .bool false, .bool false, .slice none 0 0, .int .i64 0, .slice none 0 0]) ?_ 1 _ rfl; (with_reducible repeat (first | refine blk_drewN ?_ _ | refine blk_drew ?_ | refine blk_alloc ?_ _)); refine blk_put (cs := #[.int .i64 0, .int .i64 0, .int .i64 0, .int .i64 0, .int .i64 0, .string (⟨#[]⟩ : ByteArray), .int .i64 0, .slice none 0 0, .slice none 0 0, .bool false, .bool false, .slice none 0 0, .int .i64 0, .slice none 0 0]) ?_ 0 _ rfl; (with_reducible repeat (first | refine blk_drewN ?_ _ | refine blk_drew ?_ | refine blk_alloc ?_ _)); exact BK157.out) hb); have n2_ := Aside0.mk (below_step (by repeat (first | (with_reducible first | exact HB.out | apply below_alloc | apply pw_below_drewN | apply below_drew1 | refine below_set ?_ GE153.out | refine below_set ?_ GE157.out) | exact HB.out)) hb); clear BK153; clear BK157; clear HB; have BK153 := n0_; have BK157 := n1_; have HB := n2_; clear n0_ n1_ n2_; (try clear hb); (try clear hb2); (try clear hk); (try clear hi)))
                          go_ret
                          exact ⟨by first | rfl | (simp [errW_none, errW_some] <;> rfl) | (simp only [← hji7]; first | rfl | (simp [errW_none, errW_some] <;> rfl)) | (simp [*, errW_none, errW_some] <;> rfl), by repeat (first | (with_reducible first | exact HB.out | apply below_alloc | apply pw_below_drewN | apply below_drew1 | refine below_set ?_ GE153.out | refine below_set ?_ GE157.out) | exact HB.out)⟩
                      · rw [if_neg c14] at H
                        exact absurd H (by simp)
                    · rw [if_neg c13] at H
                      exact absurd H (by simp)
                  · rw [if_neg c12] at H
                    have c12b0 : decide (x4_2 < (l0_1.length : Int)) = false := decide_eq_false c12
                    clear c12
                    replace H := Option.bind_eq_some_iff.mp H
                    obtain ⟨t155, A600, H⟩ := H
                    replace H : (if t155 = true then (some 0) else (some 240)) = some r := H
                    have A60 := Aside0.mk A600
                    clear A600
                    by_cases c61 : t155 = true
                    · subst c61
                      have H1 : (some 0) = some r := by rw [if_pos rfl] at H; exact H
                      clear H
                      have H := H1
                      clear H1
                      obtain rfl := Option.some.inj H
                      have hcz62_0 : wr.cell? ⟨gb153, 0, none⟩ = some (.string a0_0) := (blk_cell BK153.out 0).trans rfl
                      have hcz62_1 : wr.cell? ⟨gb153, 1, none⟩ = some (.slice (some ad154) l0_1.length c0_1) := (blk_cell BK153.out 1).trans rfl
                      have hfz62_0 := blk_frozen BK153.out 0
                      have hfz62_1 := blk_frozen BK153.out 1
                      go_wp2_with (first | ((with_reducible refine gate_callee (f := 17) rfl ?_); refine goesL_ (some 57) rfl rfl Try.func17 (by kernel_rfl) rfl #[.agg #[.string a0_0, .slice (some ad154) l0_1.length c0_1]] rfl (by (try simp only [List.map_toArray, List.map_cons, List.map_nil]); first | done | rfl | (simp only [List.length_drop, List.length_take]; rfl)) ?_; (with_reducible refine (haspref22_changes.calls k2 a0_0 _ _ l0_1 true _ ?side1 ?side2 A60.out).mono ?_); (case side1 => repeat (first | exact (Kd.C_below HR0_1.out HB.out) | (with_reducible refine Kd.C_alloc ?_ _) | (with_reducible refine Kd.C_drewN ?_ _) | (with_reducible refine Kd.C_drew ?_))); (case side2 => exact HC0_1.out); rintro e w63 ⟨rfl, hb⟩; refine ⟨_, rfl, ?_⟩; have n0_ := Aside0.mk (blk_below (g := gb153) (o := .cells #[.string a0_0, .slice (some ad154) l0_1.length c0_1] 25 (0, 0)) (by (with_reducible repeat (first | refine blk_drewN ?_ _ | refine blk_drew ?_ | refine blk_alloc ?_ _)); exact BK153.out) hb); have n1_ := Aside0.mk (below_step (by repeat (first | (with_reducible first | exact HB.out | apply below_alloc | apply pw_below_drewN | apply below_drew1 | refine below_set ?_ GE153.out) | exact HB.out)) hb); clear BK153; clear HB; have BK153 := n0_; have HB := n1_; clear n0_ n1_; (try clear hb); (try clear hb2); (try clear hk); (try clear hi)))
                      go_ret
                      exact ⟨by first | rfl | (simp [errW_none, errW_some] <;> rfl) | (simp only [← hji7]; first | rfl | (simp [errW_none, errW_some] <;> rfl)) | (simp [*, errW_none, errW_some] <;> rfl), by repeat (first | (with_reducible first | exact HB.out | apply below_alloc | apply pw_below_drewN | apply below_drew1 | refine below_set ?_ GE153.out) | exact HB.out)⟩
                    · replace c61 := Bool.eq_false_iff.mpr c61
                      subst c61
                      have H1 : (some 240) = some r := by rw [if_neg (show ¬ (false = true) by decide)] at H; exact H
                      clear H
                      have H := H1
                      clear H1
                      obtain rfl := Option.some.inj H
                      have hcz64_0 : wr.cell? ⟨gb153, 0, none⟩ = some (.string a0_0) := (blk_cell BK153.out 0).trans rfl
                      have hcz64_1 : wr.cell? ⟨gb153, 1, none⟩ = some (.slice (some ad154) l0_1.length c0_1) := (blk_cell BK153.out 1).trans rfl
                      have hfz64_0 := blk_frozen BK153.out 0
                      have hfz64_1 := blk_frozen BK153.out 1
                      go_wp2_with (first | ((with_reducible refine gate_callee (f := 17) rfl ?_); refine goesL_ (some 57) rfl rfl Try.func17 (by kernel_rfl) rfl #[.agg #[.string a0_0, .slice (some ad154) l0_1.length c0_1]] rfl (by (try simp only [List.map_toArray, List.map_cons, List.map_nil]); first | done | rfl | (simp only [List.length_drop, List.length_take]; rfl)) ?_; (with_reducible refine (haspref22_changes.calls k2 a0_0 _ _ l0_1 false _ ?side1 ?side2 A60.out).mono ?_); (case side1 => repeat (first | exact (Kd.C_below HR0_1.out HB.out) | (with_reducible refine Kd.C_alloc ?_ _) | (with_reducible refine Kd.C_drewN ?_ _) | (with_reducible refine Kd.C_drew ?_))); (case side2 => exact HC0_1.out); rintro e w65 ⟨rfl, hb⟩; refine ⟨_, rfl, ?_⟩; have n0_ := Aside0.mk (blk_below (g := gb153) (o := .cells #[.string a0_0, .slice (some ad154) l0_1.length c0_1] 25 (0, 0)) (by (with_reducible repeat (first | refine blk_drewN ?_ _ | refine blk_drew ?_ | refine blk_alloc ?_ _)); exact BK153.out) hb); have n1_ := Aside0.mk (below_step (by repeat (first | (with_reducible first | exact HB.out | apply below_alloc | apply pw_below_drewN | apply below_drew1 | refine below_set ?_ GE153.out) | exact HB.out)) hb); clear BK153; clear HB; have BK153 := n0_; have HB := n1_; clear n0_ n1_; (try clear hb); (try clear hb2); (try clear hk); (try clear hi)))
                      go_ret
                      exact ⟨by first | rfl | (simp [errW_none, errW_some] <;> rfl) | (simp only [← hji7]; first | rfl | (simp [errW_none, errW_some] <;> rfl)) | (simp [*, errW_none, errW_some] <;> rfl), by repeat (first | (with_reducible first | exact HB.out | apply below_alloc | apply pw_below_drewN | apply below_drew1 | refine below_set ?_ GE153.out) | exact HB.out)⟩
            · rw [if_neg c10] at H
              have c10b0 : (((rd_T33 l0_1 (ji7)).f0) == 12) = false := beq_eq_false_iff_ne.mpr c10
              have c10b1 : (((rd_T33 l0_1 (ji7)).f0) != 12) = true := bne_iff_ne.mpr c10
              obtain rfl := Option.some.inj H
              have hcz66_0 : wc.cell? ⟨gb153, 0, none⟩ = some (.string a0_0) := (blk_cell BK153.out 0).trans rfl
              have hcz66_1 : wc.cell? ⟨gb153, 1, none⟩ = some (.slice A0_1 l0_1.length c0_1) := (blk_cell BK153.out 1).trans rfl
              have hfz66_0 := blk_frozen BK153.out 0
              have hfz66_1 := blk_frozen BK153.out 1
              have p154 : 0 ≤ ((ji7) : Int) := of_decide_eq_true (by first | (with_reducible assumption) | assumption)
              have q154 : (ji7) < (l0_1.length : Int) := of_decide_eq_true (by first | (with_reducible assumption) | assumption)
              obtain ⟨ad154, A154_7, c154_7, A154_8, c154_8, A154_11, c154_11, A154_13, c154_13, e154, hx154_0, hx154_1, hx154_2, hx154_3, hx154_4, hx154_5, hx154_6, hx154_7, hx154_8, hx154_9, hx154_10, hx154_11, hx154_12, hx154_13, hl154_7, hi154_7, hl154_8, hi154_8, hl154_11, hi154_11, hl154_13, hi154_13⟩ := at_T33 HR0_1.out (ji7) p154 q154
              cases e154
              replace hx154_0 := (HB.out.cell (World.block_lt_of_cell? w _ hx154_0)).trans hx154_0
              replace hx154_1 := (HB.out.cell (World.block_lt_of_cell? w _ hx154_1)).trans hx154_1
              replace hx154_2 := (HB.out.cell (World.block_lt_of_cell? w _ hx154_2)).trans hx154_2
              replace hx154_3 := (HB.out.cell (World.block_lt_of_cell? w _ hx154_3)).trans hx154_3
              replace hx154_4 := (HB.out.cell (World.block_lt_of_cell? w _ hx154_4)).trans hx154_4
              replace hx154_5 := (HB.out.cell (World.block_lt_of_cell? w _ hx154_5)).trans hx154_5
              replace hx154_6 := (HB.out.cell (World.block_lt_of_cell? w _ hx154_6)).trans hx154_6
              replace hx154_7 := (HB.out.cell (World.block_lt_of_cell? w _ hx154_7)).trans hx154_7
              replace hx154_8 := (HB.out.cell (World.block_lt_of_cell? w _ hx154_8)).trans hx154_8
              replace hx154_9 := (HB.out.cell (World.block_lt_of_cell? w _ hx154_9)).trans hx154_9
              replace hx154_10 := (HB.out.cell (World.block_lt_of_cell? w _ hx154_10)).trans hx154_10
              replace hx154_11 := (HB.out.cell (World.block_lt_of_cell? w _ hx154_11)).trans hx154_11
              replace hx154_12 := (HB.out.cell (World.block_lt_of_cell? w _ hx154_12)).trans hx154_12
              replace hx154_13 := (HB.out.cell (World.block_lt_of_cell? w _ hx154_13)).trans hx154_13
              have HR154_7 := Aside0.mk hi154_7
              have HC154_7 := Aside0.mk hl154_7
              clear hi154_7 hl154_7
              have HR154_8 := Aside0.mk hi154_8
              have HC154_8 := Aside0.mk hl154_8
              clear hi154_8 hl154_8
              have HR154_11 := Aside0.mk hi154_11
              have HC154_11 := Aside0.mk hl154_11
              clear hi154_11 hl154_11
              have HR154_13 := Aside0.mk hi154_13
              have HC154_13 := Aside0.mk hl154_13
              clear hi154_13 hl154_13
              replace p154 := eq_true p154
              replace q154 := eq_true q154
              go_wp2
              go_ret
              exact ⟨by first | rfl | (simp [errW_none, errW_some] <;> rfl) | (simp only [← hji7]; first | rfl | (simp [errW_none, errW_some] <;> rfl)) | (simp [*, errW_none, errW_some] <;> rfl), by repeat (first | (with_reducible first | exact HB.out | apply below_alloc | apply pw_below_drewN | apply below_drew1 | refine below_set ?_ GE153.out) | exact HB.out)⟩
          · rw [if_neg c9] at H
            exact absurd H (by simp)
        · rw [if_neg c8] at H
          exact absurd H (by simp)
end Go.Proofs.Ytfnmploaklboiaa.V
