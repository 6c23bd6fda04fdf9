import Derived.Test.YtfnmploaklboiaaZkVx0
namespace Go.Proofs.Ytfnmploaklboiaa.V
open Go.RowKit Go.Proofs.YtfnmploaklboiaaW.PrintWords Go.Proofs.YtfnmploaklboiaaW.PrintLast Go.Proofs.YtfnmploaklboiaaW.PrintMore Go.Proofs.Ytfnmploaklboiaa.A
attribute [local go_sem] max2_int min2_int max_two min_two max_three min_three max_four min_four   -- for this text's walks alone
set_option linter.unusedVariables false
set_option linter.unusedSimpArgs false
/-! ### haspref22_right: function 15 -/
mutual
def haspref22_right.j0 : Nat → Int → Bool → Int → Int → Int → Int → Int → ByteArray → Int → List (S81) → List (S81) → Bool → Bool → List (S81) → Int → List Bool → Option (Bool)
  | 0, _, _, _, _, _, _, _, _, _, _, _, _, _, _, _, _ => none
  | k + 1, x1, x32, x122000, x122001, x122002, x122003, x122004, x122005, x122006, x122007, x122008, x122009, x122010, x122011, x122012, x122013 => if x32 = true then (some false) else (if x122000 = 1 then (haspref22_right.j1 k x1 (x122003 == 0) x122000 x122001 x122002 x122003 x122004 x122005 x122006 x122007 x122008 x122009 x122010 x122011 x122012 x122013) else (haspref22_right.j1 k x1 false x122000 x122001 x122002 x122003 x122004 x122005 x122006 x122007 x122008 x122009 x122010 x122011 x122012 x122013))
def haspref22_right.j1 : Nat → Int → Bool → Int → Int → Int → Int → Int → ByteArray → Int → List (S81) → List (S81) → Bool → Bool → List (S81) → Int → List Bool → Option (Bool)
  | 0, _, _, _, _, _, _, _, _, _, _, _, _, _, _, _, _ => none
  | k + 1, x1, x40, x122000, x122001, x122002, x122003, x122004, x122005, x122006, x122007, x122008, x122009, x122010, x122011, x122012, x122013 => if x40 = true then (some false) else (if x122000 = 2 then (if x122001 < 0 then (haspref22_right.j2 k x1 true x122000 x122001 x122002 x122003 x122004 x122005 x122006 x122007 x122008 x122009 x122010 x122011 x122012 x122013) else (haspref22_right.j2 k x1 (decide (x122001 > 3)) x122000 x122001 x122002 x122003 x122004 x122005 x122006 x122007 x122008 x122009 x122010 x122011 x122012 x122013)) else (if x122000 = 3 then (if x122001 < 0 then (haspref22_right.j2 k x1 true x122000 x122001 x122002 x122003 x122004 x122005 x122006 x122007 x122008 x122009 x122010 x122011 x122012 x122013) else (haspref22_right.j2 k x1 (decide (x122001 > 3)) x122000 x122001 x122002 x122003 x122004 x122005 x122006 x122007 x122008 x122009 x122010 x122011 x122012 x122013)) else (if x122000 = 4 then (if x122001 < 0 then (haspref22_right.j2 k x1 true x122000 x122001 x122002 x122003 x122004 x122005 x122006 x122007 x122008 x122009 x122010 x122011 x122012 x122013) else (haspref22_right.j2 k x1 (decide (x122001 > 3)) x122000 x122001 x122002 x122003 x122004 x122005 x122006 x122007 x122008 x122009 x122010 x122011 x122012 x122013)) else (haspref22_right.j2 k x1 false x122000 x122001 x122002 x122003 x122004 x122005 x122006 x122007 x122008 x122009 x122010 x122011 x122012 x122013))))
def haspref22_right.j2 : Nat → Int → Bool → Int → Int → Int → Int → Int → ByteArray → Int → List (S81) → List (S81) → Bool → Bool → List (S81) → Int → List Bool → Option (Bool)
  | 0, _, _, _, _, _, _, _, _, _, _, _, _, _, _, _, _ => none
  | k + 1, x1, x63, x122000, x122001, x122002, x122003, x122004, x122005, x122006, x122007, x122008, x122009, x122010, x122011, x122012, x122013 => if x63 = true then (some false) else (if x122000 = 3 then (if x122002 < 0 then (some false) else (if x122002 ≥ x1 then (some false) else (if x122000 = 2 then (if (x122006 < (-1)) then (some false) else (if x122000 = 4 then (some (!((x122011.length : Int) != 1))) else (some (!false)))) else (if x122000 = 4 then (some (!((x122011.length : Int) != 1))) else (some (!false)))))) else (if x122000 = 4 then (if x122002 < 0 then (some false) else (if x122002 ≥ x1 then (some false) else (if x122000 = 2 then (if (x122006 < (-1)) then (some false) else (some (!((x122011.length : Int) != 1)))) else (some (!((x122011.length : Int) != 1)))))) else (if x122000 = 8 then (if x122002 < 0 then (some false) else (if x122002 ≥ x1 then (some false) else (if x122000 = 2 then (if (x122006 < (-1)) then (some false) else (some (!false))) else (some (!false))))) else (if x122000 = 2 then (if (x122006 < (-1)) then (some false) else (some (!false))) else (some (!false))))))
end
def haspref22_right.f (k : Nat) (a0_0 : Int) (a0_1 : Int) (a0_2 : Int) (a0_3 : Int) (a0_4 : Int) (a0_5 : ByteArray) (a0_6 : Int) (l0_7 : List (S81)) (l0_8 : List (S81)) (a0_9 : Bool) (a0_10 : Bool) (l0_11 : List (S81)) (a0_12 : Int) (l0_13 : List Bool) (a1 : Int) : Option (Bool) := if a0_0 < 1 then (haspref22_right.j0 k a1 true a0_0 a0_1 a0_2 a0_3 a0_4 a0_5 a0_6 l0_7 l0_8 a0_9 a0_10 l0_11 a0_12 l0_13) else (if a0_0 > 12 then (haspref22_right.j0 k a1 true a0_0 a0_1 a0_2 a0_3 a0_4 a0_5 a0_6 l0_7 l0_8 a0_9 a0_10 l0_11 a0_12 l0_13) else (if a0_3 < 0 then (haspref22_right.j0 k a1 true a0_0 a0_1 a0_2 a0_3 a0_4 a0_5 a0_6 l0_7 l0_8 a0_9 a0_10 l0_11 a0_12 l0_13) else (if a0_3 > 6 then (haspref22_right.j0 k a1 true a0_0 a0_1 a0_2 a0_3 a0_4 a0_5 a0_6 l0_7 l0_8 a0_9 a0_10 l0_11 a0_12 l0_13) else (if a0_4 < 0 then (haspref22_right.j0 k a1 true a0_0 a0_1 a0_2 a0_3 a0_4 a0_5 a0_6 l0_7 l0_8 a0_9 a0_10 l0_11 a0_12 l0_13) else (haspref22_right.j0 k a1 (decide (a0_4 > 6)) a0_0 a0_1 a0_2 a0_3 a0_4 a0_5 a0_6 l0_7 l0_8 a0_9 a0_10 l0_11 a0_12 l0_13)))))
set_option maxHeartbeats 8000000 in
set_option maxRecDepth 100000 in
theorem haspref22_right.calls (k : Nat) (a0_0 : Int) (a0_1 : Int) (a0_2 : Int) (a0_3 : Int) (a0_4 : Int) (a0_5 : ByteArray) (a0_6 : Int) (A0_7 : Option Addr) (c0_7 : Nat) (l0_7 : List (S81)) (A0_8 : Option Addr) (c0_8 : Nat) (l0_8 : List (S81)) (a0_9 : Bool) (a0_10 : Bool) (A0_11 : Option Addr) (c0_11 : Nat) (l0_11 : List (S81)) (a0_12 : Int) (A0_13 : Option Addr) (c0_13 : Nat) (l0_13 : List Bool) (a1 : Int) (r : Bool) (w : World) (hr0_7 : Kd.C k81 w A0_7 l0_7.length l0_7) (hc0_7 : l0_7.length ≤ c0_7) (hr0_8 : Kd.C k81 w A0_8 l0_8.length l0_8) (hc0_8 : l0_8.length ≤ c0_8) (hr0_11 : Kd.C k81 w A0_11 l0_11.length l0_11) (hc0_11 : l0_11.length ≤ c0_11) (hr0_13 : Kd.C Kd.bool w A0_13 l0_13.length l0_13) (hc0_13 : l0_13.length ≤ c0_13) (h : haspref22_right.f k a0_0 a0_1 a0_2 a0_3 a0_4 a0_5 a0_6 l0_7 l0_8 a0_9 a0_10 l0_11 a0_12 l0_13 a1 = some r) :
    Calls Try.prog 15 #[.agg #[.int .i64 a0_0, .int .i64 a0_1, .int .i64 a0_2, .int .i64 a0_3, .int .i64 a0_4, .string a0_5, .int .i64 a0_6, .slice A0_7 l0_7.length c0_7, .slice A0_8 l0_8.length c0_8, .bool a0_9, .bool a0_10, .slice A0_11 l0_11.length c0_11, .int .i64 a0_12, .slice A0_13 l0_13.length c0_13], .int .i64 a1] w fun e w' => e = .returned (.bool r) ∧ Below w.heap.size w w' := by
  have hu33 := Try.underlying33
  have HR0_7 := Aside0.mk hr0_7
  have HC0_7 := Aside0.mk hc0_7
  clear hr0_7 hc0_7
  have HR0_8 := Aside0.mk hr0_8
  have HC0_8 := Aside0.mk hc0_8
  clear hr0_8 hc0_8
  have HR0_11 := Aside0.mk hr0_11
  have HC0_11 := Aside0.mk hc0_11
  clear hr0_11 hc0_11
  have HR0_13 := Aside0.mk hr0_13
  have HC0_13 := Aside0.mk hc0_13
  clear hr0_13 hc0_13
  have HB := Aside0.mk (Below.refl w.heap.size w)
  have H : (if a0_0 < 1 then (haspref22_right.j0 k a1 true a0_0 a0_1 a0_2 a0_3 a0_4 a0_5 a0_6 l0_7 l0_8 a0_9 a0_10 l0_11 a0_12 l0_13) else (if a0_0 > 12 then (haspref22_right.j0 k a1 true a0_0 a0_1 a0_2 a0_3 a0_4 a0_5 a0_6 l0_7 l0_8 a0_9 a0_10 l0_11 a0_12 l0_13) else (if a0_3 < 0 then (haspref22_right.j0 k a1 true a0_0 a0_1 a0_2 a0_3 a0_4 a0_5 a0_6 l0_7 l0_8 a0_9 a0_10 l0_11 a0_12 l0_13) else (if a0_3 > 6 then (haspref22_right.j0 k a1 true a0_0 a0_1 a0_2 a0_3 a0_4 a0_5 a0_6 l0_7 l0_8 a0_9 a0_10 l0_11 a0_12 l0_13) else (if a0_4 < 0 then (haspref22_right.j0 k a1 true a0_0 a0_1 a0_2 a0_3 a0_4 a0_5 a0_6 l0_7 l0_8 a0_9 a0_10 l0_11 a0_12 l0_13) else (haspref22_right.j0 k a1 (decide (a0_4 > 6)) a0_0 a0_1 a0_2 a0_3 a0_4 a0_5 a0_6 l0_7 l0_8 a0_9 a0_10 l0_11 a0_12 l0_13)))))) = some r := h
  clear h
  have HC3 := Aside0.mk H
  clear H
  go_enter Try.func15, Try.ntmps15
  go_upto_region 1 with (first | ((with_reducible refine gate_dst (N := 2) rfl ?_); (try (refine gate_guard (by rfl) ?_; dsimp only)); refine box_event ?hg (N := 2) ?hd (cs := #[.int .i64 a0_0, .int .i64 a0_1, .int .i64 a0_2, .int .i64 a0_3, .int .i64 a0_4, .string a0_5, .int .i64 a0_6, .slice A0_7 l0_7.length c0_7, .slice A0_8 l0_8.length c0_8, .bool a0_9, .bool a0_10, .slice A0_11 l0_11.length c0_11, .int .i64 a0_12, .slice A0_13 l0_13.length c0_13]) (t := 33) ?hr ?_; (case hd => rfl); (case hg => rfl); (case hr => first | (go_simp; done) | (go_simp; rfl)); intro gb121 hg w4 hbox hb; have n0_ := Aside0.mk (below_step (by repeat (first | (with_reducible first | exact HB.out | apply below_alloc | apply pw_below_drewN | apply below_drew1) | exact HB.out)) hb); have n1_ := Aside0.mk (hbox); have n2_ := Aside0.mk ((by rw [hg]; exact (below_size (by repeat (first | (with_reducible first | exact HB.out | apply below_alloc | apply pw_below_drewN | apply below_drew1) | exact HB.out))) : w.heap.size ≤ gb121)); have n3_ := Aside0.mk ((by rw [hg]; exact (below_size (by repeat (first | (with_reducible first | exact HB.out | apply below_alloc | apply pw_below_drewN | apply below_drew1) | exact HB.out))) : w.heap.size ≤ gb121)); clear HB; have HB := n0_; have BK121 := n1_; have GW121 := n2_; have GE121 := n3_; clear n0_ n1_ n2_ n3_; clear hb hbox hg))
  (try simp only [Act.put, List.setIfInBounds_toArray, List.set_cons_zero, List.set_cons_succ])
  go_cut [32] (fun v32 wc => ∃ (kq : Nat) (x32_2 : Bool), v32 = .bool x32_2 ∧ Aside0 (haspref22_right.j0 kq a1 x32_2 a0_0 a0_1 a0_2 a0_3 a0_4 a0_5 a0_6 l0_7 l0_8 a0_9 a0_10 l0_11 a0_12 l0_13 = some r) ∧ Aside0 (kq ≤ k) ∧ Aside0 (wc.heap[gb121]? = some (.cells #[.int .i64 a0_0, .int .i64 a0_1, .int .i64 a0_2, .int .i64 a0_3, .int .i64 a0_4, .string a0_5, .int .i64 a0_6, (.slice A0_7 l0_7.length c0_7), (.slice A0_8 l0_8.length c0_8), .bool a0_9, .bool a0_10, (.slice A0_11 l0_11.length c0_11), .int .i64 a0_12, (.slice A0_13 l0_13.length c0_13)] 33 (0, 0))) ∧ Aside0 (Below w.heap.size w wc))
  case first =>
    have H := HC3.out
    clear HC3
    by_cases c5 : a0_0 < 1
    · rw [if_pos c5] at H
      have c5b0 : decide (a0_0 < 1) = true := decide_eq_true c5
      clear c5
      (first | rw [c5b0] | (simp only [i64_w, i32_w]; rw [c5b0]) | skip)
      have H' := Aside0.mk H
      clear H
      have hcz6_0 : w4.cell? ⟨gb121, 0, none⟩ = some (.int .i64 a0_0) := (blk_cell BK121.out 0).trans rfl
      have hcz6_1 : w4.cell? ⟨gb121, 1, none⟩ = some (.int .i64 a0_1) := (blk_cell BK121.out 1).trans rfl
      have hcz6_2 : w4.cell? ⟨gb121, 2, none⟩ = some (.int .i64 a0_2) := (blk_cell BK121.out 2).trans rfl
      have hcz6_3 : w4.cell? ⟨gb121, 3, none⟩ = some (.int .i64 a0_3) := (blk_cell BK121.out 3).trans rfl
      have hcz6_4 : w4.cell? ⟨gb121, 4, none⟩ = some (.int .i64 a0_4) := (blk_cell BK121.out 4).trans rfl
      have hcz6_5 : w4.cell? ⟨gb121, 5, none⟩ = some (.string a0_5) := (blk_cell BK121.out 5).trans rfl
      have hcz6_6 : w4.cell? ⟨gb121, 6, none⟩ = some (.int .i64 a0_6) := (blk_cell BK121.out 6).trans rfl
      have hcz6_7 : w4.cell? ⟨gb121, 7, none⟩ = some (.slice A0_7 l0_7.length c0_7) := (blk_cell BK121.out 7).trans rfl
      have hcz6_8 : w4.cell? ⟨gb121, 8, none⟩ = some (.slice A0_8 l0_8.length c0_8) := (blk_cell BK121.out 8).trans rfl
      have hcz6_9 : w4.cell? ⟨gb121, 9, none⟩ = some (.bool a0_9) := (blk_cell BK121.out 9).trans rfl
      have hcz6_10 : w4.cell? ⟨gb121, 10, none⟩ = some (.bool a0_10) := (blk_cell BK121.out 10).trans rfl
      have hcz6_11 : w4.cell? ⟨gb121, 11, none⟩ = some (.slice A0_11 l0_11.length c0_11) := (blk_cell BK121.out 11).trans rfl
      have hcz6_12 : w4.cell? ⟨gb121, 12, none⟩ = some (.int .i64 a0_12) := (blk_cell BK121.out 12).trans rfl
      have hcz6_13 : w4.cell? ⟨gb121, 13, none⟩ = some (.slice A0_13 l0_13.length c0_13) := (blk_cell BK121.out 13).trans rfl
      have hfz6_0 := blk_frozen BK121.out 0
      have hfz6_1 := blk_frozen BK121.out 1
      have hfz6_2 := blk_frozen BK121.out 2
      have hfz6_3 := blk_frozen BK121.out 3
      have hfz6_4 := blk_frozen BK121.out 4
      have hfz6_5 := blk_frozen BK121.out 5
      have hfz6_6 := blk_frozen BK121.out 6
      have hfz6_7 := blk_frozen BK121.out 7
      have hfz6_8 := blk_frozen BK121.out 8
      have hfz6_9 := blk_frozen BK121.out 9
      have hfz6_10 := blk_frozen BK121.out 10
      have hfz6_11 := blk_frozen BK121.out 11
      have hfz6_12 := blk_frozen BK121.out 12
      have hfz6_13 := blk_frozen BK121.out 13
      go_wp2
      go_meet
      case rel => exact ⟨_, (true), (by first | rfl | (simp; done) | (simp [*]; done) | (simp; exact isEmpty_bne _) | (simp [*]; exact isEmpty_bne _)), H', ⟨by first | omega | exact Nat.le_refl _⟩, ⟨by (with_reducible repeat (first | refine blk_drewN ?_ _ | refine blk_drew ?_ | refine blk_alloc ?_ _)); exact BK121.out⟩, ⟨by repeat (first | (with_reducible first | exact HB.out | apply below_alloc | apply pw_below_drewN | apply below_drew1 | refine below_set ?_ GE121.out) | exact HB.out)⟩⟩
    · rw [if_neg c5] at H
      have c5b0 : decide (a0_0 < 1) = false := decide_eq_false c5
      clear c5
      (first | rw [c5b0] | (simp only [i64_w, i32_w]; rw [c5b0]) | skip)
      by_cases c7 : a0_0 > 12
      · rw [if_pos c7] at H
        have c7b0 : decide (12 < a0_0) = true := decide_eq_true c7
        clear c7
        have H' := Aside0.mk H
        clear H
        have hcz8_0 : w4.cell? ⟨gb121, 0, none⟩ = some (.int .i64 a0_0) := (blk_cell BK121.out 0).trans rfl
        have hcz8_1 : w4.cell? ⟨gb121, 1, none⟩ = some (.int .i64 a0_1) := (blk_cell BK121.out 1).trans rfl
        have hcz8_2 : w4.cell? ⟨gb121, 2, none⟩ = some (.int .i64 a0_2) := (blk_cell BK121.out 2).trans rfl
        have hcz8_3 : w4.cell? ⟨gb121, 3, none⟩ = some (.int .i64 a0_3) := (blk_cell BK121.out 3).trans rfl
        have hcz8_4 : w4.cell? ⟨gb121, 4, none⟩ = some (.int .i64 a0_4) := (blk_cell BK121.out 4).trans rfl
        have hcz8_5 : w4.cell? ⟨gb121, 5, none⟩ = some (.string a0_5) := (blk_cell BK121.out 5).trans rfl
        have hcz8_6 : w4.cell? ⟨gb121, 6, none⟩ = some (.int .i64 a0_6) := (blk_cell BK121.out 6).trans rfl
        have hcz8_7 : w4.cell? ⟨gb121, 7, none⟩ = some (.slice A0_7 l0_7.length c0_7) := (blk_cell BK121.out 7).trans rfl
        have hcz8_8 : w4.cell? ⟨gb121, 8, none⟩ = some (.slice A0_8 l0_8.length c0_8) := (blk_cell BK121.out 8).trans rfl
        have hcz8_9 : w4.cell? ⟨gb121, 9, none⟩ = some (.bool a0_9) := (blk_cell BK121.out 9).trans rfl
        have hcz8_10 : w4.cell? ⟨gb121, 10, none⟩ = some (.bool a0_10) := (blk_cell BK121.out 10).trans rfl
        have hcz8_11 : w4.cell? ⟨gb121, 11, none⟩ = some (.slice A0_11 l0_11.length c0_11) := (blk_cell BK121.out 11).trans rfl
        have hcz8_12 : w4.cell? ⟨gb121, 12, none⟩ = some (.int .i64 a0_12) := (blk_cell BK121.out 12).trans rfl
        have hcz8_13 : w4.cell? ⟨gb121, 13, none⟩ = some (.slice A0_13 l0_13.length c0_13) := (blk_cell BK121.out 13).trans rfl
        have hfz8_0 := blk_frozen BK121.out 0
        have hfz8_1 := blk_frozen BK121.out 1
        have hfz8_2 := blk_frozen BK121.out 2
        have hfz8_3 := blk_frozen BK121.out 3
        have hfz8_4 := blk_frozen BK121.out 4
        have hfz8_5 := blk_frozen BK121.out 5
        have hfz8_6 := blk_frozen BK121.out 6
        have hfz8_7 := blk_frozen BK121.out 7
        have hfz8_8 := blk_frozen BK121.out 8
        have hfz8_9 := blk_frozen BK121.out 9
        have hfz8_10 := blk_frozen BK121.out 10
        have hfz8_11 := blk_frozen BK121.out 11
        have hfz8_12 := blk_frozen BK121.out 12
        have hfz8_13 := blk_frozen BK121.out 13
        go_wp2
        go_meet
        case rel => exact ⟨_, (true), (by first | rfl | (simp; done) | (simp [*]; done) | (simp; exact isEmpty_bne _) | (simp [*]; exact isEmpty_bne _)), H', ⟨by first | omega | exact Nat.le_refl _⟩, ⟨by (with_reducible repeat (first | refine blk_drewN ?_ _ | refine blk_drew ?_ | refine blk_alloc ?_ _)); exact BK121.out⟩, ⟨by repeat (first | (with_reducible first | exact HB.out | apply below_alloc | apply pw_below_drewN | apply below_drew1 | refine below_set ?_ GE121.out) | exact HB.out)⟩⟩
      · rw [if_neg c7] at H
        have c7b0 : decide (12 < a0_0) = false := decide_eq_false c7
        clear c7
        by_cases c9 : a0_3 < 0
        · rw [if_pos c9] at H
          have c9b0 : decide (a0_3 < 0) = true := decide_eq_true c9
          clear c9
          have H' := Aside0.mk H
          clear H
          have hcz10_0 : w4.cell? ⟨gb121, 0, none⟩ = some (.int .i64 a0_0) := (blk_cell BK121.out 0).trans rfl
          have hcz10_1 : w4.cell? ⟨gb121, 1, none⟩ = some (.int .i64 a0_1) := (blk_cell BK121.out 1).trans rfl
          have hcz10_2 : w4.cell? ⟨gb121, 2, none⟩ = some (.int .i64 a0_2) := (blk_cell BK121.out 2).trans rfl
          have hcz10_3 : w4.cell? ⟨gb121, 3, none⟩ = some (.int .i64 a0_3) := (blk_cell BK121.out 3).trans rfl
          have hcz10_4 : w4.cell? ⟨gb121, 4, none⟩ = some (.int .i64 a0_4) := (blk_cell BK121.out 4).trans rfl
          have hcz10_5 : w4.cell? ⟨gb121, 5, none⟩ = some (.string a0_5) := (blk_cell BK121.out 5).trans rfl
          have hcz10_6 : w4.cell? ⟨gb121, 6, none⟩ = some (.int .i64 a0_6) := (blk_cell BK121.out 6).trans rfl
          have hcz10_7 : w4.cell? ⟨gb121, 7, none⟩ = some (.slice A0_7 l0_7.length c0_7) := (blk_cell BK121.out 7).trans rfl
          have hcz10_8 : w4.cell? ⟨gb121, 8, none⟩ = some (.slice A0_8 l0_8.length c0_8) := (blk_cell BK121.out 8).trans rfl
          have hcz10_9 : w4.cell? ⟨gb121, 9, none⟩ = some (.bool a0_9) := (blk_cell BK121.out 9).trans rfl
          have hcz10_10 : w4.cell? ⟨gb121, 10, none⟩ = some (.bool a0_10) := (blk_cell BK121.out 10).trans rfl
          have hcz10_11 : w4.cell? ⟨gb121, 11, none⟩ = some (.slice A0_11 l0_11.length c0_11) := (blk_cell BK121.out 11).trans rfl
          have hcz10_12 : w4.cell? ⟨gb121, 12, none⟩ = some (.int .i64 a0_12) := (blk_cell BK121.out 12).trans rfl
          have hcz10_13 : w4.cell? ⟨gb121, 13, none⟩ = some (.slice A0_13 l0_13.length c0_13) := (blk_cell BK121.out 13).trans rfl
          have hfz10_0 := blk_frozen BK121.out 0
          have hfz10_1 := blk_frozen BK121.out 1
          have hfz10_2 := blk_frozen BK121.out 2
          have hfz10_3 := blk_frozen BK121.out 3
          have hfz10_4 := blk_frozen BK121.out 4
          have hfz10_5 := blk_frozen BK121.out 5
          have hfz10_6 := blk_frozen BK121.out 6
          have hfz10_7 := blk_frozen BK121.out 7
          have hfz10_8 := blk_frozen BK121.out 8
          have hfz10_9 := blk_frozen BK121.out 9
          have hfz10_10 := blk_frozen BK121.out 10
          have hfz10_11 := blk_frozen BK121.out 11
          have hfz10_12 := blk_frozen BK121.out 12
          have hfz10_13 := blk_frozen BK121.out 13
          go_wp2
          go_meet
          case rel => exact ⟨_, (true), (by first | rfl | (simp; done) | (simp [*]; done) | (simp; exact isEmpty_bne _) | (simp [*]; exact isEmpty_bne _)), H', ⟨by first | omega | exact Nat.le_refl _⟩, ⟨by (with_reducible repeat (first | refine blk_drewN ?_ _ | refine blk_drew ?_ | refine blk_alloc ?_ _)); exact BK121.out⟩, ⟨by repeat (first | (with_reducible first | exact HB.out | apply below_alloc | apply pw_below_drewN | apply below_drew1 | refine below_set ?_ GE121.out) | exact HB.out)⟩⟩
        · rw [if_neg c9] at H
          have c9b0 : decide (a0_3 < 0) = false := decide_eq_false c9
          clear c9
          by_cases c11 : a0_3 > 6
          · rw [if_pos c11] at H
            have c11b0 : decide (6 < a0_3) = true := decide_eq_true c11
            clear c11
            have H' := Aside0.mk H
            clear H
            have hcz12_0 : w4.cell? ⟨gb121, 0, none⟩ = some (.int .i64 a0_0) := (blk_cell BK121.out 0).trans rfl
            have hcz12_1 : w4.cell? ⟨gb121, 1, none⟩ = some (.int .i64 a0_1) := (blk_cell BK121.out 1).trans rfl
            have hcz12_2 : w4.cell? ⟨gb121, 2, none⟩ = some (.int .i64 a0_2) := (blk_cell BK121.out 2).trans rfl
            have hcz12_3 : w4.cell? ⟨gb121, 3, none⟩ = some (.int .i64 a0_3) := (blk_cell BK121.out 3).trans rfl
            have hcz12_4 : w4.cell? ⟨gb121, 4, none⟩ = some (.int .i64 a0_4) := (blk_cell BK121.out 4).trans rfl
            have hcz12_5 : w4.cell? ⟨gb121, 5, none⟩ = some (.string a0_5) := (blk_cell BK121.out 5).trans rfl
            have hcz12_6 : w4.cell? ⟨gb121, 6, none⟩ = some (.int .i64 a0_6) := (blk_cell BK121.out 6).trans rfl
            have hcz12_7 : w4.cell? ⟨gb121, 7, none⟩ = some (.slice A0_7 l0_7.length c0_7) := (blk_cell BK121.out 7).trans rfl
            have hcz12_8 : w4.cell? ⟨gb121, 8, none⟩ = some (.slice A0_8 l0_8.length c0_8) := (blk_cell BK121.out 8).trans rfl
            have hcz12_9 : w4.cell? ⟨gb121, 9, none⟩ = some (.bool a0_9) := (blk_cell BK121.out 9).trans rfl
            have hcz12_10 : w4.cell? ⟨gb121, 10, none⟩ = some (.bool a0_10) := (blk_cell BK121.out 10).trans rfl
            have hcz12_11 : w4.cell? ⟨gb121, 11, none⟩ = some (.slice A0_11 l0_11.length c0_11) := (blk_cell BK121.out 11).trans rfl
            have hcz12_12 : w4.cell? ⟨gb121, 12, none⟩ = some (.int .i64 a0_12) := (blk_cell BK121.out 12).trans rfl
            have hcz12_13 : w4.cell? ⟨gb121, 13, none⟩ = some (.slice A0_13 l0_13.length c0_13) := (blk_cell BK121.out 13).trans rfl
            have hfz12_0 := blk_frozen BK121.out 0
            have hfz12_1 := blk_frozen BK121.out 1
            have hfz12_2 := blk_frozen BK121.out 2
            have hfz12_3 := blk_frozen BK121.out 3
            have hfz12_4 := blk_frozen BK121.out 4
            have hfz12_5 := blk_frozen BK121.out 5
            have hfz12_6 := blk_frozen BK121.out 6
            have hfz12_7 := blk_frozen BK121.out 7
            have hfz12_8 := blk_frozen BK121.out 8
            have hfz12_9 := blk_frozen BK121.out 9
            have hfz12_10 := blk_frozen BK121.out 10
            have hfz12_11 := blk_frozen BK121.out 11
            have hfz12_12 := blk_frozen BK121.out 12
            have hfz12_13 := blk_frozen BK121.out 13
            go_wp2
            go_meet
            case rel => exact ⟨_, (true), (by first | rfl | (simp; done) | (simp [*]; done) | (simp; exact isEmpty_bne _) | (simp [*]; exact isEmpty_bne _)), H', ⟨by first | omega | exact Nat.le_refl _⟩, ⟨by (with_reducible repeat (first | refine blk_drewN ?_ _ | refine blk_drew ?_ | refine blk_alloc ?_ _)); exact BK121.out⟩, ⟨by repeat (first | (with_reducible first | exact HB.out | apply below_alloc | apply pw_below_drewN | apply below_drew1 | refine below_set ?_ GE121.out) | exact HB.out)⟩⟩
          · rw [if_neg c11] at H
            have c11b0 : decide (6 < a0_3) = false := decide_eq_false c11
            clear c11
            by_cases c13 : a0_4 < 0
            · rw [if_pos c13] at H
              have c13b0 : decide (a0_4 < 0) = true := decide_eq_true c13
              clear c13
              have H' := Aside0.mk H
              clear H
              have hcz14_0 : w4.cell? ⟨gb121, 0, none⟩ = some (.int .i64 a0_0) := (blk_cell BK121.out 0).trans rfl
              have hcz14_1 : w4.cell? ⟨gb121, 1, none⟩ = some (.int .i64 a0_1) := (blk_cell BK121.out 1).trans rfl
              have hcz14_2 : w4.cell? ⟨gb121, 2, none⟩ = some (.int .i64 a0_2) := (blk_cell BK121.out 2).trans rfl
              have hcz14_3 : w4.cell? ⟨gb121, 3, none⟩ = some (.int .i64 a0_3) := (blk_cell BK121.out 3).trans rfl
              have hcz14_4 : w4.cell? ⟨gb121, 4, none⟩ = some (.int .i64 a0_4) := (blk_cell BK121.out 4).trans rfl
              have hcz14_5 : w4.cell? ⟨gb121, 5, none⟩ = some (.string a0_5) := (blk_cell BK121.out 5).trans rfl
              have hcz14_6 : w4.cell? ⟨gb121, 6, none⟩ = some (.int .i64 a0_6) := (blk_cell BK121.out 6).trans rfl
              have hcz14_7 : w4.cell? ⟨gb121, 7, none⟩ = some (.slice A0_7 l0_7.length c0_7) := (blk_cell BK121.out 7).trans rfl
              have hcz14_8 : w4.cell? ⟨gb121, 8, none⟩ = some (.slice A0_8 l0_8.length c0_8) := (blk_cell BK121.out 8).trans rfl
              have hcz14_9 : w4.cell? ⟨gb121, 9, none⟩ = some (.bool a0_9) := (blk_cell BK121.out 9).trans rfl
              have hcz14_10 : w4.cell? ⟨gb121, 10, none⟩ = some (.bool a0_10) := (blk_cell BK121.out 10).trans rfl
              have hcz14_11 : w4.cell? ⟨gb121, 11, none⟩ = some (.slice A0_11 l0_11.length c0_11) := (blk_cell BK121.out 11).trans rfl
              have hcz14_12 : w4.cell? ⟨gb121, 12, none⟩ = some (.int .i64 a0_12) := (blk_cell BK121.out 12).trans rfl
              have hcz14_13 : w4.cell? ⟨gb121, 13, none⟩ = some (.slice A0_13 l0_13.length c0_13) := (blk_cell BK121.out 13).trans rfl
              have hfz14_0 := blk_frozen BK121.out 0
              have hfz14_1 := blk_frozen BK121.out 1
              have hfz14_2 := blk_frozen BK121.out 2
              have hfz14_3 := blk_frozen BK121.out 3
              have hfz14_4 := blk_frozen BK121.out 4
              have hfz14_5 := blk_frozen BK121.out 5
              have hfz14_6 := blk_frozen BK121.out 6
              have hfz14_7 := blk_frozen BK121.out 7
              have hfz14_8 := blk_frozen BK121.out 8
              have hfz14_9 := blk_frozen BK121.out 9
              have hfz14_10 := blk_frozen BK121.out 10
              have hfz14_11 := blk_frozen BK121.out 11
              have hfz14_12 := blk_frozen BK121.out 12
              have hfz14_13 := blk_frozen BK121.out 13
              go_wp2
              go_meet
              case rel => exact ⟨_, (true), (by first | rfl | (simp; done) | (simp [*]; done) | (simp; exact isEmpty_bne _) | (simp [*]; exact isEmpty_bne _)), H', ⟨by first | omega | exact Nat.le_refl _⟩, ⟨by (with_reducible repeat (first | refine blk_drewN ?_ _ | refine blk_drew ?_ | refine blk_alloc ?_ _)); exact BK121.out⟩, ⟨by repeat (first | (with_reducible first | exact HB.out | apply below_alloc | apply pw_below_drewN | apply below_drew1 | refine below_set ?_ GE121.out) | exact HB.out)⟩⟩
            · rw [if_neg c13] at H
              have c13b0 : decide (a0_4 < 0) = false := decide_eq_false c13
              clear c13
              have H' := Aside0.mk H
              clear H
              have hcz15_0 : w4.cell? ⟨gb121, 0, none⟩ = some (.int .i64 a0_0) := (blk_cell BK121.out 0).trans rfl
              have hcz15_1 : w4.cell? ⟨gb121, 1, none⟩ = some (.int .i64 a0_1) := (blk_cell BK121.out 1).trans rfl
              have hcz15_2 : w4.cell? ⟨gb121, 2, none⟩ = some (.int .i64 a0_2) := (blk_cell BK121.out 2).trans rfl
              have hcz15_3 : w4.cell? ⟨gb121, 3, none⟩ = some (.int .i64 a0_3) := (blk_cell BK121.out 3).trans rfl
              have hcz15_4 : w4.cell? ⟨gb121, 4, none⟩ = some (.int .i64 a0_4) := (blk_cell BK121.out 4).trans rfl
              have hcz15_5 : w4.cell? ⟨gb121, 5, none⟩ = some (.string a0_5) := (blk_cell BK121.out 5).trans rfl
              have hcz15_6 : w4.cell? ⟨gb121, 6, none⟩ = some (.int .i64 a0_6) := (blk_cell BK121.out 6).trans rfl
              have hcz15_7 : w4.cell? ⟨gb121, 7, none⟩ = some (.slice A0_7 l0_7.length c0_7) := (blk_cell BK121.out 7).trans rfl
              have hcz15_8 : w4.cell? ⟨gb121, 8, none⟩ = some (.slice A0_8 l0_8.length c0_8) := (blk_cell BK121.out 8).trans rfl
              have hcz15_9 : w4.cell? ⟨gb121, 9, none⟩ = some (.bool a0_9) := (blk_cell BK121.out 9).trans rfl
              have hcz15_10 : w4.cell? ⟨gb121, 10, none⟩ = some (.bool a0_10) := (blk_cell BK121.out 10).trans rfl
              have hcz15_11 : w4.cell? ⟨gb121, 11, none⟩ = some (.slice A0_11 l0_11.length c0_11) := (blk_cell BK121.out 11).trans rfl
              have hcz15_12 : w4.cell? ⟨gb121, 12, none⟩ = some (.int .i64 a0_12) := (blk_cell BK121.out 12).trans rfl
              have hcz15_13 : w4.cell? ⟨gb121, 13, none⟩ = some (.slice A0_13 l0_13.length c0_13) := (blk_cell BK121.out 13).trans rfl
              have hfz15_0 := blk_frozen BK121.out 0
              have hfz15_1 := blk_frozen BK121.out 1
              have hfz15_2 := blk_frozen BK121.out 2
              have hfz15_3 := blk_frozen BK121.out 3
              have hfz15_4 := blk_frozen BK121.out 4
              have hfz15_5 := blk_frozen BK121.out 5
              have hfz15_6 := blk_frozen BK121.out 6
              have hfz15_7 := blk_frozen BK121.out 7
              have hfz15_8 := blk_frozen BK121.out 8
              have hfz15_9 := blk_frozen BK121.out 9
              have hfz15_10 := blk_frozen BK121.out 10
              have hfz15_11 := blk_frozen BK121.out 11
              have hfz15_12 := blk_frozen BK121.out 12
              have hfz15_13 := blk_frozen BK121.out 13
              go_wp2
              go_meet
              case rel => exact ⟨_, (decide (a0_4 > 6)), (by first | rfl | (simp; done) | (simp [*]; done) | (simp; exact isEmpty_bne _) | (simp [*]; exact isEmpty_bne _)), H', ⟨by first | omega | exact Nat.le_refl _⟩, ⟨by (with_reducible repeat (first | refine blk_drewN ?_ _ | refine blk_drew ?_ | refine blk_alloc ?_ _)); exact BK121.out⟩, ⟨by repeat (first | (with_reducible first | exact HB.out | apply below_alloc | apply pw_below_drewN | apply below_drew1 | refine below_set ?_ GE121.out) | exact HB.out)⟩⟩
  case rest =>
    clear HC3
    try clear c1
    try clear p2
    try clear c5
    try clear c5b0
    try clear c7
    try clear c7b0
    try clear c9
    try clear c9b0
    try clear c11
    try clear c11b0
    try clear c13
    try clear c13b0
    try clear c15
    try clear hcz10_0
    try clear hcz10_1
    try clear hcz10_10
    try clear hcz10_11
    try clear hcz10_12
    try clear hcz10_13
    try clear hcz10_2
    try clear hcz10_3
    try clear hcz10_4
    try clear hcz10_5
    try clear hcz10_6
    try clear hcz10_7
    try clear hcz10_8
    try clear hcz10_9
    try clear hcz12_0
    try clear hcz12_1
    try clear hcz12_10
    try clear hcz12_11
    try clear hcz12_12
    try clear hcz12_13
    try clear hcz12_2
    try clear hcz12_3
    try clear hcz12_4
    try clear hcz12_5
    try clear hcz12_6
    try clear hcz12_7
    try clear hcz12_8
    try clear hcz12_9
    try clear hcz14_0
    try clear hcz14_1
    try clear hcz14_10
    try clear hcz14_11
    try clear hcz14_12
    try clear hcz14_13
    try clear hcz14_2
    try clear hcz14_3
    try clear hcz14_4
    try clear hcz14_5
    try clear hcz14_6
    try clear hcz14_7
    try clear hcz14_8
    try clear hcz14_9
    try clear hcz15_0
    try clear hcz15_1
    try clear hcz15_10
    try clear hcz15_11
    try clear hcz15_12
    try clear hcz15_13
    try clear hcz15_2
    try clear hcz15_3
    try clear hcz15_4
    try clear hcz15_5
    try clear hcz15_6
    try clear hcz15_7
    try clear hcz15_8
    try clear hcz15_9
    try clear hcz6_0
    try clear hcz6_1
    try clear hcz6_10
    try clear hcz6_11
    try clear hcz6_12
    try clear hcz6_13
    try clear hcz6_2
    try clear hcz6_3
    try clear hcz6_4
    try clear hcz6_5
    try clear hcz6_6
    try clear hcz6_7
    try clear hcz6_8
    try clear hcz6_9
    try clear hcz8_0
    try clear hcz8_1
    try clear hcz8_10
    try clear hcz8_11
    try clear hcz8_12
    try clear hcz8_13
    try clear hcz8_2
    try clear hcz8_3
    try clear hcz8_4
    try clear hcz8_5
    try clear hcz8_6
    try clear hcz8_7
    try clear hcz8_8
    try clear hcz8_9
    try clear hfz10_0
    try clear hfz10_1
    try clear hfz10_10
    try clear hfz10_11
    try clear hfz10_12
    try clear hfz10_13
    try clear hfz10_2
    try clear hfz10_3
    try clear hfz10_4
    try clear hfz10_5
    try clear hfz10_6
    try clear hfz10_7
    try clear hfz10_8
    try clear hfz10_9
    try clear hfz12_0
    try clear hfz12_1
    try clear hfz12_10
    try clear hfz12_11
    try clear hfz12_12
    try clear hfz12_13
    try clear hfz12_2
    try clear hfz12_3
    try clear hfz12_4
    try clear hfz12_5
    try clear hfz12_6
    try clear hfz12_7
    try clear hfz12_8
    try clear hfz12_9
    try clear hfz14_0
    try clear hfz14_1
    try clear hfz14_10
    try clear hfz14_11
    try clear hfz14_12
    try clear hfz14_13
    try clear hfz14_2
    try clear hfz14_3
    try clear hfz14_4
    try clear hfz14_5
    try clear hfz14_6
    try clear hfz14_7
    try clear hfz14_8
    try clear hfz14_9
    try clear hfz15_0
    try clear hfz15_1
    try clear hfz15_10
    try clear hfz15_11
    try clear hfz15_12
    try clear hfz15_13
    try clear hfz15_2
    try clear hfz15_3
    try clear hfz15_4
    try clear hfz15_5
    try clear hfz15_6
    try clear hfz15_7
    try clear hfz15_8
    try clear hfz15_9
    try clear hfz6_0
    try clear hfz6_1
    try clear hfz6_10
    try clear hfz6_11
    try clear hfz6_12
    try clear hfz6_13
    try clear hfz6_2
    try clear hfz6_3
    try clear hfz6_4
    try clear hfz6_5
    try clear hfz6_6
    try clear hfz6_7
    try clear hfz6_8
    try clear hfz6_9
    try clear hfz8_0
    try clear hfz8_1
    try clear hfz8_10
    try clear hfz8_11
    try clear hfz8_12
    try clear hfz8_13
    try clear hfz8_2
    try clear hfz8_3
    try clear hfz8_4
    try clear hfz8_5
    try clear hfz8_6
    try clear hfz8_7
    try clear hfz8_8
    try clear hfz8_9
    obtain ⟨kq, x32_2, rfl, HA, HJ2, BK121, HB⟩ := hcut
    cases kq with
    | zero => exact absurd HA.out (by simp [haspref22_right.j0])
    | succ kj2 =>
      have H := HA.out
      clear HA
      simp only [haspref22_right.j0] at H
      by_cases c16 : x32_2 = true
      · subst c16
        have H1 : (some false) = some r := by rw [if_pos rfl] at H; exact H
        clear H
        have H := H1
        clear H1
        obtain rfl := Option.some.inj H
        go_wp2
        go_ret
        exact ⟨by first | rfl | (simp [errW_none, errW_some] <;> rfl) | (simp [*, errW_none, errW_some] <;> rfl), by repeat (first | (with_reducible first | exact HB.out | apply below_alloc | apply pw_below_drewN | apply below_drew1 | refine below_set ?_ GE121.out) | exact HB.out)⟩
      · replace c16 := Bool.eq_false_iff.mpr c16
        subst c16
        have H1 : (if a0_0 = 1 then (haspref22_right.j1 kj2 a1 (a0_3 == 0) a0_0 a0_1 a0_2 a0_3 a0_4 a0_5 a0_6 l0_7 l0_8 a0_9 a0_10 l0_11 a0_12 l0_13) else (haspref22_right.j1 kj2 a1 false a0_0 a0_1 a0_2 a0_3 a0_4 a0_5 a0_6 l0_7 l0_8 a0_9 a0_10 l0_11 a0_12 l0_13)) = some r := by rw [if_neg (show ¬ (false = true) by decide)] at H; exact H
        clear H
        have H := H1
        clear H1
        have HC17 := Aside0.mk H
        clear H
        go_upto_region 3 with (fail)
        go_cut [40] (fun v40 wc => ∃ (kq : Nat) (x40_16 : Bool), v40 = .bool x40_16 ∧ Aside0 (haspref22_right.j1 kq a1 x40_16 a0_0 a0_1 a0_2 a0_3 a0_4 a0_5 a0_6 l0_7 l0_8 a0_9 a0_10 l0_11 a0_12 l0_13 = some r) ∧ Aside0 (kq ≤ kj2) ∧ Aside0 (wc.heap[gb121]? = some (.cells #[.int .i64 a0_0, .int .i64 a0_1, .int .i64 a0_2, .int .i64 a0_3, .int .i64 a0_4, .string a0_5, .int .i64 a0_6, (.slice A0_7 l0_7.length c0_7), (.slice A0_8 l0_8.length c0_8), .bool a0_9, .bool a0_10, (.slice A0_11 l0_11.length c0_11), .int .i64 a0_12, (.slice A0_13 l0_13.length c0_13)] 33 (0, 0))) ∧ Aside0 (Below w.heap.size w wc))
        case first =>
          have H := HC17.out
          clear HC17
          by_cases c18 : a0_0 = 1
          · rw [if_pos c18] at H
            have c18b0 : (a0_0 == 1) = true := beq_iff_eq.mpr c18
            have c18b1 : (a0_0 != 1) = false := bne_eq_false_iff_eq.mpr c18
            clear c18
            (first | rw [c18b0] | (simp only [i64_w, i32_w]; rw [c18b0]) | skip)
            have H' := Aside0.mk H
            clear H
            have hcz19_0 : wc.cell? ⟨gb121, 0, none⟩ = some (.int .i64 a0_0) := (blk_cell BK121.out 0).trans rfl
            have hcz19_1 : wc.cell? ⟨gb121, 1, none⟩ = some (.int .i64 a0_1) := (blk_cell BK121.out 1).trans rfl
            have hcz19_2 : wc.cell? ⟨gb121, 2, none⟩ = some (.int .i64 a0_2) := (blk_cell BK121.out 2).trans rfl
            have hcz19_3 : wc.cell? ⟨gb121, 3, none⟩ = some (.int .i64 a0_3) := (blk_cell BK121.out 3).trans rfl
            have hcz19_4 : wc.cell? ⟨gb121, 4, none⟩ = some (.int .i64 a0_4) := (blk_cell BK121.out 4).trans rfl
            have hcz19_5 : wc.cell? ⟨gb121, 5, none⟩ = some (.string a0_5) := (blk_cell BK121.out 5).trans rfl
            have hcz19_6 : wc.cell? ⟨gb121, 6, none⟩ = some (.int .i64 a0_6) := (blk_cell BK121.out 6).trans rfl
            have hcz19_7 : wc.cell? ⟨gb121, 7, none⟩ = some (.slice A0_7 l0_7.length c0_7) := (blk_cell BK121.out 7).trans rfl
            have hcz19_8 : wc.cell? ⟨gb121, 8, none⟩ = some (.slice A0_8 l0_8.length c0_8) := (blk_cell BK121.out 8).trans rfl
            have hcz19_9 : wc.cell? ⟨gb121, 9, none⟩ = some (.bool a0_9) := (blk_cell BK121.out 9).trans rfl
            have hcz19_10 : wc.cell? ⟨gb121, 10, none⟩ = some (.bool a0_10) := (blk_cell BK121.out 10).trans rfl
            have hcz19_11 : wc.cell? ⟨gb121, 11, none⟩ = some (.slice A0_11 l0_11.length c0_11) := (blk_cell BK121.out 11).trans rfl
            have hcz19_12 : wc.cell? ⟨gb121, 12, none⟩ = some (.int .i64 a0_12) := (blk_cell BK121.out 12).trans rfl
            have hcz19_13 : wc.cell? ⟨gb121, 13, none⟩ = some (.slice A0_13 l0_13.length c0_13) := (blk_cell BK121.out 13).trans rfl
            have hfz19_0 := blk_frozen BK121.out 0
            have hfz19_1 := blk_frozen BK121.out 1
            have hfz19_2 := blk_frozen BK121.out 2
            have hfz19_3 := blk_frozen BK121.out 3
            have hfz19_4 := blk_frozen BK121.out 4
            have hfz19_5 := blk_frozen BK121.out 5
            have hfz19_6 := blk_frozen BK121.out 6
            have hfz19_7 := blk_frozen BK121.out 7
            have hfz19_8 := blk_frozen BK121.out 8
            have hfz19_9 := blk_frozen BK121.out 9
            have hfz19_10 := blk_frozen BK121.out 10
            have hfz19_11 := blk_frozen BK121.out 11
            have hfz19_12 := blk_frozen BK121.out 12
            have hfz19_13 := blk_frozen BK121.out 13
            go_wp2
            go_meet
            case rel => exact ⟨_, ((a0_3 == 0)), (by first | rfl | (simp; done) | (simp [*]; done) | (simp; exact isEmpty_bne _) | (simp [*]; exact isEmpty_bne _)), H', ⟨by have := HJ2.out; first | omega | exact Nat.le_refl _⟩, ⟨by (with_reducible repeat (first | refine blk_drewN ?_ _ | refine blk_drew ?_ | refine blk_alloc ?_ _)); exact BK121.out⟩, ⟨by repeat (first | (with_reducible first | exact HB.out | apply below_alloc | apply pw_below_drewN | apply below_drew1 | refine below_set ?_ GE121.out) | exact HB.out)⟩⟩
          · rw [if_neg c18] at H
            have c18b0 : (a0_0 == 1) = false := beq_eq_false_iff_ne.mpr c18
            have c18b1 : (a0_0 != 1) = true := bne_iff_ne.mpr c18
            (first | rw [c18b0] | (simp only [i64_w, i32_w]; rw [c18b0]) | skip)
            have H' := Aside0.mk H
            clear H
            have hcz20_0 : wc.cell? ⟨gb121, 0, none⟩ = some (.int .i64 a0_0) := (blk_cell BK121.out 0).trans rfl
            have hcz20_1 : wc.cell? ⟨gb121, 1, none⟩ = some (.int .i64 a0_1) := (blk_cell BK121.out 1).trans rfl
            have hcz20_2 : wc.cell? ⟨gb121, 2, none⟩ = some (.int .i64 a0_2) := (blk_cell BK121.out 2).trans rfl
            have hcz20_3 : wc.cell? ⟨gb121, 3, none⟩ = some (.int .i64 a0_3) := (blk_cell BK121.out 3).trans rfl
            have hcz20_4 : wc.cell? ⟨gb121, 4, none⟩ = some (.int .i64 a0_4) := (blk_cell BK121.out 4).trans rfl
            have hcz20_5 : wc.cell? ⟨gb121, 5, none⟩ = some (.string a0_5) := (blk_cell BK121.out 5).trans rfl
            have hcz20_6 : wc.cell? ⟨gb121, 6, none⟩ = some (.int .i64 a0_6) := (blk_cell BK121.out 6).trans rfl
            have hcz20_7 : wc.cell? ⟨gb121, 7, none⟩ = some (.slice A0_7 l0_7.length c0_7) := (blk_cell BK121.out 7).trans rfl
            have hcz20_8 : wc.cell? ⟨gb121, 8, none⟩ = some (.slice A0_8 l0_8.length c0_8) := (blk_cell BK121.out 8).trans rfl
            have hcz20_9 : wc.cell? ⟨gb121, 9, none⟩ = some (.bool a0_9) := (blk_cell BK121.out 9).trans rfl
            have hcz20_10 : wc.cell? ⟨gb121, 10, none⟩ = some (.bool a0_10) := (blk_cell BK121.out 10).trans rfl
            have hcz20_11 : wc.cell? ⟨gb121, 11, none⟩ = some (.slice A0_11 l0_11.length c0_11) := (blk_cell BK121.out 11).trans rfl
            have hcz20_12 : wc.cell? ⟨gb121, 12, none⟩ = some (.int .i64 a0_12) := (blk_cell BK121.out 12).trans rfl
            have hcz20_13 : wc.cell? ⟨gb121, 13, none⟩ = some (.slice A0_13 l0_13.length c0_13) := (blk_cell BK121.out 13).trans rfl
            have hfz20_0 := blk_frozen BK121.out 0
            have hfz20_1 := blk_frozen BK121.out 1
            have hfz20_2 := blk_frozen BK121.out 2
            have hfz20_3 := blk_frozen BK121.out 3
            have hfz20_4 := blk_frozen BK121.out 4
            have hfz20_5 := blk_frozen BK121.out 5
            have hfz20_6 := blk_frozen BK121.out 6
            have hfz20_7 := blk_frozen BK121.out 7
            have hfz20_8 := blk_frozen BK121.out 8
            have hfz20_9 := blk_frozen BK121.out 9
            have hfz20_10 := blk_frozen BK121.out 10
            have hfz20_11 := blk_frozen BK121.out 11
            have hfz20_12 := blk_frozen BK121.out 12
            have hfz20_13 := blk_frozen BK121.out 13
            go_wp2
            go_meet
            case rel => exact ⟨_, (false), (by first | rfl | (simp; done) | (simp [*]; done) | (simp; exact isEmpty_bne _) | (simp [*]; exact isEmpty_bne _)), H', ⟨by have := HJ2.out; first | omega | exact Nat.le_refl _⟩, ⟨by (with_reducible repeat (first | refine blk_drewN ?_ _ | refine blk_drew ?_ | refine blk_alloc ?_ _)); exact BK121.out⟩, ⟨by repeat (first | (with_reducible first | exact HB.out | apply below_alloc | apply pw_below_drewN | apply below_drew1 | refine below_set ?_ GE121.out) | exact HB.out)⟩⟩
        case rest =>
          clear HC17
          try clear c1
          try clear p2
          try clear c5
          try clear c5b0
          try clear c7
          try clear c7b0
          try clear c9
          try clear c9b0
          try clear c11
          try clear c11b0
          try clear c13
          try clear c13b0
          try clear c15
          try clear c16
          try clear c18
          try clear c18b0
          try clear c18b1
          try clear hcz10_0
          try clear hcz10_1
          try clear hcz10_10
          try clear hcz10_11
          try clear hcz10_12
          try clear hcz10_13
          try clear hcz10_2
          try clear hcz10_3
          try clear hcz10_4
          try clear hcz10_5
          try clear hcz10_6
          try clear hcz10_7
          try clear hcz10_8
          try clear hcz10_9
          try clear hcz12_0
          try clear hcz12_1
          try clear hcz12_10
          try clear hcz12_11
          try clear hcz12_12
          try clear hcz12_13
          try clear hcz12_2
          try clear hcz12_3
          try clear hcz12_4
          try clear hcz12_5
          try clear hcz12_6
          try clear hcz12_7
          try clear hcz12_8
          try clear hcz12_9
          try clear hcz14_0
          try clear hcz14_1
          try clear hcz14_10
          try clear hcz14_11
          try clear hcz14_12
          try clear hcz14_13
          try clear hcz14_2
          try clear hcz14_3
          try clear hcz14_4
          try clear hcz14_5
          try clear hcz14_6
          try clear hcz14_7
          try clear hcz14_8
          try clear hcz14_9
          try clear hcz15_0
          try clear hcz15_1
          try clear hcz15_10
          try clear hcz15_11
          try clear hcz15_12
          try clear hcz15_13
          try clear hcz15_2
          try clear hcz15_3
          try clear hcz15_4
          try clear hcz15_5
          try clear hcz15_6
          try clear hcz15_7
          try clear hcz15_8
          try clear hcz15_9
          try clear hcz19_0
          try clear hcz19_1
          try clear hcz19_10
          try clear hcz19_11
          try clear hcz19_12
          try clear hcz19_13
          try clear hcz19_2
          try clear hcz19_3
          try clear hcz19_4
          try clear hcz19_5
          try clear hcz19_6
          try clear hcz19_7
          try clear hcz19_8
          try clear hcz19_9
          try clear hcz20_0
          try clear hcz20_1
          try clear hcz20_10
          try clear hcz20_11
          try clear hcz20_12
          try clear hcz20_13
          try clear hcz20_2
          try clear hcz20_3
          try clear hcz20_4
          try clear hcz20_5
          try clear hcz20_6
          try clear hcz20_7
          try clear hcz20_8
          try clear hcz20_9
          try clear hcz6_0
          try clear hcz6_1
          try clear hcz6_10
          try clear hcz6_11
          try clear hcz6_12
          try clear hcz6_13
          try clear hcz6_2
          try clear hcz6_3
          try clear hcz6_4
          try clear hcz6_5
          try clear hcz6_6
          try clear hcz6_7
          try clear hcz6_8
          try clear hcz6_9
          try clear hcz8_0
          try clear hcz8_1
          try clear hcz8_10
          try clear hcz8_11
          try clear hcz8_12
          try clear hcz8_13
          try clear hcz8_2
          try clear hcz8_3
          try clear hcz8_4
          try clear hcz8_5
          try clear hcz8_6
          try clear hcz8_7
          try clear hcz8_8
          try clear hcz8_9
          try clear hfz10_0
          try clear hfz10_1
          try clear hfz10_10
          try clear hfz10_11
          try clear hfz10_12
          try clear hfz10_13
          try clear hfz10_2
          try clear hfz10_3
          try clear hfz10_4
          try clear hfz10_5
          try clear hfz10_6
          try clear hfz10_7
          try clear hfz10_8
          try clear hfz10_9
          try clear hfz12_0
          try clear hfz12_1
          try clear hfz12_10
          try clear hfz12_11
          try clear hfz12_12
          try clear hfz12_13
          try clear hfz12_2
          try clear hfz12_3
          try clear hfz12_4
          try clear hfz12_5
          try clear hfz12_6
          try clear hfz12_7
          try clear hfz12_8
          try clear hfz12_9
          try clear hfz14_0
          try clear hfz14_1
          try clear hfz14_10
          try clear hfz14_11
          try clear hfz14_12
          try clear hfz14_13
          try clear hfz14_2
          try clear hfz14_3
          try clear hfz14_4
          try clear hfz14_5
          try clear hfz14_6
          try clear hfz14_7
          try clear hfz14_8
          try clear hfz14_9
          try clear hfz15_0
          try clear hfz15_1
          try clear hfz15_10
          try clear hfz15_11
          try clear hfz15_12
          try clear hfz15_13
          try clear hfz15_2
          try clear hfz15_3
          try clear hfz15_4
          try clear hfz15_5
          try clear hfz15_6
          try clear hfz15_7
          try clear hfz15_8
          try clear hfz15_9
          try clear hfz19_0
          try clear hfz19_1
          try clear hfz19_10
          try clear hfz19_11
          try clear hfz19_12
          try clear hfz19_13
          try clear hfz19_2
          try clear hfz19_3
          try clear hfz19_4
          try clear hfz19_5
          try clear hfz19_6
          try clear hfz19_7
          try clear hfz19_8
          try clear hfz19_9
          try clear hfz20_0
          try clear hfz20_1
          try clear hfz20_10
          try clear hfz20_11
          try clear hfz20_12
          try clear hfz20_13
          try clear hfz20_2
          try clear hfz20_3
          try clear hfz20_4
          try clear hfz20_5
          try clear hfz20_6
          try clear hfz20_7
          try clear hfz20_8
          try clear hfz20_9
          try clear hfz6_0
          try clear hfz6_1
          try clear hfz6_10
          try clear hfz6_11
          try clear hfz6_12
          try clear hfz6_13
          try clear hfz6_2
          try clear hfz6_3
          try clear hfz6_4
          try clear hfz6_5
          try clear hfz6_6
          try clear hfz6_7
          try clear hfz6_8
          try clear hfz6_9
          try clear hfz8_0
          try clear hfz8_1
          try clear hfz8_10
          try clear hfz8_11
          try clear hfz8_12
          try clear hfz8_13
          try clear hfz8_2
          try clear hfz8_3
          try clear hfz8_4
          try clear hfz8_5
          try clear hfz8_6
          try clear hfz8_7
          try clear hfz8_8
          try clear hfz8_9
          try clear p2
          obtain ⟨kq, x40_16, rfl, HA, HJ16, BK121, HB⟩ := hcut
          cases kq with
          | zero => exact absurd HA.out (by simp [haspref22_right.j1])
          | succ kj16 =>
            have H := HA.out
            clear HA
            simp only [haspref22_right.j1] at H
            by_cases c21 : x40_16 = true
            · subst c21
              have H1 : (some false) = some r := by rw [if_pos rfl] at H; exact H
              clear H
              have H := H1
              clear H1
              obtain rfl := Option.some.inj H
              go_wp2
              go_ret
              exact ⟨by first | rfl | (simp [errW_none, errW_some] <;> rfl) | (simp [*, errW_none, errW_some] <;> rfl), by repeat (first | (with_reducible first | exact HB.out | apply below_alloc | apply pw_below_drewN | apply below_drew1 | refine below_set ?_ GE121.out) | exact HB.out)⟩
            · replace c21 := Bool.eq_false_iff.mpr c21
              subst c21
              have H1 : (if a0_0 = 2 then (if a0_1 < 0 then (haspref22_right.j2 kj16 a1 true a0_0 a0_1 a0_2 a0_3 a0_4 a0_5 a0_6 l0_7 l0_8 a0_9 a0_10 l0_11 a0_12 l0_13) else (haspref22_right.j2 kj16 a1 (decide (a0_1 > 3)) a0_0 a0_1 a0_2 a0_3 a0_4 a0_5 a0_6 l0_7 l0_8 a0_9 a0_10 l0_11 a0_12 l0_13)) else (if a0_0 = 3 then (if a0_1 < 0 then (haspref22_right.j2 kj16 a1 true a0_0 a0_1 a0_2 a0_3 a0_4 a0_5 a0_6 l0_7 l0_8 a0_9 a0_10 l0_11 a0_12 l0_13) else (haspref22_right.j2 kj16 a1 (decide (a0_1 > 3)) a0_0 a0_1 a0_2 a0_3 a0_4 a0_5 a0_6 l0_7 l0_8 a0_9 a0_10 l0_11 a0_12 l0_13)) else (if a0_0 = 4 then (if a0_1 < 0 then (haspref22_right.j2 kj16 a1 true a0_0 a0_1 a0_2 a0_3 a0_4 a0_5 a0_6 l0_7 l0_8 a0_9 a0_10 l0_11 a0_12 l0_13) else (haspref22_right.j2 kj16 a1 (decide (a0_1 > 3)) a0_0 a0_1 a0_2 a0_3 a0_4 a0_5 a0_6 l0_7 l0_8 a0_9 a0_10 l0_11 a0_12 l0_13)) else (haspref22_right.j2 kj16 a1 false a0_0 a0_1 a0_2 a0_3 a0_4 a0_5 a0_6 l0_7 l0_8 a0_9 a0_10 l0_11 a0_12 l0_13)))) = some r := by rw [if_neg (show ¬ (false = true) by decide)] at H; exact H
              clear H
              have H := H1
              clear H1
              have HC22 := Aside0.mk H
              clear H
              go_upto_region 5 with (fail)
              go_cut [63] (fun v63 wc => ∃ (kq : Nat) (x63_21 : Bool), v63 = .bool x63_21 ∧ Aside0 (haspref22_right.j2 kq a1 x63_21 a0_0 a0_1 a0_2 a0_3 a0_4 a0_5 a0_6 l0_7 l0_8 a0_9 a0_10 l0_11 a0_12 l0_13 = some r) ∧ Aside0 (kq ≤ kj16) ∧ Aside0 (wc.heap[gb121]? = some (.cells #[.int .i64 a0_0, .int .i64 a0_1, .int .i64 a0_2, .int .i64 a0_3, .int .i64 a0_4, .string a0_5, .int .i64 a0_6, (.slice A0_7 l0_7.length c0_7), (.slice A0_8 l0_8.length c0_8), .bool a0_9, .bool a0_10, (.slice A0_11 l0_11.length c0_11), .int .i64 a0_12, (.slice A0_13 l0_13.length c0_13)] 33 (0, 0))) ∧ Aside0 (Below w.heap.size w wc))
              case first =>
                have H := HC22.out
                clear HC22
                by_cases c23 : a0_0 = 2
                · rw [if_pos c23] at H
                  have c23b0 : (a0_0 == 2) = true := beq_iff_eq.mpr c23
                  have c23b1 : (a0_0 != 2) = false := bne_eq_false_iff_eq.mpr c23
                  clear c23
                  (first | rw [c23b0] | (simp only [i64_w, i32_w]; rw [c23b0]) | skip)
                  by_cases c24 : a0_1 < 0
                  · rw [if_pos c24] at H
                    have c24b0 : decide (a0_1 < 0) = true := decide_eq_true c24
                    clear c24
                    have H' := Aside0.mk H
                    clear H
                    have hcz25_0 : wc.cell? ⟨gb121, 0, none⟩ = some (.int .i64 a0_0) := (blk_cell BK121.out 0).trans rfl
                    have hcz25_1 : wc.cell? ⟨gb121, 1, none⟩ = some (.int .i64 a0_1) := (blk_cell BK121.out 1).trans rfl
                    have hcz25_2 : wc.cell? ⟨gb121, 2, none⟩ = some (.int .i64 a0_2) := (blk_cell BK121.out 2).trans rfl
                    have hcz25_3 : wc.cell? ⟨gb121, 3, none⟩ = some (.int .i64 a0_3) := (blk_cell BK121.out 3).trans rfl
                    have hcz25_4 : wc.cell? ⟨gb121, 4, none⟩ = some (.int .i64 a0_4) := (blk_cell BK121.out 4).trans rfl
                    have hcz25_5 : wc.cell? ⟨gb121, 5, none⟩ = some (.string a0_5) := (blk_cell BK121.out 5).trans rfl
                    have hcz25_6 : wc.cell? ⟨gb121, 6, none⟩ = some (.int .i64 a0_6) := (blk_cell BK121.out 6).trans rfl
                    have hcz25_7 : wc.cell? ⟨gb121, 7, none⟩ = some (.slice A0_7 l0_7.length c0_7) := (blk_cell BK121.out 7).trans rfl
                    have hcz25_8 : wc.cell? ⟨gb121, 8, none⟩ = some (.slice A0_8 l0_8.length c0_8) := (blk_cell BK121.out 8).trans rfl
                    have hcz25_9 : wc.cell? ⟨gb121, 9, none⟩ = some (.bool a0_9) := (blk_cell BK121.out 9).trans rfl
                    have hcz25_10 : wc.cell? ⟨gb121, 10, none⟩ = some (.bool a0_10) := (blk_cell BK121.out 10).trans rfl
                    have hcz25_11 : wc.cell? ⟨gb121, 11, none⟩ = some (.slice A0_11 l0_11.length c0_11) := (blk_cell BK121.out 11).trans rfl
                    have hcz25_12 : wc.cell? ⟨gb121, 12, none⟩ = some (.int .i64 a0_12) := (blk_cell BK121.out 12).trans rfl
                    have hcz25_13 : wc.cell? ⟨gb121, 13, none⟩ = some (.slice A0_13 l0_13.length c0_13) := (blk_cell BK121.out 13).trans rfl
                    have hfz25_0 := blk_frozen BK121.out 0
                    have hfz25_1 := blk_frozen BK121.out 1
                    have hfz25_2 := blk_frozen BK121.out 2
                    have hfz25_3 := blk_frozen BK121.out 3
                    have hfz25_4 := blk_frozen BK121.out 4
                    have hfz25_5 := blk_frozen BK121.out 5
                    have hfz25_6 := blk_frozen BK121.out 6
                    have hfz25_7 := blk_frozen BK121.out 7
                    have hfz25_8 := blk_frozen BK121.out 8
                    have hfz25_9 := blk_frozen BK121.out 9
                    have hfz25_10 := blk_frozen BK121.out 10
                    have hfz25_11 := blk_frozen BK121.out 11
                    have hfz25_12 := blk_frozen BK121.out 12
                    have hfz25_13 := blk_frozen BK121.out 13
                    go_wp2
                    go_meet
                    case rel => exact ⟨_, (true), (by first | rfl | (simp; done) | (simp [*]; done) | (simp; exact isEmpty_bne _) | (simp [*]; exact isEmpty_bne _)), H', ⟨by have := HJ2.out; have := HJ16.out; first | omega | exact Nat.le_refl _⟩, ⟨by (with_reducible repeat (first | refine blk_drewN ?_ _ | refine blk_drew ?_ | refine blk_alloc ?_ _)); exact BK121.out⟩, ⟨by repeat (first | (with_reducible first | exact HB.out | apply below_alloc | apply pw_below_drewN | apply below_drew1 | refine below_set ?_ GE121.out) | exact HB.out)⟩⟩
                  · rw [if_neg c24] at H
                    have c24b0 : decide (a0_1 < 0) = false := decide_eq_false c24
                    clear c24
                    have H' := Aside0.mk H
                    clear H
                    have hcz26_0 : wc.cell? ⟨gb121, 0, none⟩ = some (.int .i64 a0_0) := (blk_cell BK121.out 0).trans rfl
                    have hcz26_1 : wc.cell? ⟨gb121, 1, none⟩ = some (.int .i64 a0_1) := (blk_cell BK121.out 1).trans rfl
                    have hcz26_2 : wc.cell? ⟨gb121, 2, none⟩ = some (.int .i64 a0_2) := (blk_cell BK121.out 2).trans rfl
                    have hcz26_3 : wc.cell? ⟨gb121, 3, none⟩ = some (.int .i64 a0_3) := (blk_cell BK121.out 3).trans rfl
                    have hcz26_4 : wc.cell? ⟨gb121, 4, none⟩ = some (.int .i64 a0_4) := (blk_cell BK121.out 4).trans rfl
                    have hcz26_5 : wc.cell? ⟨gb121, 5, none⟩ = some (.string a0_5) := (blk_cell BK121.out 5).trans rfl
                    have hcz26_6 : wc.cell? ⟨gb121, 6, none⟩ = some (.int .i64 a0_6) := (blk_cell BK121.out 6).trans rfl
                    have hcz26_7 : wc.cell? ⟨gb121, 7, none⟩ = some (.slice A0_7 l0_7.length c0_7) := (blk_cell BK121.out 7).trans rfl
                    have hcz26_8 : wc.cell? ⟨gb121, 8, none⟩ = some (.slice A0_8 l0_8.length c0_8) := (blk_cell BK121.out 8).trans rfl
                    have hcz26_9 : wc.cell? ⟨gb121, 9, none⟩ = some (.bool a0_9) := (blk_cell BK121.out 9).trans rfl
                    have hcz26_10 : wc.cell? ⟨gb121, 10, none⟩ = some (.bool a0_10) := (blk_cell BK121.out 10).trans rfl
                    have hcz26_11 : wc.cell? ⟨gb121, 11, none⟩ = some (.slice A0_11 l0_11.length c0_11) := (blk_cell BK121.out 11).trans rfl
                    have hcz26_12 : wc.cell? ⟨gb121, 12, none⟩ = some (.int .i64 a0_12) := (blk_cell BK121.out 12).trans rfl
                    have hcz26_13 : wc.cell? ⟨gb121, 13, none⟩ = some (.slice A0_13 l0_13.length c0_13) := (blk_cell BK121.out 13).trans rfl
                    have hfz26_0 := blk_frozen BK121.out 0
                    have hfz26_1 := blk_frozen BK121.out 1
                    have hfz26_2 := blk_frozen BK121.out 2
                    have hfz26_3 := blk_frozen BK121.out 3
                    have hfz26_4 := blk_frozen BK121.out 4
                    have hfz26_5 := blk_frozen BK121.out 5
                    have hfz26_6 := blk_frozen BK121.out 6
                    have hfz26_7 := blk_frozen BK121.out 7
                    have hfz26_8 := blk_frozen BK121.out 8
                    have hfz26_9 := blk_frozen BK121.out 9
                    have hfz26_10 := blk_frozen BK121.out 10
                    have hfz26_11 := blk_frozen BK121.out 11
                    have hfz26_12 := blk_frozen BK121.out 12
                    have hfz26_13 := blk_frozen BK121.out 13
                    go_wp2
                    go_meet
                    case rel => exact ⟨_, (decide (a0_1 > 3)), (by first | rfl | (simp; done) | (simp [*]; done) | (simp; exact isEmpty_bne _) | (simp [*]; exact isEmpty_bne _)), H', ⟨by have := HJ2.out; have := HJ16.out; first | omega | exact Nat.le_refl _⟩, ⟨by (with_reducible repeat (first | refine blk_drewN ?_ _ | refine blk_drew ?_ | refine blk_alloc ?_ _)); exact BK121.out⟩, ⟨by repeat (first | (with_reducible first | exact HB.out | apply below_alloc | apply pw_below_drewN | apply below_drew1 | refine below_set ?_ GE121.out) | exact HB.out)⟩⟩
                · rw [if_neg c23] at H
                  have c23b0 : (a0_0 == 2) = false := beq_eq_false_iff_ne.mpr c23
                  have c23b1 : (a0_0 != 2) = true := bne_iff_ne.mpr c23
                  (first | rw [c23b0] | (simp only [i64_w, i32_w]; rw [c23b0]) | skip)
                  by_cases c27 : a0_0 = 3
                  · rw [if_pos c27] at H
                    have c27b0 : (a0_0 == 3) = true := beq_iff_eq.mpr c27
                    have c27b1 : (a0_0 != 3) = false := bne_eq_false_iff_eq.mpr c27
                    clear c27
                    by_cases c28 : a0_1 < 0
                    · rw [if_pos c28] at H
                      have c28b0 : decide (a0_1 < 0) = true := decide_eq_true c28
                      clear c28
                      have H' := Aside0.mk H
                      clear H
                      have hcz29_0 : wc.cell? ⟨gb121, 0, none⟩ = some (.int .i64 a0_0) := (blk_cell BK121.out 0).trans rfl
                      have hcz29_1 : wc.cell? ⟨gb121, 1, none⟩ = some (.int .i64 a0_1) := (blk_cell BK121.out 1).trans rfl
                      have hcz29_2 : wc.cell? ⟨gb121, 2, none⟩ = some (.int .i64 a0_2) := (blk_cell BK121.out 2).trans rfl
                      have hcz29_3 : wc.cell? ⟨gb121, 3, none⟩ = some (.int .i64 a0_3) := (blk_cell BK121.out 3).trans rfl
                      have hcz29_4 : wc.cell? ⟨gb121, 4, none⟩ = some (.int .i64 a0_4) := (blk_cell BK121.out 4).trans rfl
                      have hcz29_5 : wc.cell? ⟨gb121, 5, none⟩ = some (.string a0_5) := (blk_cell BK121.out 5).trans rfl
                      have hcz29_6 : wc.cell? ⟨gb121, 6, none⟩ = some (.int .i64 a0_6) := (blk_cell BK121.out 6).trans rfl
                      have hcz29_7 : wc.cell? ⟨gb121, 7, none⟩ = some (.slice A0_7 l0_7.length c0_7) := (blk_cell BK121.out 7).trans rfl
                      have hcz29_8 : wc.cell? ⟨gb121, 8, none⟩ = some (.slice A0_8 l0_8.length c0_8) := (blk_cell BK121.out 8).trans rfl
                      have hcz29_9 : wc.cell? ⟨gb121, 9, none⟩ = some (.bool a0_9) := (blk_cell BK121.out 9).trans rfl
                      have hcz29_10 : wc.cell? ⟨gb121, 10, none⟩ = some (.bool a0_10) := (blk_cell BK121.out 10).trans rfl
                      have hcz29_11 : wc.cell? ⟨gb121, 11, none⟩ = some (.slice A0_11 l0_11.length c0_11) := (blk_cell BK121.out 11).trans rfl
                      have hcz29_12 : wc.cell? ⟨gb121, 12, none⟩ = some (.int .i64 a0_12) := (blk_cell BK121.out 12).trans rfl
                      have hcz29_13 : wc.cell? ⟨gb121, 13, none⟩ = some (.slice A0_13 l0_13.length c0_13) := (blk_cell BK121.out 13).trans rfl
                      have hfz29_0 := blk_frozen BK121.out 0
                      have hfz29_1 := blk_frozen BK121.out 1
                      have hfz29_2 := blk_frozen BK121.out 2
                      have hfz29_3 := blk_frozen BK121.out 3
                      have hfz29_4 := blk_frozen BK121.out 4
                      have hfz29_5 := blk_frozen BK121.out 5
                      have hfz29_6 := blk_frozen BK121.out 6
                      have hfz29_7 := blk_frozen BK121.out 7
                      have hfz29_8 := blk_frozen BK121.out 8
                      have hfz29_9 := blk_frozen BK121.out 9
                      have hfz29_10 := blk_frozen BK121.out 10
                      have hfz29_11 := blk_frozen BK121.out 11
                      have hfz29_12 := blk_frozen BK121.out 12
                      have hfz29_13 := blk_frozen BK121.out 13
                      go_wp2
                      go_meet
                      case rel => exact ⟨_, (true), (by first | rfl | (simp; done) | (simp [*]; done) | (simp; exact isEmpty_bne _) | (simp [*]; exact isEmpty_bne _)), H', ⟨by have := HJ2.out; have := HJ16.out; first | omega | exact Nat.le_refl _⟩, ⟨by (with_reducible repeat (first | refine blk_drewN ?_ _ | refine blk_drew ?_ | refine blk_alloc ?_ _)); exact BK121.out⟩, ⟨by repeat (first | (with_reducible first | exact HB.out | apply below_alloc | apply pw_below_drewN | apply below_drew1 | refine below_set ?_ GE121.out) | exact HB.out)⟩⟩
                    · rw [if_neg c28] at H
                      have c28b0 : decide (a0_1 < 0) = false := decide_eq_false c28
                      clear c28
                      have H' := Aside0.mk H
                      clear H
                      have hcz30_0 : wc.cell? ⟨gb121, 0, none⟩ = some (.int .i64 a0_0) := (blk_cell BK121.out 0).trans rfl
                      have hcz30_1 : wc.cell? ⟨gb121, 1, none⟩ = some (.int .i64 a0_1) := (blk_cell BK121.out 1).trans rfl
                      have hcz30_2 : wc.cell? ⟨gb121, 2, none⟩ = some (.int .i64 a0_2) := (blk_cell BK121.out 2).trans rfl
                      have hcz30_3 : wc.cell? ⟨gb121, 3, none⟩ = some (.int .i64 a0_3) := (blk_cell BK121.out 3).trans rfl
                      have hcz30_4 : wc.cell? ⟨gb121, 4, none⟩ = some (.int .i64 a0_4) := (blk_cell BK121.out 4).trans rfl
                      have hcz30_5 : wc.cell? ⟨gb121, 5, none⟩ = some (.string a0_5) := (blk_cell BK121.out 5).trans rfl
                      have hcz30_6 : wc.cell? ⟨gb121, 6, none⟩ = some (.int .i64 a0_6) := (blk_cell BK121.out 6).trans rfl
                      have hcz30_7 : wc.cell? ⟨gb121, 7, none⟩ = some (.slice A0_7 l0_7.length c0_7) := (blk_cell BK121.out 7).trans rfl
                      have hcz30_8 : wc.cell? ⟨gb121, 8, none⟩ = some (.slice A0_8 l0_8.length c0_8) := (blk_cell BK121.out 8).trans rfl
                      have hcz30_9 : wc.cell? ⟨gb121, 9, none⟩ = some (.bool a0_9) := (blk_cell BK121.out 9).trans rfl
                      have hcz30_10 : wc.cell? ⟨gb121, 10, none⟩ = some (.bool a0_10) := (blk_cell BK121.out 10).trans rfl
                      have hcz30_11 : wc.cell? ⟨gb121, 11, none⟩ = some (.slice A0_11 l0_11.length c0_11) := (blk_cell BK121.out 11).trans rfl
                      have hcz30_12 : wc.cell? ⟨gb121, 12, none⟩ = some (.int .i64 a0_12) := (blk_cell BK121.out 12).trans rfl
                      have hcz30_13 : wc.cell? ⟨gb121, 13, none⟩ = some (.slice A0_13 l0_13.length c0_13) := (blk_cell BK121.out 13).trans rfl
                      have hfz30_0 := blk_frozen BK121.out 0
                      have hfz30_1 := blk_frozen BK121.out 1
                      have hfz30_2 := blk_frozen BK121.out 2
                      have hfz30_3 := blk_frozen BK121.out 3
                      have hfz30_4 := blk_frozen BK121.out 4
                      have hfz30_5 := blk_frozen BK121.out 5
                      have hfz30_6 := blk_frozen BK121.out 6
                      have hfz30_7 := blk_frozen BK121.out 7
                      have hfz30_8 := blk_frozen BK121.out 8
                      have hfz30_9 := blk_frozen BK121.out 9
                      have hfz30_10 := blk_frozen BK121.out 10
                      have hfz30_11 := blk_frozen BK121.out 11
                      have hfz30_12 := blk_frozen BK121.out 12
                      have hfz30_13 := blk_frozen BK121.out 13
                      go_wp2
                      go_meet
                      case rel => exact ⟨_, (decide (a0_1 > 3)), (by first | rfl | (simp; done) | (simp [*]; done) | (simp; exact isEmpty_bne _) | (simp [*]; exact isEmpty_bne _)), H', ⟨by have := HJ2.out; have := HJ16.out; first | omega | exact Nat.le_refl _⟩, ⟨by (with_reducible repeat (first | refine blk_drewN ?_ _ | refine blk_drew ?_ | refine blk_alloc ?_ _)); exact BK121.out⟩, ⟨by repeat (first | (with_reducible first | exact HB.out | apply below_alloc | apply pw_below_drewN | apply below_drew1 | refine below_set ?_ GE121.out) | exact HB.out)⟩⟩
                  · rw [if_neg c27] at H
                    have c27b0 : (a0_0 == 3) = false := beq_eq_false_iff_ne.mpr c27
                    have c27b1 : (a0_0 != 3) = true := bne_iff_ne.mpr c27
                    by_cases c31 : a0_0 = 4
                    · rw [if_pos c31] at H
                      have c31b0 : (a0_0 == 4) = true := beq_iff_eq.mpr c31
                      have c31b1 : (a0_0 != 4) = false := bne_eq_false_iff_eq.mpr c31
                      clear c31
                      by_cases c32 : a0_1 < 0
                      · rw [if_pos c32] at H
                        have c32b0 : decide (a0_1 < 0) = true := decide_eq_true c32
                        clear c32
                        have H' := Aside0.mk H
                        clear H
                        have hcz33_0 : wc.cell? ⟨gb121, 0, none⟩ = some (.int .i64 a0_0) := (blk_cell BK121.out 0).trans rfl
                        have hcz33_1 : wc.cell? ⟨gb121, 1, none⟩ = some (.int .i64 a0_1) := (blk_cell BK121.out 1).trans rfl
                        have hcz33_2 : wc.cell? ⟨gb121, 2, none⟩ = some (.int .i64 a0_2) := (blk_cell BK121.out 2).trans rfl
                        have hcz33_3 : wc.cell? ⟨gb121, 3, none⟩ = some (.int .i64 a0_3) := (blk_cell BK121.out 3).trans rfl
                        have hcz33_4 : wc.cell? ⟨gb121, 4, none⟩ = some (.int .i64 a0_4) := (blk_cell BK121.out 4).trans rfl
                        have hcz33_5 : wc.cell? ⟨gb121, 5, none⟩ = some (.string a0_5) := (blk_cell BK121.out 5).trans rfl
                        have hcz33_6 : wc.cell? ⟨gb121, 6, none⟩ = some (.int .i64 a0_6) := (blk_cell BK121.out 6).trans rfl
                        have hcz33_7 : wc.cell? ⟨gb121, 7, none⟩ = some (.slice A0_7 l0_7.length c0_7) := (blk_cell BK121.out 7).trans rfl
                        have hcz33_8 : wc.cell? ⟨gb121, 8, none⟩ = some (.slice A0_8 l0_8.length c0_8) := (blk_cell BK121.out 8).trans rfl
                        have hcz33_9 : wc.cell? ⟨gb121, 9, none⟩ = some (.bool a0_9) := (blk_cell BK121.out 9).trans rfl
                        have hcz33_10 : wc.cell? ⟨gb121, 10, none⟩ = some (.bool a0_10) := (blk_cell BK121.out 10).trans rfl
                        have hcz33_11 : wc.cell? ⟨gb121, 11, none⟩ = some (.slice A0_11 l0_11.length c0_11) := (blk_cell BK121.out 11).trans rfl
                        have hcz33_12 : wc.cell? ⟨gb121, 12, none⟩ = some (.int .i64 a0_12) := (blk_cell BK121.out 12).trans rfl
                        have hcz33_13 : wc.cell? ⟨gb121, 13, none⟩ = some (.slice A0_13 l0_13.length c0_13) := (blk_cell BK121.out 13).trans rfl
                        have hfz33_0 := blk_frozen BK121.out 0
                        have hfz33_1 := blk_frozen BK121.out 1
                        have hfz33_2 := blk_frozen BK121.out 2
                        have hfz33_3 := blk_frozen BK121.out 3
                        have hfz33_4 := blk_frozen BK121.out 4
                        have hfz33_5 := blk_frozen BK121.out 5
                        have hfz33_6 := blk_frozen BK121.out 6
                        have hfz33_7 := blk_frozen BK121.out 7
                        have hfz33_8 := blk_frozen BK121.out 8
                        have hfz33_9 := blk_frozen BK121.out 9
                        have hfz33_10 := blk_frozen BK121.out 10
                        have hfz33_11 := blk_frozen BK121.out 11
                        have hfz33_12 := blk_frozen BK121.out 12
                        have hfz33_13 := blk_frozen BK121.out 13
                        go_wp2
                        go_meet
                        case rel => exact ⟨_, (true), (by first | rfl | (simp; done) | (simp [*]; done) | (simp; exact isEmpty_bne _) | (simp [*]; exact isEmpty_bne _)), H', ⟨by have := HJ2.out; have := HJ16.out; first | omega | exact Nat.le_refl _⟩, ⟨by (with_reducible repeat (first | refine blk_drewN ?_ _ | refine blk_drew ?_ | refine blk_alloc ?_ _)); exact BK121.out⟩, ⟨by repeat (first | (with_reducible first | exact HB.out | apply below_alloc | apply pw_below_drewN | apply below_drew1 | refine below_set ?_ GE121.out) | exact HB.out)⟩⟩
                      · rw [if_neg c32] at H
                        have c32b0 : decide (a0_1 < 0) = false := decide_eq_false c32
                        clear c32
                        have H' := Aside0.mk H
                        clear H
                        have hcz34_0 : wc.cell? ⟨gb121, 0, none⟩ = some (.int .i64 a0_0) := (blk_cell BK121.out 0).trans rfl
                        have hcz34_1 : wc.cell? ⟨gb121, 1, none⟩ = some (.int .i64 a0_1) := (blk_cell BK121.out 1).trans rfl
                        have hcz34_2 : wc.cell? ⟨gb121, 2, none⟩ = some (.int .i64 a0_2) := (blk_cell BK121.out 2).trans rfl
                        have hcz34_3 : wc.cell? ⟨gb121, 3, none⟩ = some (.int .i64 a0_3) := (blk_cell BK121.out 3).trans rfl
                        have hcz34_4 : wc.cell? ⟨gb121, 4, none⟩ = some (.int .i64 a0_4) := (blk_cell BK121.out 4).trans rfl
                        have hcz34_5 : wc.cell? ⟨gb121, 5, none⟩ = some (.string a0_5) := (blk_cell BK121.out 5).trans rfl
                        have hcz34_6 : wc.cell? ⟨gb121, 6, none⟩ = some (.int .i64 a0_6) := (blk_cell BK121.out 6).trans rfl
                        have hcz34_7 : wc.cell? ⟨gb121, 7, none⟩ = some (.slice A0_7 l0_7.length c0_7) := (blk_cell BK121.out 7).trans rfl
                        have hcz34_8 : wc.cell? ⟨gb121, 8, none⟩ = some (.slice A0_8 l0_8.length c0_8) := (blk_cell BK121.out 8).trans rfl
                        have hcz34_9 : wc.cell? ⟨gb121, 9, none⟩ = some (.bool a0_9) := (blk_cell BK121.out 9).trans rfl
                        have hcz34_10 : wc.cell? ⟨gb121, 10, none⟩ = some (.bool a0_10) := (blk_cell BK121.out 10).trans rfl
                        have hcz34_11 : wc.cell? ⟨gb121, 11, none⟩ = some (.slice A0_11 l0_11.length c0_11) := (blk_cell BK121.out 11).trans rfl
                        have hcz34_12 : wc.cell? ⟨gb121, 12, none⟩ = some (.int .i64 a0_12) := (blk_cell BK121.out 12).trans rfl
                        have hcz34_13 : wc.cell? ⟨gb121, 13, none⟩ = some (.slice A0_13 l0_13.length c0_13) := (blk_cell BK121.out 13).trans rfl
                        have hfz34_0 := blk_frozen BK121.out 0
                        have hfz34_1 := blk_frozen BK121.out 1
                        have hfz34_2 := blk_frozen BK121.out 2
                        have hfz34_3 := blk_frozen BK121.out 3
                        have hfz34_4 := blk_frozen BK121.out 4
                        have hfz34_5 := blk_frozen BK121.out 5
                        have hfz34_6 := blk_frozen BK121.out 6
                        have hfz34_7 := blk_frozen BK121.out 7
                        have hfz34_8 := blk_frozen BK121.out 8
                        have hfz34_9 := blk_frozen BK121.out 9
                        have hfz34_10 := blk_frozen BK121.out 10
                        have hfz34_11 := blk_frozen BK121.out 11
                        have hfz34_12 := blk_frozen BK121.out 12
                        have hfz34_13 := blk_frozen BK121.out 13
                        go_wp2
                        go_meet
                        case rel => exact ⟨_, (decide (a0_1 > 3)), (by first | rfl | (simp; done) | (simp [*]; done) | (simp; exact isEmpty_bne _) | (simp [*]; exact isEmpty_bne _)), H', ⟨by have := HJ2.out; have := HJ16.out; first | omega | exact Nat.le_refl _⟩, ⟨by (with_reducible repeat (first | refine blk_drewN ?_ _ | refine blk_drew ?_ | refine blk_alloc ?_ _)); exact BK121.out⟩, ⟨by repeat (first | (with_reducible first | exact HB.out | apply below_alloc | apply pw_below_drewN | apply below_drew1 | refine below_set ?_ GE121.out) | exact HB.out)⟩⟩
                    · rw [if_neg c31] at H
                      have c31b0 : (a0_0 == 4) = false := beq_eq_false_iff_ne.mpr c31
                      have c31b1 : (a0_0 != 4) = true := bne_iff_ne.mpr c31
                      have H' := Aside0.mk H
                      clear H
                      have hcz35_0 : wc.cell? ⟨gb121, 0, none⟩ = some (.int .i64 a0_0) := (blk_cell BK121.out 0).trans rfl
                      have hcz35_1 : wc.cell? ⟨gb121, 1, none⟩ = some (.int .i64 a0_1) := (blk_cell BK121.out 1).trans rfl
                      have hcz35_2 : wc.cell? ⟨gb121, 2, none⟩ = some (.int .i64 a0_2) := (blk_cell BK121.out 2).trans rfl
                      have hcz35_3 : wc.cell? ⟨gb121, 3, none⟩ = some (.int .i64 a0_3) := (blk_cell BK121.out 3).trans rfl
                      have hcz35_4 : wc.cell? ⟨gb121, 4, none⟩ = some (.int .i64 a0_4) := (blk_cell BK121.out 4).trans rfl
                      have hcz35_5 : wc.cell? ⟨gb121, 5, none⟩ = some (.string a0_5) := (blk_cell BK121.out 5).trans rfl
                      have hcz35_6 : wc.cell? ⟨gb121, 6, none⟩ = some (.int .i64 a0_6) := (blk_cell BK121.out 6).trans rfl
                      have hcz35_7 : wc.cell? ⟨gb121, 7, none⟩ = some (.slice A0_7 l0_7.length c0_7) := (blk_cell BK121.out 7).trans rfl
                      have hcz35_8 : wc.cell? ⟨gb121, 8, none⟩ = some (.slice A0_8 l0_8.length c0_8) := (blk_cell BK121.out 8).trans rfl
                      have hcz35_9 : wc.cell? ⟨gb121, 9, none⟩ = some (.bool a0_9) := (blk_cell BK121.out 9).trans rfl
                      have hcz35_10 : wc.cell? ⟨gb121, 10, none⟩ = some (.bool a0_10) := (blk_cell BK121.out 10).trans rfl
                      have hcz35_11 : wc.cell? ⟨gb121, 11, none⟩ = some (.slice A0_11 l0_11.length c0_11) := (blk_cell BK121.out 11).trans rfl
                      have hcz35_12 : wc.cell? ⟨gb121, 12, none⟩ = some (.int .i64 a0_12) := (blk_cell BK121.out 12).trans rfl
                      have hcz35_13 : wc.cell? ⟨gb121, 13, none⟩ = some (.slice A0_13 l0_13.length c0_13) := (blk_cell BK121.out 13).trans rfl
                      have hfz35_0 := blk_frozen BK121.out 0
                      have hfz35_1 := blk_frozen BK121.out 1
                      have hfz35_2 := blk_frozen BK121.out 2
                      have hfz35_3 := blk_frozen BK121.out 3
                      have hfz35_4 := blk_frozen BK121.out 4
                      have hfz35_5 := blk_frozen BK121.out 5
                      have hfz35_6 := blk_frozen BK121.out 6
                      have hfz35_7 := blk_frozen BK121.out 7
                      have hfz35_8 := blk_frozen BK121.out 8
                      have hfz35_9 := blk_frozen BK121.out 9
                      have hfz35_10 := blk_frozen BK121.out 10
                      have hfz35_11 := blk_frozen BK121.out 11
                      have hfz35_12 := blk_frozen BK121.out 12
                      have hfz35_13 := blk_frozen BK121.out 13
                      go_wp2
                      go_meet
                      case rel => exact ⟨_, (false), (by first | rfl | (simp; done) | (simp [*]; done) | (simp; exact isEmpty_bne _) | (simp [*]; exact isEmpty_bne _)), H', ⟨by have := HJ2.out; have := HJ16.out; first | omega | exact Nat.le_refl _⟩, ⟨by (with_reducible repeat (first | refine blk_drewN ?_ _ | refine blk_drew ?_ | refine blk_alloc ?_ _)); exact BK121.out⟩, ⟨by repeat (first | (with_reducible first | exact HB.out | apply below_alloc | apply pw_below_drewN | apply below_drew1 | refine below_set ?_ GE121.out) | exact HB.out)⟩⟩
              case rest =>
                clear HC22
                try clear c1
                try clear c2
                try clear p2
                try clear c3
                try clear c5
                try clear c5b0
                try clear c7
                try clear c7b0
                try clear c9
                try clear c9b0
                try clear c11
                try clear c11b0
                try clear c13
                try clear c13b0
                try clear c15
                try clear c16
                try clear c18
                try clear c18b0
                try clear c18b1
                try clear c21
                try clear c23
                try clear c23b0
                try clear c23b1
                try clear c24
                try clear c24b0
                try clear c27
                try clear c27b0
                try clear c27b1
                try clear c28
                try clear c28b0
                try clear c31
                try clear c31b0
                try clear c31b1
                try clear c32
                try clear c32b0
                try clear hcz10_0
                try clear hcz10_1
                try clear hcz10_10
                try clear hcz10_11
                try clear hcz10_12
                try clear hcz10_13
                try clear hcz10_2
                try clear hcz10_3
                try clear hcz10_4
                try clear hcz10_5
                try clear hcz10_6
                try clear hcz10_7
                try clear hcz10_8
                try clear hcz10_9
                try clear hcz12_0
                try clear hcz12_1
                try clear hcz12_10
                try clear hcz12_11
                try clear hcz12_12
                try clear hcz12_13
                try clear hcz12_2
                try clear hcz12_3
                try clear hcz12_4
                try clear hcz12_5
                try clear hcz12_6
                try clear hcz12_7
                try clear hcz12_8
                try clear hcz12_9
                try clear hcz14_0
                try clear hcz14_1
                try clear hcz14_10
                try clear hcz14_11
                try clear hcz14_12
                try clear hcz14_13
                try clear hcz14_2
                try clear hcz14_3
                try clear hcz14_4
                try clear hcz14_5
                try clear hcz14_6
                try clear hcz14_7
                try clear hcz14_8
                try clear hcz14_9
                try clear hcz15_0
                try clear hcz15_1
                try clear hcz15_10
                try clear hcz15_11
                try clear hcz15_12
                try clear hcz15_13
                try clear hcz15_2
                try clear hcz15_3
                try clear hcz15_4
                try clear hcz15_5
                try clear hcz15_6
                try clear hcz15_7
                try clear hcz15_8
                try clear hcz15_9
                try clear hcz19_0
                try clear hcz19_1
                try clear hcz19_10
                try clear hcz19_11
                try clear hcz19_12
                try clear hcz19_13
                try clear hcz19_2
                try clear hcz19_3
                try clear hcz19_4
                try clear hcz19_5
                try clear hcz19_6
                try clear hcz19_7
                try clear hcz19_8
                try clear hcz19_9
                try clear hcz20_0
                try clear hcz20_1
                try clear hcz20_10
                try clear hcz20_11
                try clear hcz20_12
                try clear hcz20_13
                try clear hcz20_2
                try clear hcz20_3
                try clear hcz20_4
                try clear hcz20_5
                try clear hcz20_6
                try clear hcz20_7
                try clear hcz20_8
                try clear hcz20_9
                try clear hcz25_0
                try clear hcz25_1
                try clear hcz25_10
                try clear hcz25_11
                try clear hcz25_12
                try clear hcz25_13
                try clear hcz25_2
                try clear hcz25_3
                try clear hcz25_4
                try clear hcz25_5
                try clear hcz25_6
                try clear hcz25_7
                try clear hcz25_8
                try clear hcz25_9
                try clear hcz26_0
                try clear hcz26_1
                try clear hcz26_10
                try clear hcz26_11
                try clear hcz26_12
                try clear hcz26_13
                try clear hcz26_2
                try clear hcz26_3
                try clear hcz26_4
                try clear hcz26_5
                try clear hcz26_6
                try clear hcz26_7
                try clear hcz26_8
                try clear hcz26_9
                try clear hcz29_0
                try clear hcz29_1
                try clear hcz29_10
                try clear hcz29_11
                try clear hcz29_12
                try clear hcz29_13
                try clear hcz29_2
                try clear hcz29_3
                try clear hcz29_4
                try clear hcz29_5
                try clear hcz29_6
                try clear hcz29_7
                try clear hcz29_8
                try clear hcz29_9
                try clear hcz30_0
                try clear hcz30_1
                try clear hcz30_10
                try clear hcz30_11
                try clear hcz30_12
                try clear hcz30_13
                try clear hcz30_2
                try clear hcz30_3
                try clear hcz30_4
                try clear hcz30_5
                try clear hcz30_6
                try clear hcz30_7
                try clear hcz30_8
                try clear hcz30_9
                try clear hcz33_0
                try clear hcz33_1
                try clear hcz33_10
                try clear hcz33_11
                try clear hcz33_12
                try clear hcz33_13
                try clear hcz33_2
                try clear hcz33_3
                try clear hcz33_4
                try clear hcz33_5
                try clear hcz33_6
                try clear hcz33_7
                try clear hcz33_8
                try clear hcz33_9
                try clear hcz34_0
                try clear hcz34_1
                try clear hcz34_10
                try clear hcz34_11
                try clear hcz34_12
                try clear hcz34_13
                try clear hcz34_2
                try clear hcz34_3
                try clear hcz34_4
                try clear hcz34_5
                try clear hcz34_6
                try clear hcz34_7
                try clear hcz34_8
                try clear hcz34_9
                try clear hcz35_0
                try clear hcz35_1
                try clear hcz35_10
                try clear hcz35_11
                try clear hcz35_12
                try clear hcz35_13
                try clear hcz35_2
                try clear hcz35_3
                try clear hcz35_4
                try clear hcz35_5
                try clear hcz35_6
                try clear hcz35_7
                try clear hcz35_8
                try clear hcz35_9
                try clear hcz6_0
                try clear hcz6_1
                try clear hcz6_10
                try clear hcz6_11
                try clear hcz6_12
                try clear hcz6_13
                try clear hcz6_2
                try clear hcz6_3
                try clear hcz6_4
                try clear hcz6_5
                try clear hcz6_6
                try clear hcz6_7
                try clear hcz6_8
                try clear hcz6_9
                try clear hcz8_0
                try clear hcz8_1
                try clear hcz8_10
                try clear hcz8_11
                try clear hcz8_12
                try clear hcz8_13
                try clear hcz8_2
                try clear hcz8_3
                try clear hcz8_4
                try clear hcz8_5
                try clear hcz8_6
                try clear hcz8_7
                try clear hcz8_8
                try clear hcz8_9
                try clear hfz10_0
                try clear hfz10_1
                try clear hfz10_10
                try clear hfz10_11
                try clear hfz10_12
                try clear hfz10_13
                try clear hfz10_2
                try clear hfz10_3
                try clear hfz10_4
                try clear hfz10_5
                try clear hfz10_6
                try clear hfz10_7
                try clear hfz10_8
                try clear hfz10_9
                try clear hfz12_0
                try clear hfz12_1
                try clear hfz12_10
                try clear hfz12_11
                try clear hfz12_12
                try clear hfz12_13
                try clear hfz12_2
                try clear hfz12_3
                try clear hfz12_4
                try clear hfz12_5
                try clear hfz12_6
                try clear hfz12_7
                try clear hfz12_8
                try clear hfz12_9
                try clear hfz14_0
                try clear hfz14_1
                try clear hfz14_10
                try clear hfz14_11
                try clear hfz14_12
                try clear hfz14_13
                try clear hfz14_2
                try clear hfz14_3
                try clear hfz14_4
                try clear hfz14_5
                try clear hfz14_6
                try clear hfz14_7
                try clear hfz14_8
                try clear hfz14_9
                try clear hfz15_0
                try clear hfz15_1
                try clear hfz15_10
                try clear hfz15_11
                try clear hfz15_12
                try clear hfz15_13
                try clear hfz15_2
                try clear hfz15_3
                try clear hfz15_4
                try clear hfz15_5
                try clear hfz15_6
                try clear hfz15_7
                try clear hfz15_8
                try clear hfz15_9
                try clear hfz19_0
                try clear hfz19_1
                try clear hfz19_10
                try clear hfz19_11
                try clear hfz19_12
                try clear hfz19_13
                try clear hfz19_2
                try clear hfz19_3
                try clear hfz19_4
                try clear hfz19_5
                try clear hfz19_6
                try clear hfz19_7
                try clear hfz19_8
                try clear hfz19_9
                try clear hfz20_0
                try clear hfz20_1
                try clear hfz20_10
                try clear hfz20_11
                try clear hfz20_12
                try clear hfz20_13
                try clear hfz20_2
                try clear hfz20_3
                try clear hfz20_4
                try clear hfz20_5
                try clear hfz20_6
                try clear hfz20_7
                try clear hfz20_8
                try clear hfz20_9
                try clear hfz25_0
                try clear hfz25_1
                try clear hfz25_10
                try clear hfz25_11
                try clear hfz25_12
                try clear hfz25_13
                try clear hfz25_2
                try clear hfz25_3
                try clear hfz25_4
                try clear hfz25_5
                try clear hfz25_6
                try clear hfz25_7
                try clear hfz25_8
                try clear hfz25_9
                try clear hfz26_0
                try clear hfz26_1
                try clear hfz26_10
                try clear hfz26_11
                try clear hfz26_12
                try clear hfz26_13
                try clear hfz26_2
                try clear hfz26_3
                try clear hfz26_4
                try clear hfz26_5
                try clear hfz26_6
                try clear hfz26_7
                try clear hfz26_8
                try clear hfz26_9
                try clear hfz29_0
                try clear hfz29_1
                try clear hfz29_10
                try clear hfz29_11
                try clear hfz29_12
                try clear hfz29_13
                try clear hfz29_2
                try clear hfz29_3
                try clear hfz29_4
                try clear hfz29_5
                try clear hfz29_6
                try clear hfz29_7
                try clear hfz29_8
                try clear hfz29_9
                try clear hfz30_0
                try clear hfz30_1
                try clear hfz30_10
                try clear hfz30_11
                try clear hfz30_12
                try clear hfz30_13
                try clear hfz30_2
                try clear hfz30_3
                try clear hfz30_4
                try clear hfz30_5
                try clear hfz30_6
                try clear hfz30_7
                try clear hfz30_8
                try clear hfz30_9
                try clear hfz33_0
                try clear hfz33_1
                try clear hfz33_10
                try clear hfz33_11
                try clear hfz33_12
                try clear hfz33_13
                try clear hfz33_2
                try clear hfz33_3
                try clear hfz33_4
                try clear hfz33_5
                try clear hfz33_6
                try clear hfz33_7
                try clear hfz33_8
                try clear hfz33_9
                try clear hfz34_0
                try clear hfz34_1
                try clear hfz34_10
                try clear hfz34_11
                try clear hfz34_12
                try clear hfz34_13
                try clear hfz34_2
                try clear hfz34_3
                try clear hfz34_4
                try clear hfz34_5
                try clear hfz34_6
                try clear hfz34_7
                try clear hfz34_8
                try clear hfz34_9
                try clear hfz35_0
                try clear hfz35_1
                try clear hfz35_10
                try clear hfz35_11
                try clear hfz35_12
                try clear hfz35_13
                try clear hfz35_2
                try clear hfz35_3
                try clear hfz35_4
                try clear hfz35_5
                try clear hfz35_6
                try clear hfz35_7
                try clear hfz35_8
                try clear hfz35_9
                try clear hfz6_0
                try clear hfz6_1
                try clear hfz6_10
                try clear hfz6_11
                try clear hfz6_12
                try clear hfz6_13
                try clear hfz6_2
                try clear hfz6_3
                try clear hfz6_4
                try clear hfz6_5
                try clear hfz6_6
                try clear hfz6_7
                try clear hfz6_8
                try clear hfz6_9
                try clear hfz8_0
                try clear hfz8_1
                try clear hfz8_10
                try clear hfz8_11
                try clear hfz8_12
                try clear hfz8_13
                try clear hfz8_2
                try clear hfz8_3
                try clear hfz8_4
                try clear hfz8_5
                try clear hfz8_6
                try clear hfz8_7
                try clear hfz8_8
                try clear hfz8_9
                try clear p2
                obtain ⟨kq, x63_21, rfl, HA, HJ21, BK121, HB⟩ := hcut
                cases kq with
                | zero => exact absurd HA.out (by simp [haspref22_right.j2])
                | succ kj21 =>
                  have H := HA.out
                  clear HA
                  simp only [haspref22_right.j2] at H
                  by_cases c36 : x63_21 = true
                  · subst c36
                    have H1 : (some false) = some r := by rw [if_pos rfl] at H; exact H
                    clear H
                    have H := H1
                    clear H1
                    obtain rfl := Option.some.inj H
                    go_wp2
                    go_ret
                    exact ⟨by first | rfl | (simp [errW_none, errW_some] <;> rfl) | (simp [*, errW_none, errW_some] <;> rfl), by repeat (first | (with_reducible first | exact HB.out | apply below_alloc | apply pw_below_drewN | apply below_drew1 | refine below_set ?_ GE121.out) | exact HB.out)⟩
                  · replace c36 := Bool.eq_false_iff.mpr c36
                    subst c36
                    have H1 : (if a0_0 = 3 then (if a0_2 < 0 then (some false) else (if a0_2 ≥ a1 then (some false) else (if a0_0 = 2 then (if (a0_6 < (-1)) then (some false) else (if a0_0 = 4 then (some (!((l0_11.length : Int) != 1))) else (some (!false)))) else (if a0_0 = 4 then (some (!((l0_11.length : Int) != 1))) else (some (!false)))))) else (if a0_0 = 4 then (if a0_2 < 0 then (some false) else (if a0_2 ≥ a1 then (some false) else (if a0_0 = 2 then (if (a0_6 < (-1)) then (some false) else (some (!((l0_11.length : Int) != 1)))) else (some (!((l0_11.length : Int) != 1)))))) else (if a0_0 = 8 then (if a0_2 < 0 then (some false) else (if a0_2 ≥ a1 then (some false) else (if a0_0 = 2 then (if (a0_6 < (-1)) then (some false) else (some (!false))) else (some (!false))))) else (if a0_0 = 2 then (if (a0_6 < (-1)) then (some false) else (some (!false))) else (some (!false)))))) = some r := by rw [if_neg (show ¬ (false = true) by decide)] at H; exact H
                    clear H
                    have H := H1
                    clear H1
                    by_cases c37 : a0_0 = 3
                    · rw [if_pos c37] at H
                      have c37b0 : (a0_0 == 3) = true := beq_iff_eq.mpr c37
                      have c37b1 : (a0_0 != 3) = false := bne_eq_false_iff_eq.mpr c37
                      clear c37
                      by_cases c38 : a0_2 < 0
                      · rw [if_pos c38] at H
                        have c38b0 : decide (a0_2 < 0) = true := decide_eq_true c38
                        clear c38
                        obtain rfl := Option.some.inj H
                        have hcz39_0 : wc.cell? ⟨gb121, 0, none⟩ = some (.int .i64 a0_0) := (blk_cell BK121.out 0).trans rfl
                        have hcz39_1 : wc.cell? ⟨gb121, 1, none⟩ = some (.int .i64 a0_1) := (blk_cell BK121.out 1).trans rfl
                        have hcz39_2 : wc.cell? ⟨gb121, 2, none⟩ = some (.int .i64 a0_2) := (blk_cell BK121.out 2).trans rfl
                        have hcz39_3 : wc.cell? ⟨gb121, 3, none⟩ = some (.int .i64 a0_3) := (blk_cell BK121.out 3).trans rfl
                        have hcz39_4 : wc.cell? ⟨gb121, 4, none⟩ = some (.int .i64 a0_4) := (blk_cell BK121.out 4).trans rfl
                        have hcz39_5 : wc.cell? ⟨gb121, 5, none⟩ = some (.string a0_5) := (blk_cell BK121.out 5).trans rfl
                        have hcz39_6 : wc.cell? ⟨gb121, 6, none⟩ = some (.int .i64 a0_6) := (blk_cell BK121.out 6).trans rfl
                        have hcz39_7 : wc.cell? ⟨gb121, 7, none⟩ = some (.slice A0_7 l0_7.length c0_7) := (blk_cell BK121.out 7).trans rfl
                        have hcz39_8 : wc.cell? ⟨gb121, 8, none⟩ = some (.slice A0_8 l0_8.length c0_8) := (blk_cell BK121.out 8).trans rfl
                        have hcz39_9 : wc.cell? ⟨gb121, 9, none⟩ = some (.bool a0_9) := (blk_cell BK121.out 9).trans rfl
                        have hcz39_10 : wc.cell? ⟨gb121, 10, none⟩ = some (.bool a0_10) := (blk_cell BK121.out 10).trans rfl
                        have hcz39_11 : wc.cell? ⟨gb121, 11, none⟩ = some (.slice A0_11 l0_11.length c0_11) := (blk_cell BK121.out 11).trans rfl
                        have hcz39_12 : wc.cell? ⟨gb121, 12, none⟩ = some (.int .i64 a0_12) := (blk_cell BK121.out 12).trans rfl
                        have hcz39_13 : wc.cell? ⟨gb121, 13, none⟩ = some (.slice A0_13 l0_13.length c0_13) := (blk_cell BK121.out 13).trans rfl
                        have hfz39_0 := blk_frozen BK121.out 0
                        have hfz39_1 := blk_frozen BK121.out 1
                        have hfz39_2 := blk_frozen BK121.out 2
                        have hfz39_3 := blk_frozen BK121.out 3
                        have hfz39_4 := blk_frozen BK121.out 4
                        have hfz39_5 := blk_frozen BK121.out 5
                        have hfz39_6 := blk_frozen BK121.out 6
                        have hfz39_7 := blk_frozen BK121.out 7
                        have hfz39_8 := blk_frozen BK121.out 8
                        have hfz39_9 := blk_frozen BK121.out 9
                        have hfz39_10 := blk_frozen BK121.out 10
                        have hfz39_11 := blk_frozen BK121.out 11
                        have hfz39_12 := blk_frozen BK121.out 12
                        have hfz39_13 := blk_frozen BK121.out 13
                        go_wp2
                        go_ret
                        exact ⟨by first | rfl | (simp [errW_none, errW_some] <;> rfl) | (simp [*, errW_none, errW_some] <;> rfl), by repeat (first | (with_reducible first | exact HB.out | apply below_alloc | apply pw_below_drewN | apply below_drew1 | refine below_set ?_ GE121.out) | exact HB.out)⟩
                      · rw [if_neg c38] at H
                        have c38b0 : decide (a0_2 < 0) = false := decide_eq_false c38
                        clear c38
                        by_cases c40 : a0_2 ≥ a1
                        · rw [if_pos c40] at H
                          have c40b0 : decide (a1 ≤ a0_2) = true := decide_eq_true c40
                          clear c40
                          obtain rfl := Option.some.inj H
                          have hcz41_0 : wc.cell? ⟨gb121, 0, none⟩ = some (.int .i64 a0_0) := (blk_cell BK121.out 0).trans rfl
                          have hcz41_1 : wc.cell? ⟨gb121, 1, none⟩ = some (.int .i64 a0_1) := (blk_cell BK121.out 1).trans rfl
                          have hcz41_2 : wc.cell? ⟨gb121, 2, none⟩ = some (.int .i64 a0_2) := (blk_cell BK121.out 2).trans rfl
                          have hcz41_3 : wc.cell? ⟨gb121, 3, none⟩ = some (.int .i64 a0_3) := (blk_cell BK121.out 3).trans rfl
                          have hcz41_4 : wc.cell? ⟨gb121, 4, none⟩ = some (.int .i64 a0_4) := (blk_cell BK121.out 4).trans rfl
                          have hcz41_5 : wc.cell? ⟨gb121, 5, none⟩ = some (.string a0_5) := (blk_cell BK121.out 5).trans rfl
                          have hcz41_6 : wc.cell? ⟨gb121, 6, none⟩ = some (.int .i64 a0_6) := (blk_cell BK121.out 6).trans rfl
                          have hcz41_7 : wc.cell? ⟨gb121, 7, none⟩ = some (.slice A0_7 l0_7.length c0_7) := (blk_cell BK121.out 7).trans rfl
                          have hcz41_8 : wc.cell? ⟨gb121, 8, none⟩ = some (.slice A0_8 l0_8.length c0_8) := (blk_cell BK121.out 8).trans rfl
                          have hcz41_9 : wc.cell? ⟨gb121, 9, none⟩ = some (.bool a0_9) := (blk_cell BK121.out 9).trans rfl
                          have hcz41_10 : wc.cell? ⟨gb121, 10, none⟩ = some (.bool a0_10) := (blk_cell BK121.out 10).trans rfl
                          have hcz41_11 : wc.cell? ⟨gb121, 11, none⟩ = some (.slice A0_11 l0_11.length c0_11) := (blk_cell BK121.out 11).trans rfl
                          have hcz41_12 : wc.cell? ⟨gb121, 12, none⟩ = some (.int .i64 a0_12) := (blk_cell BK121.out 12).trans rfl
                          have hcz41_13 : wc.cell? ⟨gb121, 13, none⟩ = some (.slice A0_13 l0_13.length c0_13) := (blk_cell BK121.out 13).trans rfl
                          have hfz41_0 := blk_frozen BK121.out 0
                          have hfz41_1 := blk_frozen BK121.out 1
                          have hfz41_2 := blk_frozen BK121.out 2
                          have hfz41_3 := blk_frozen BK121.out 3
                          have hfz41_4 := blk_frozen BK121.out 4
                          have hfz41_5 := blk_frozen BK121.out 5
                          have hfz41_6 := blk_frozen BK121.out 6
                          have hfz41_7 := blk_frozen BK121.out 7
                          have hfz41_8 := blk_frozen BK121.out 8
                          have hfz41_9 := blk_frozen BK121.out 9
                          have hfz41_10 := blk_frozen BK121.out 10
                          have hfz41_11 := blk_frozen BK121.out 11
                          have hfz41_12 := blk_frozen BK121.out 12
                          have hfz41_13 := blk_frozen BK121.out 13
                          go_wp2
                          go_ret
                          exact ⟨by first | rfl | (simp [errW_none, errW_some] <;> rfl) | (simp [*, errW_none, errW_some] <;> rfl), by repeat (first | (with_reducible first | exact HB.out | apply below_alloc | apply pw_below_drewN | apply below_drew1 | refine below_set ?_ GE121.out) | exact HB.out)⟩
                        · rw [if_neg c40] at H
                          have c40b0 : decide (a1 ≤ a0_2) = false := decide_eq_false c40
                          clear c40
                          by_cases c42 : a0_0 = 2
                          · rw [if_pos c42] at H
                            have c42b0 : (a0_0 == 2) = true := beq_iff_eq.mpr c42
                            have c42b1 : (a0_0 != 2) = false := bne_eq_false_iff_eq.mpr c42
                            clear c42
                            by_cases c43 : (a0_6 < (-1))
                            · rw [if_pos c43] at H
                              have c43b0 : decide (a0_6 < (-1)) = true := decide_eq_true c43
                              clear c43
                              obtain rfl := Option.some.inj H
                              have hcz44_0 : wc.cell? ⟨gb121, 0, none⟩ = some (.int .i64 a0_0) := (blk_cell BK121.out 0).trans rfl
                              have hcz44_1 : wc.cell? ⟨gb121, 1, none⟩ = some (.int .i64 a0_1) := (blk_cell BK121.out 1).trans rfl
                              have hcz44_2 : wc.cell? ⟨gb121, 2, none⟩ = some (.int .i64 a0_2) := (blk_cell BK121.out 2).trans rfl
                              have hcz44_3 : wc.cell? ⟨gb121, 3, none⟩ = some (.int .i64 a0_3) := (blk_cell BK121.out 3).trans rfl
                              have hcz44_4 : wc.cell? ⟨gb121, 4, none⟩ = some (.int .i64 a0_4) := (blk_cell BK121.out 4).trans rfl
                              have hcz44_5 : wc.cell? ⟨gb121, 5, none⟩ = some (.string a0_5) := (blk_cell BK121.out 5).trans rfl
                              have hcz44_6 : wc.cell? ⟨gb121, 6, none⟩ = some (.int .i64 a0_6) := (blk_cell BK121.out 6).trans rfl
                              have hcz44_7 : wc.cell? ⟨gb121, 7, none⟩ = some (.slice A0_7 l0_7.length c0_7) := (blk_cell BK121.out 7).trans rfl
                              have hcz44_8 : wc.cell? ⟨gb121, 8, none⟩ = some (.slice A0_8 l0_8.length c0_8) := (blk_cell BK121.out 8).trans rfl
                              have hcz44_9 : wc.cell? ⟨gb121, 9, none⟩ = some (.bool a0_9) := (blk_cell BK121.out 9).trans rfl
                              have hcz44_10 : wc.cell? ⟨gb121, 10, none⟩ = some (.bool a0_10) := (blk_cell BK121.out 10).trans rfl
                              have hcz44_11 : wc.cell? ⟨gb121, 11, none⟩ = some (.slice A0_11 l0_11.length c0_11) := (blk_cell BK121.out 11).trans rfl
                              have hcz44_12 : wc.cell? ⟨gb121, 12, none⟩ = some (.int .i64 a0_12) := (blk_cell BK121.out 12).trans rfl
                              have hcz44_13 : wc.cell? ⟨gb121, 13, none⟩ = some (.slice A0_13 l0_13.length c0_13) := (blk_cell BK121.out 13).trans rfl
                              have hfz44_0 := blk_frozen BK121.out 0
                              have hfz44_1 := blk_frozen BK121.out 1
                              have hfz44_2 := blk_frozen BK121.out 2
                              have hfz44_3 := blk_frozen BK121.out 3
                              have hfz44_4 := blk_frozen BK121.out 4
                              have hfz44_5 := blk_frozen BK121.out 5
                              have hfz44_6 := blk_frozen BK121.out 6
                              have hfz44_7 := blk_frozen BK121.out 7
                              have hfz44_8 := blk_frozen BK121.out 8
                              have hfz44_9 := blk_frozen BK121.out 9
                              have hfz44_10 := blk_frozen BK121.out 10
                              have hfz44_11 := blk_frozen BK121.out 11
                              have hfz44_12 := blk_frozen BK121.out 12
                              have hfz44_13 := blk_frozen BK121.out 13
                              go_wp2
                              go_ret
                              exact ⟨by first | rfl | (simp [errW_none, errW_some] <;> rfl) | (simp [*, errW_none, errW_some] <;> rfl), by repeat (first | (with_reducible first | exact HB.out | apply below_alloc | apply pw_below_drewN | apply below_drew1 | refine below_set ?_ GE121.out) | exact HB.out)⟩
                            · rw [if_neg c43] at H
                              have c43b0 : decide (a0_6 < (-1)) = false := decide_eq_false c43
                              clear c43
                              by_cases c45 : a0_0 = 4
                              · rw [if_pos c45] at H
                                have c45b0 : (a0_0 == 4) = true := beq_iff_eq.mpr c45
                                have c45b1 : (a0_0 != 4) = false := bne_eq_false_iff_eq.mpr c45
                                clear c45
                                obtain rfl := Option.some.inj H
                                have hcz46_0 : wc.cell? ⟨gb121, 0, none⟩ = some (.int .i64 a0_0) := (blk_cell BK121.out 0).trans rfl
                                have hcz46_1 : wc.cell? ⟨gb121, 1, none⟩ = some (.int .i64 a0_1) := (blk_cell BK121.out 1).trans rfl
                                have hcz46_2 : wc.cell? ⟨gb121, 2, none⟩ = some (.int .i64 a0_2) := (blk_cell BK121.out 2).trans rfl
                                have hcz46_3 : wc.cell? ⟨gb121, 3, none⟩ = some (.int .i64 a0_3) := (blk_cell BK121.out 3).trans rfl
                                have hcz46_4 : wc.cell? ⟨gb121, 4, none⟩ = some (.int .i64 a0_4) := (blk_cell BK121.out 4).trans rfl
                                have hcz46_5 : wc.cell? ⟨gb121, 5, none⟩ = some (.string a0_5) := (blk_cell BK121.out 5).trans rfl
                                have hcz46_6 : wc.cell? ⟨gb121, 6, none⟩ = some (.int .i64 a0_6) := (blk_cell BK121.out 6).trans rfl
                                have hcz46_7 : wc.cell? ⟨gb121, 7, none⟩ = some (.slice A0_7 l0_7.length c0_7) := (blk_cell BK121.out 7).trans rfl
                                have hcz46_8 : wc.cell? ⟨gb121, 8, none⟩ = some (.slice A0_8 l0_8.length c0_8) := (blk_cell BK121.out 8).trans rfl
                                have hcz46_9 : wc.cell? ⟨gb121, 9, none⟩ = some (.bool a0_9) := (blk_cell BK121.out 9).trans rfl
                                have hcz46_10 : wc.cell? ⟨gb121, 10, none⟩ = some (.bool a0_10) := (blk_cell BK121.out 10).trans rfl
                                have hcz46_11 : wc.cell? ⟨gb121, 11, none⟩ = some (.slice A0_11 l0_11.length c0_11) := (blk_cell BK121.out 11).trans rfl
                                have hcz46_12 : wc.cell? ⟨gb121, 12, none⟩ = some (.int .i64 a0_12) := (blk_cell BK121.out 12).trans rfl
                                have hcz46_13 : wc.cell? ⟨gb121, 13, none⟩ = some (.slice A0_13 l0_13.length c0_13) := (blk_cell BK121.out 13).trans rfl
                                have hfz46_0 := blk_frozen BK121.out 0
                                have hfz46_1 := blk_frozen BK121.out 1
                                have hfz46_2 := blk_frozen BK121.out 2
                                have hfz46_3 := blk_frozen BK121.out 3
                                have hfz46_4 := blk_frozen BK121.out 4
                                have hfz46_5 := blk_frozen BK121.out 5
                                have hfz46_6 := blk_frozen BK121.out 6
                                have hfz46_7 := blk_frozen BK121.out 7
                                have hfz46_8 := blk_frozen BK121.out 8
                                have hfz46_9 := blk_frozen BK121.out 9
                                have hfz46_10 := blk_frozen BK121.out 10
                                have hfz46_11 := blk_frozen BK121.out 11
                                have hfz46_12 := blk_frozen BK121.out 12
                                have hfz46_13 := blk_frozen BK121.out 13
                                go_wp2
                                go_ret
                                exact ⟨by first | rfl | (simp [errW_none, errW_some] <;> rfl) | (simp [*, errW_none, errW_some] <;> rfl), by repeat (first | (with_reducible first | exact HB.out | apply below_alloc | apply pw_below_drewN | apply below_drew1 | refine below_set ?_ GE121.out) | exact HB.out)⟩
                              · rw [if_neg c45] at H
                                have c45b0 : (a0_0 == 4) = false := beq_eq_false_iff_ne.mpr c45
                                have c45b1 : (a0_0 != 4) = true := bne_iff_ne.mpr c45
                                obtain rfl := Option.some.inj H
                                have hcz47_0 : wc.cell? ⟨gb121, 0, none⟩ = some (.int .i64 a0_0) := (blk_cell BK121.out 0).trans rfl
                                have hcz47_1 : wc.cell? ⟨gb121, 1, none⟩ = some (.int .i64 a0_1) := (blk_cell BK121.out 1).trans rfl
                                have hcz47_2 : wc.cell? ⟨gb121, 2, none⟩ = some (.int .i64 a0_2) := (blk_cell BK121.out 2).trans rfl
                                have hcz47_3 : wc.cell? ⟨gb121, 3, none⟩ = some (.int .i64 a0_3) := (blk_cell BK121.out 3).trans rfl
                                have hcz47_4 : wc.cell? ⟨gb121, 4, none⟩ = some (.int .i64 a0_4) := (blk_cell BK121.out 4).trans rfl
                                have hcz47_5 : wc.cell? ⟨gb121, 5, none⟩ = some (.string a0_5) := (blk_cell BK121.out 5).trans rfl
                                have hcz47_6 : wc.cell? ⟨gb121, 6, none⟩ = some (.int .i64 a0_6) := (blk_cell BK121.out 6).trans rfl
                                have hcz47_7 : wc.cell? ⟨gb121, 7, none⟩ = some (.slice A0_7 l0_7.length c0_7) := (blk_cell BK121.out 7).trans rfl
                                have hcz47_8 : wc.cell? ⟨gb121, 8, none⟩ = some (.slice A0_8 l0_8.length c0_8) := (blk_cell BK121.out 8).trans rfl
                                have hcz47_9 : wc.cell? ⟨gb121, 9, none⟩ = some (.bool a0_9) := (blk_cell BK121.out 9).trans rfl
                                have hcz47_10 : wc.cell? ⟨gb121, 10, none⟩ = some (.bool a0_10) := (blk_cell BK121.out 10).trans rfl
                                have hcz47_11 : wc.cell? ⟨gb121, 11, none⟩ = some (.slice A0_11 l0_11.length c0_11) := (blk_cell BK121.out 11).trans rfl
                                have hcz47_12 : wc.cell? ⟨gb121, 12, none⟩ = some (.int .i64 a0_12) := (blk_cell BK121.out 12).trans rfl
                                have hcz47_13 : wc.cell? ⟨gb121, 13, none⟩ = some (.slice A0_13 l0_13.length c0_13) := (blk_cell BK121.out 13).trans rfl
                                have hfz47_0 := blk_frozen BK121.out 0
                                have hfz47_1 := blk_frozen BK121.out 1
                                have hfz47_2 := blk_frozen BK121.out 2
                                have hfz47_3 := blk_frozen BK121.out 3
                                have hfz47_4 := blk_frozen BK121.out 4
                                have hfz47_5 := blk_frozen BK121.out 5
                                have hfz47_6 := blk_frozen BK121.out 6
                                have hfz47_7 := blk_frozen BK121.out 7
                                have hfz47_8 := blk_frozen BK121.out 8
                                have hfz47_9 := blk_frozen BK121.out 9
                                have hfz47_10 := blk_frozen BK121.out 10
                                have hfz47_11 := blk_frozen BK121.out 11
                                have hfz47_12 := blk_frozen BK121.out 12
                                have hfz47_13 := blk_frozen BK121.out 13
                                go_wp2
                                go_ret
                                exact ⟨by first | rfl | (simp [errW_none, errW_some] <;> rfl) | (simp [*, errW_none, errW_some] <;> rfl), by repeat (first | (with_reducible first | exact HB.out | apply below_alloc | apply pw_below_drewN | apply below_drew1 | refine below_set ?_ GE121.out) | exact HB.out)⟩
                          · rw [if_neg c42] at H
                            have c42b0 : (a0_0 == 2) = false := beq_eq_false_iff_ne.mpr c42
                            have c42b1 : (a0_0 != 2) = true := bne_iff_ne.mpr c42
                            by_cases c48 : a0_0 = 4
                            · rw [if_pos c48] at H
                              have c48b0 : (a0_0 == 4) = true := beq_iff_eq.mpr c48
                              have c48b1 : (a0_0 != 4) = false := bne_eq_false_iff_eq.mpr c48
                              clear c48
                              obtain rfl := Option.some.inj H
                              have hcz49_0 : wc.cell? ⟨gb121, 0, none⟩ = some (.int .i64 a0_0) := (blk_cell BK121.out 0).trans rfl
                              have hcz49_1 : wc.cell? ⟨gb121, 1, none⟩ = some (.int .i64 a0_1) := (blk_cell BK121.out 1).trans rfl
                              have hcz49_2 : wc.cell? ⟨gb121, 2, none⟩ = some (.int .i64 a0_2) := (blk_cell BK121.out 2).trans rfl
                              have hcz49_3 : wc.cell? ⟨gb121, 3, none⟩ = some (.int .i64 a0_3) := (blk_cell BK121.out 3).trans rfl
                              have hcz49_4 : wc.cell? ⟨gb121, 4, none⟩ = some (.int .i64 a0_4) := (blk_cell BK121.out 4).trans rfl
                              have hcz49_5 : wc.cell? ⟨gb121, 5, none⟩ = some (.string a0_5) := (blk_cell BK121.out 5).trans rfl
                              have hcz49_6 : wc.cell? ⟨gb121, 6, none⟩ = some (.int .i64 a0_6) := (blk_cell BK121.out 6).trans rfl
                              have hcz49_7 : wc.cell? ⟨gb121, 7, none⟩ = some (.slice A0_7 l0_7.length c0_7) := (blk_cell BK121.out 7).trans rfl
                              have hcz49_8 : wc.cell? ⟨gb121, 8, none⟩ = some (.slice A0_8 l0_8.length c0_8) := (blk_cell BK121.out 8).trans rfl
                              have hcz49_9 : wc.cell? ⟨gb121, 9, none⟩ = some (.bool a0_9) := (blk_cell BK121.out 9).trans rfl
                              have hcz49_10 : wc.cell? ⟨gb121, 10, none⟩ = some (.bool a0_10) := (blk_cell BK121.out 10).trans rfl
                              have hcz49_11 : wc.cell? ⟨gb121, 11, none⟩ = some (.slice A0_11 l0_11.length c0_11) := (blk_cell BK121.out 11).trans rfl
                              have hcz49_12 : wc.cell? ⟨gb121, 12, none⟩ = some (.int .i64 a0_12) := (blk_cell BK121.out 12).trans rfl
                              have hcz49_13 : wc.cell? ⟨gb121, 13, none⟩ = some (.slice A0_13 l0_13.length c0_13) := (blk_cell BK121.out 13).trans rfl
                              have hfz49_0 := blk_frozen BK121.out 0
                              have hfz49_1 := blk_frozen BK121.out 1
                              have hfz49_2 := blk_frozen BK121.out 2
                              have hfz49_3 := blk_frozen BK121.out 3
                              have hfz49_4 := blk_frozen BK121.out 4
                              have hfz49_5 := blk_frozen BK121.out 5
                              have hfz49_6 := blk_frozen BK121.out 6
                              have hfz49_7 := blk_frozen BK121.out 7
                              have hfz49_8 := blk_frozen BK121.out 8
                              have hfz49_9 := blk_frozen BK121.out 9
                              have hfz49_10 := blk_frozen BK121.out 10
                              have hfz49_11 := blk_frozen BK121.out 11
                              have hfz49_12 := blk_frozen BK121.out 12
                              have hfz49_13 := blk_frozen BK121.out 13
                              go_wp2
                              go_ret
                              exact ⟨by first | rfl | (simp [errW_none, errW_some] <;> rfl) | (simp [*, errW_none, errW_some] <;> rfl), by repeat (first | (with_reducible first | exact HB.out | apply below_alloc | apply pw_below_drewN | apply below_drew1 | refine below_set ?_ GE121.out) | exact HB.out)⟩
                            · rw [if_neg c48] at H
                              have c48b0 : (a0_0 == 4) = false := beq_eq_false_iff_ne.mpr c48
                              have c48b1 : (a0_0 != 4) = true := bne_iff_ne.mpr c48
                              obtain rfl := Option.some.inj H
                              have hcz50_0 : wc.cell? ⟨gb121, 0, none⟩ = some (.int .i64 a0_0) := (blk_cell BK121.out 0).trans rfl
                              have hcz50_1 : wc.cell? ⟨gb121, 1, none⟩ = some (.int .i64 a0_1) := (blk_cell BK121.out 1).trans rfl
                              have hcz50_2 : wc.cell? ⟨gb121, 2, none⟩ = some (.int .i64 a0_2) := (blk_cell BK121.out 2).trans rfl
                              have hcz50_3 : wc.cell? ⟨gb121, 3, none⟩ = some (.int .i64 a0_3) := (blk_cell BK121.out 3).trans rfl
                              have hcz50_4 : wc.cell? ⟨gb121, 4, none⟩ = some (.int .i64 a0_4) := (blk_cell BK121.out 4).trans rfl
                              have hcz50_5 : wc.cell? ⟨gb121, 5, none⟩ = some (.string a0_5) := (blk_cell BK121.out 5).trans rfl
                              have hcz50_6 : wc.cell? ⟨gb121, 6, none⟩ = some (.int .i64 a0_6) := (blk_cell BK121.out 6).trans rfl
                              have hcz50_7 : wc.cell? ⟨gb121, 7, none⟩ = some (.slice A0_7 l0_7.length c0_7) := (blk_cell BK121.out 7).trans rfl
                              have hcz50_8 : wc.cell? ⟨gb121, 8, none⟩ = some (.slice A0_8 l0_8.length c0_8) := (blk_cell BK121.out 8).trans rfl
                              have hcz50_9 : wc.cell? ⟨gb121, 9, none⟩ = some (.bool a0_9) := (blk_cell BK121.out 9).trans rfl
                              have hcz50_10 : wc.cell? ⟨gb121, 10, none⟩ = some (.bool a0_10) := (blk_cell BK121.out 10).trans rfl
                              have hcz50_11 : wc.cell? ⟨gb121, 11, none⟩ = some (.slice A0_11 l0_11.length c0_11) := (blk_cell BK121.out 11).trans rfl
                              have hcz50_12 : wc.cell? ⟨gb121, 12, none⟩ = some (.int .i64 a0_12) := (blk_cell BK121.out 12).trans rfl
                              have hcz50_13 : wc.cell? ⟨gb121, 13, none⟩ = some (.slice A0_13 l0_13.length c0_13) := (blk_cell BK121.out 13).trans rfl
                              have hfz50_0 := blk_frozen BK121.out 0
                              have hfz50_1 := blk_frozen BK121.out 1
                              have hfz50_2 := blk_frozen BK121.out 2
                              have hfz50_3 := blk_frozen BK121.out 3
                              have hfz50_4 := blk_frozen BK121.out 4
                              have hfz50_5 := blk_frozen BK121.out 5
                              have hfz50_6 := blk_frozen BK121.out 6
                              have hfz50_7 := blk_frozen BK121.out 7
                              have hfz50_8 := blk_frozen BK121.out 8
                              have hfz50_9 := blk_frozen BK121.out 9
                              have hfz50_10 := blk_frozen BK121.out 10
                              have hfz50_11 := blk_frozen BK121.out 11
                              have hfz50_12 := blk_frozen BK121.out 12
                              have hfz50_13 := blk_frozen BK121.out 13
                              go_wp2
                              go_ret
                              exact ⟨by first | rfl | (simp [errW_none, errW_some] <;> rfl) | (simp [*, errW_none, errW_some] <;> rfl), by repeat (first | (with_reducible first | exact HB.out | apply below_alloc | apply pw_below_drewN | apply below_drew1 | refine below_set ?_ GE121.out) | exact HB.out)⟩
                    · rw [if_neg c37] at H
                      have c37b0 : (a0_0 == 3) = false := beq_eq_false_iff_ne.mpr c37
                      have c37b1 : (a0_0 != 3) = true := bne_iff_ne.mpr c37
                      by_cases c51 : a0_0 = 4
                      · rw [if_pos c51] at H
                        have c51b0 : (a0_0 == 4) = true := beq_iff_eq.mpr c51
                        have c51b1 : (a0_0 != 4) = false := bne_eq_false_iff_eq.mpr c51
                        clear c51
                        by_cases c52 : a0_2 < 0
                        · rw [if_pos c52] at H
                          have c52b0 : decide (a0_2 < 0) = true := decide_eq_true c52
                          clear c52
                          obtain rfl := Option.some.inj H
                          have hcz53_0 : wc.cell? ⟨gb121, 0, none⟩ = some (.int .i64 a0_0) := (blk_cell BK121.out 0).trans rfl
                          have hcz53_1 : wc.cell? ⟨gb121, 1, none⟩ = some (.int .i64 a0_1) := (blk_cell BK121.out 1).trans rfl
                          have hcz53_2 : wc.cell? ⟨gb121, 2, none⟩ = some (.int .i64 a0_2) := (blk_cell BK121.out 2).trans rfl
                          have hcz53_3 : wc.cell? ⟨gb121, 3, none⟩ = some (.int .i64 a0_3) := (blk_cell BK121.out 3).trans rfl
                          have hcz53_4 : wc.cell? ⟨gb121, 4, none⟩ = some (.int .i64 a0_4) := (blk_cell BK121.out 4).trans rfl
                          have hcz53_5 : wc.cell? ⟨gb121, 5, none⟩ = some (.string a0_5) := (blk_cell BK121.out 5).trans rfl
                          have hcz53_6 : wc.cell? ⟨gb121, 6, none⟩ = some (.int .i64 a0_6) := (blk_cell BK121.out 6).trans rfl
                          have hcz53_7 : wc.cell? ⟨gb121, 7, none⟩ = some (.slice A0_7 l0_7.length c0_7) := (blk_cell BK121.out 7).trans rfl
                          have hcz53_8 : wc.cell? ⟨gb121, 8, none⟩ = some (.slice A0_8 l0_8.length c0_8) := (blk_cell BK121.out 8).trans rfl
                          have hcz53_9 : wc.cell? ⟨gb121, 9, none⟩ = some (.bool a0_9) := (blk_cell BK121.out 9).trans rfl
                          have hcz53_10 : wc.cell? ⟨gb121, 10, none⟩ = some (.bool a0_10) := (blk_cell BK121.out 10).trans rfl
                          have hcz53_11 : wc.cell? ⟨gb121, 11, none⟩ = some (.slice A0_11 l0_11.length c0_11) := (blk_cell BK121.out 11).trans rfl
                          have hcz53_12 : wc.cell? ⟨gb121, 12, none⟩ = some (.int .i64 a0_12) := (blk_cell BK121.out 12).trans rfl
                          have hcz53_13 : wc.cell? ⟨gb121, 13, none⟩ = some (.slice A0_13 l0_13.length c0_13) := (blk_cell BK121.out 13).trans rfl
                          have hfz53_0 := blk_frozen BK121.out 0
                          have hfz53_1 := blk_frozen BK121.out 1
                          have hfz53_2 := blk_frozen BK121.out 2
                          have hfz53_3 := blk_frozen BK121.out 3
                          have hfz53_4 := blk_frozen BK121.out 4
                          have hfz53_5 := blk_frozen BK121.out 5
                          have hfz53_6 := blk_frozen BK121.out 6
                          have hfz53_7 := blk_frozen BK121.out 7
                          have hfz53_8 := blk_frozen BK121.out 8
                          have hfz53_9 := blk_frozen BK121.out 9
                          have hfz53_10 := blk_frozen BK121.out 10
                          have hfz53_11 := blk_frozen BK121.out 11
                          have hfz53_12 := blk_frozen BK121.out 12
                          have hfz53_13 := blk_frozen BK121.out 13
                          go_wp2
                          go_ret
                          exact ⟨by first | rfl | (simp [errW_none, errW_some] <;> rfl) | (simp [*, errW_none, errW_some] <;> rfl), by repeat (first | (with_reducible first | exact HB.out | apply below_alloc | apply pw_below_drewN | apply below_drew1 | refine below_set ?_ GE121.out) | exact HB.out)⟩
                        · rw [if_neg c52] at H
                          have c52b0 : decide (a0_2 < 0) = false := decide_eq_false c52
                          clear c52
                          by_cases c54 : a0_2 ≥ a1
                          · rw [if_pos c54] at H
                            have c54b0 : decide (a1 ≤ a0_2) = true := decide_eq_true c54
                            clear c54
                            obtain rfl := Option.some.inj H
                            have hcz55_0 : wc.cell? ⟨gb121, 0, none⟩ = some (.int .i64 a0_0) := (blk_cell BK121.out 0).trans rfl
                            have hcz55_1 : wc.cell? ⟨gb121, 1, none⟩ = some (.int .i64 a0_1) := (blk_cell BK121.out 1).trans rfl
                            have hcz55_2 : wc.cell? ⟨gb121, 2, none⟩ = some (.int .i64 a0_2) := (blk_cell BK121.out 2).trans rfl
                            have hcz55_3 : wc.cell? ⟨gb121, 3, none⟩ = some (.int .i64 a0_3) := (blk_cell BK121.out 3).trans rfl
                            have hcz55_4 : wc.cell? ⟨gb121, 4, none⟩ = some (.int .i64 a0_4) := (blk_cell BK121.out 4).trans rfl
                            have hcz55_5 : wc.cell? ⟨gb121, 5, none⟩ = some (.string a0_5) := (blk_cell BK121.out 5).trans rfl
                            have hcz55_6 : wc.cell? ⟨gb121, 6, none⟩ = some (.int .i64 a0_6) := (blk_cell BK121.out 6).trans rfl
                            have hcz55_7 : wc.cell? ⟨gb121, 7, none⟩ = some (.slice A0_7 l0_7.length c0_7) := (blk_cell BK121.out 7).trans rfl
                            have hcz55_8 : wc.cell? ⟨gb121, 8, none⟩ = some (.slice A0_8 l0_8.length c0_8) := (blk_cell BK121.out 8).trans rfl
                            have hcz55_9 : wc.cell? ⟨gb121, 9, none⟩ = some (.bool a0_9) := (blk_cell BK121.out 9).trans rfl
                            have hcz55_10 : wc.cell? ⟨gb121, 10, none⟩ = some (.bool a0_10) := (blk_cell BK121.out 10).trans rfl
                            have hcz55_11 : wc.cell? ⟨gb121, 11, none⟩ = some (.slice A0_11 l0_11.length c0_11) := (blk_cell BK121.out 11).trans rfl
                            have hcz55_12 : wc.cell? ⟨gb121, 12, none⟩ = some (.int .i64 a0_12) := (blk_cell BK121.out 12).trans rfl
                            have hcz55_13 : wc.cell? ⟨gb121, 13, none⟩ = some (.slice A0_13 l0_13.length c0_13) := (blk_cell BK121.out 13).trans rfl
                            have hfz55_0 := blk_frozen BK121.out 0
                            have hfz55_1 := blk_frozen BK121.out 1
                            have hfz55_2 := blk_frozen BK121.out 2
                            have hfz55_3 := blk_frozen BK121.out 3
                            have hfz55_4 := blk_frozen BK121.out 4
                            have hfz55_5 := blk_frozen BK121.out 5
                            have hfz55_6 := blk_frozen BK121.out 6
                            have hfz55_7 := blk_frozen BK121.out 7
                            have hfz55_8 := blk_frozen BK121.out 8
                            have hfz55_9 := blk_frozen BK121.out 9
                            have hfz55_10 := blk_frozen BK121.out 10
                            have hfz55_11 := blk_frozen BK121.out 11
                            have hfz55_12 := blk_frozen BK121.out 12
                            have hfz55_13 := blk_frozen BK121.out 13
                            go_wp2
                            go_ret
                            exact ⟨by first | rfl | (simp [errW_none, errW_some] <;> rfl) | (simp [*, errW_none, errW_some] <;> rfl), by repeat (first | (with_reducible first | exact HB.out | apply below_alloc | apply pw_below_drewN | apply below_drew1 | refine below_set ?_ GE121.out) | exact HB.out)⟩
                          · rw [if_neg c54] at H
                            have c54b0 : decide (a1 ≤ a0_2) = false := decide_eq_false c54
                            clear c54
                            by_cases c56 : a0_0 = 2
                            · rw [if_pos c56] at H
                              have c56b0 : (a0_0 == 2) = true := beq_iff_eq.mpr c56
                              have c56b1 : (a0_0 != 2) = false := bne_eq_false_iff_eq.mpr c56
                              clear c56
                              by_cases c57 : (a0_6 < (-1))
                              · rw [if_pos c57] at H
                                have c57b0 : decide (a0_6 < (-1)) = true := decide_eq_true c57
                                clear c57
                                obtain rfl := Option.some.inj H
                                have hcz58_0 : wc.cell? ⟨gb121, 0, none⟩ = some (.int .i64 a0_0) := (blk_cell BK121.out 0).trans rfl
                                have hcz58_1 : wc.cell? ⟨gb121, 1, none⟩ = some (.int .i64 a0_1) := (blk_cell BK121.out 1).trans rfl
                                have hcz58_2 : wc.cell? ⟨gb121, 2, none⟩ = some (.int .i64 a0_2) := (blk_cell BK121.out 2).trans rfl
                                have hcz58_3 : wc.cell? ⟨gb121, 3, none⟩ = some (.int .i64 a0_3) := (blk_cell BK121.out 3).trans rfl
                                have hcz58_4 : wc.cell? ⟨gb121, 4, none⟩ = some (.int .i64 a0_4) := (blk_cell BK121.out 4).trans rfl
                                have hcz58_5 : wc.cell? ⟨gb121, 5, none⟩ = some (.string a0_5) := (blk_cell BK121.out 5).trans rfl
                                have hcz58_6 : wc.cell? ⟨gb121, 6, none⟩ = some (.int .i64 a0_6) := (blk_cell BK121.out 6).trans rfl
                                have hcz58_7 : wc.cell? ⟨gb121, 7, none⟩ = some (.slice A0_7 l0_7.length c0_7) := (blk_cell BK121.out 7).trans rfl
                                have hcz58_8 : wc.cell? ⟨gb121, 8, none⟩ = some (.slice A0_8 l0_8.length c0_8) := (blk_cell BK121.out 8).trans rfl
                                have hcz58_9 : wc.cell? ⟨gb121, 9, none⟩ = some (.bool a0_9) := (blk_cell BK121.out 9).trans rfl
                                have hcz58_10 : wc.cell? ⟨gb121, 10, none⟩ = some (.bool a0_10) := (blk_cell BK121.out 10).trans rfl
                                have hcz58_11 : wc.cell? ⟨gb121, 11, none⟩ = some (.slice A0_11 l0_11.length c0_11) := (blk_cell BK121.out 11).trans rfl
                                have hcz58_12 : wc.cell? ⟨gb121, 12, none⟩ = some (.int .i64 a0_12) := (blk_cell BK121.out 12).trans rfl
                                have hcz58_13 : wc.cell? ⟨gb121, 13, none⟩ = some (.slice A0_13 l0_13.length c0_13) := (blk_cell BK121.out 13).trans rfl
                                have hfz58_0 := blk_frozen BK121.out 0
                                have hfz58_1 := blk_frozen BK121.out 1
                                have hfz58_2 := blk_frozen BK121.out 2
                                have hfz58_3 := blk_frozen BK121.out 3
                                have hfz58_4 := blk_frozen BK121.out 4
                                have hfz58_5 := blk_frozen BK121.out 5
                                have hfz58_6 := blk_frozen BK121.out 6
                                have hfz58_7 := blk_frozen BK121.out 7
                                have hfz58_8 := blk_frozen BK121.out 8
                                have hfz58_9 := blk_frozen BK121.out 9
                                have hfz58_10 := blk_frozen BK121.out 10
                                have hfz58_11 := blk_frozen BK121.out 11
                                have hfz58_12 := blk_frozen BK121.out 12
                                have hfz58_13 := blk_frozen BK121.out 13
                                go_wp2
                                go_ret
                                exact ⟨by first | rfl | (simp [errW_none, errW_some] <;> rfl) | (simp [*, errW_none, errW_some] <;> rfl), by repeat (first | (with_reducible first | exact HB.out | apply below_alloc | apply pw_below_drewN | apply below_drew1 | refine below_set ?_ GE121.out) | exact HB.out)⟩
                              · rw [if_neg c57] at H
                                have c57b0 : decide (a0_6 < (-1)) = false := decide_eq_false c57
                                clear c57
                                obtain rfl := Option.some.inj H
                                have hcz59_0 : wc.cell? ⟨gb121, 0, none⟩ = some (.int .i64 a0_0) := (blk_cell BK121.out 0).trans rfl
                                have hcz59_1 : wc.cell? ⟨gb121, 1, none⟩ = some (.int .i64 a0_1) := (blk_cell BK121.out 1).trans rfl
                                have hcz59_2 : wc.cell? ⟨gb121, 2, none⟩ = some (.int .i64 a0_2) := (blk_cell BK121.out 2).trans rfl
                                have hcz59_3 : wc.cell? ⟨gb121, 3, none⟩ = some (.int .i64 a0_3) := (blk_cell BK121.out 3).trans rfl
                                have hcz59_4 : wc.cell? ⟨gb121, 4, none⟩ = some (.int .i64 a0_4) := (blk_cell BK121.out 4).trans rfl
                                have hcz59_5 : wc.cell? ⟨gb121, 5, none⟩ = some (.string a0_5) := (blk_cell BK121.out 5).trans rfl
                                have hcz59_6 : wc.cell? ⟨gb121, 6, none⟩ = some (.int .i64 a0_6) := (blk_cell BK121.out 6).trans rfl
                                have hcz59_7 : wc.cell? ⟨gb121, 7, none⟩ = some (.slice A0_7 l0_7.length c0_7) := (blk_cell BK121.out 7).trans rfl
                                have hcz59_8 : wc.cell? ⟨gb121, 8, none⟩ = some (.slice A0_8 l0_8.length c0_8) := (blk_cell BK121.out 8).trans rfl
                                have hcz59_9 : wc.cell? ⟨gb121, 9, none⟩ = some (.bool a0_9) := (blk_cell BK121.out 9).trans rfl
                                have hcz59_10 : wc.cell? ⟨gb121, 10, none⟩ = some (.bool a0_10) := (blk_cell BK121.out 10).trans rfl
                                have hcz59_11 : wc.cell? ⟨gb121, 11, none⟩ = some (.slice A0_11 l0_11.length c0_11) := (blk_cell BK121.out 11).trans rfl
                                have hcz59_12 : wc.cell? ⟨gb121, 12, none⟩ = some (.int .i64 a0_12) := (blk_cell BK121.out 12).trans rfl
                                have hcz59_13 : wc.cell? ⟨gb121, 13, none⟩ = some (.slice A0_13 l0_13.length c0_13) := (blk_cell BK121.out 13).trans rfl
                                have hfz59_0 := blk_frozen BK121.out 0
                                have hfz59_1 := blk_frozen BK121.out 1
                                have hfz59_2 := blk_frozen BK121.out 2
                                have hfz59_3 := blk_frozen BK121.out 3
                                have hfz59_4 := blk_frozen BK121.out 4
                                have hfz59_5 := blk_frozen BK121.out 5
                                have hfz59_6 := blk_frozen BK121.out 6
                                have hfz59_7 := blk_frozen BK121.out 7
                                have hfz59_8 := blk_frozen BK121.out 8
                                have hfz59_9 := blk_frozen BK121.out 9
                                have hfz59_10 := blk_frozen BK121.out 10
                                have hfz59_11 := blk_frozen BK121.out 11
                                have hfz59_12 := blk_frozen BK121.out 12
                                have hfz59_13 := blk_frozen BK121.out 13
                                go_wp2
                                go_ret
                                exact ⟨by first | rfl | (simp [errW_none, errW_some] <;> rfl) | (simp [*, errW_none, errW_some] <;> rfl), by repeat (first | (with_reducible first | exact HB.out | apply below_alloc | apply pw_below_drewN | apply below_drew1 | refine below_set ?_ GE121.out) | exact HB.out)⟩
                            · rw [if_neg c56] at H
                              have c56b0 : (a0_0 == 2) = false := beq_eq_false_iff_ne.mpr c56
                              have c56b1 : (a0_0 != 2) = true := bne_iff_ne.mpr c56
                              obtain rfl := Option.some.inj H
                              have hcz60_0 : wc.cell? ⟨gb121, 0, none⟩ = some (.int .i64 a0_0) := (blk_cell BK121.out 0).trans rfl
                              have hcz60_1 : wc.cell? ⟨gb121, 1, none⟩ = some (.int .i64 a0_1) := (blk_cell BK121.out 1).trans rfl
                              have hcz60_2 : wc.cell? ⟨gb121, 2, none⟩ = some (.int .i64 a0_2) := (blk_cell BK121.out 2).trans rfl
                              have hcz60_3 : wc.cell? ⟨gb121, 3, none⟩ = some (.int .i64 a0_3) := (blk_cell BK121.out 3).trans rfl
                              have hcz60_4 : wc.cell? ⟨gb121, 4, none⟩ = some (.int .i64 a0_4) := (blk_cell BK121.out 4).trans rfl
                              have hcz60_5 : wc.cell? ⟨gb121, 5, none⟩ = some (.string a0_5) := (blk_cell BK121.out 5).trans rfl
                              have hcz60_6 : wc.cell? ⟨gb121, 6, none⟩ = some (.int .i64 a0_6) := (blk_cell BK121.out 6).trans rfl
                              have hcz60_7 : wc.cell? ⟨gb121, 7, none⟩ = some (.slice A0_7 l0_7.length c0_7) := (blk_cell BK121.out 7).trans rfl
                              have hcz60_8 : wc.cell? ⟨gb121, 8, none⟩ = some (.slice A0_8 l0_8.length c0_8) := (blk_cell BK121.out 8).trans rfl
                              have hcz60_9 : wc.cell? ⟨gb121, 9, none⟩ = some (.bool a0_9) := (blk_cell BK121.out 9).trans rfl
                              have hcz60_10 : wc.cell? ⟨gb121, 10, none⟩ = some (.bool a0_10) := (blk_cell BK121.out 10).trans rfl
                              have hcz60_11 : wc.cell? ⟨gb121, 11, none⟩ = some (.slice A0_11 l0_11.length c0_11) := (blk_cell BK121.out 11).trans rfl
                              have hcz60_12 : wc.cell? ⟨gb121, 12, none⟩ = some (.int .i64 a0_12) := (blk_cell BK121.out 12).trans rfl
                              have hcz60_13 : wc.cell? ⟨gb121, 13, none⟩ = some (.slice A0_13 l0_13.length c0_13) := (blk_cell BK121.out 13).trans rfl
                              have hfz60_0 := blk_frozen BK121.out 0
                              have hfz60_1 := blk_frozen BK121.out 1
                              have hfz60_2 := blk_frozen BK121.out 2
                              have hfz60_3 := blk_frozen BK121.out 3
                              have hfz60_4 := blk_frozen BK121.out 4
                              have hfz60_5 := blk_frozen BK121.out 5
                              have hfz60_6 := blk_frozen BK121.out 6
                              have hfz60_7 := blk_frozen BK121.out 7
                              have hfz60_8 := blk_frozen BK121.out 8
                              have hfz60_9 := blk_frozen BK121.out 9
                              have hfz60_10 := blk_frozen BK121.out 10
                              have hfz60_11 := blk_frozen BK121.out 11
                              have hfz60_12 := blk_frozen BK121.out 12
                              have hfz60_13 := blk_frozen BK121.out 13
                              go_wp2
                              go_ret
                              exact ⟨by first | rfl | (simp [errW_none, errW_some] <;> rfl) | (simp [*, errW_none, errW_some] <;> rfl), by repeat (first | (with_reducible first | exact HB.out | apply below_alloc | apply pw_below_drewN | apply below_drew1 | refine below_set ?_ GE121.out) | exact HB.out)⟩
                      · rw [if_neg c51] at H
                        have c51b0 : (a0_0 == 4) = false := beq_eq_false_iff_ne.mpr c51
                        have c51b1 : (a0_0 != 4) = true := bne_iff_ne.mpr c51
                        by_cases c61 : a0_0 = 8
                        · rw [if_pos c61] at H
                          have c61b0 : (a0_0 == 8) = true := beq_iff_eq.mpr c61
                          have c61b1 : (a0_0 != 8) = false := bne_eq_false_iff_eq.mpr c61
                          clear c61
                          by_cases c62 : a0_2 < 0
                          · rw [if_pos c62] at H
                            have c62b0 : decide (a0_2 < 0) = true := decide_eq_true c62
                            clear c62
                            obtain rfl := Option.some.inj H
                            have hcz63_0 : wc.cell? ⟨gb121, 0, none⟩ = some (.int .i64 a0_0) := (blk_cell BK121.out 0).trans rfl
                            have hcz63_1 : wc.cell? ⟨gb121, 1, none⟩ = some (.int .i64 a0_1) := (blk_cell BK121.out 1).trans rfl
                            have hcz63_2 : wc.cell? ⟨gb121, 2, none⟩ = some (.int .i64 a0_2) := (blk_cell BK121.out 2).trans rfl
                            have hcz63_3 : wc.cell? ⟨gb121, 3, none⟩ = some (.int .i64 a0_3) := (blk_cell BK121.out 3).trans rfl
                            have hcz63_4 : wc.cell? ⟨gb121, 4, none⟩ = some (.int .i64 a0_4) := (blk_cell BK121.out 4).trans rfl
                            have hcz63_5 : wc.cell? ⟨gb121, 5, none⟩ = some (.string a0_5) := (blk_cell BK121.out 5).trans rfl
                            have hcz63_6 : wc.cell? ⟨gb121, 6, none⟩ = some (.int .i64 a0_6) := (blk_cell BK121.out 6).trans rfl
                            have hcz63_7 : wc.cell? ⟨gb121, 7, none⟩ = some (.slice A0_7 l0_7.length c0_7) := (blk_cell BK121.out 7).trans rfl
                            have hcz63_8 : wc.cell? ⟨gb121, 8, none⟩ = some (.slice A0_8 l0_8.length c0_8) := (blk_cell BK121.out 8).trans rfl
                            have hcz63_9 : wc.cell? ⟨gb121, 9, none⟩ = some (.bool a0_9) := (blk_cell BK121.out 9).trans rfl
                            have hcz63_10 : wc.cell? ⟨gb121, 10, none⟩ = some (.bool a0_10) := (blk_cell BK121.out 10).trans rfl
                            have hcz63_11 : wc.cell? ⟨gb121, 11, none⟩ = some (.slice A0_11 l0_11.length c0_11) := (blk_cell BK121.out 11).trans rfl
                            have hcz63_12 : wc.cell? ⟨gb121, 12, none⟩ = some (.int .i64 a0_12) := (blk_cell BK121.out 12).trans rfl
                            have hcz63_13 : wc.cell? ⟨gb121, 13, none⟩ = some (.slice A0_13 l0_13.length c0_13) := (blk_cell BK121.out 13).trans rfl
                            have hfz63_0 := blk_frozen BK121.out 0
                            have hfz63_1 := blk_frozen BK121.out 1
                            have hfz63_2 := blk_frozen BK121.out 2
                            have hfz63_3 := blk_frozen BK121.out 3
                            have hfz63_4 := blk_frozen BK121.out 4
                            have hfz63_5 := blk_frozen BK121.out 5
                            have hfz63_6 := blk_frozen BK121.out 6
                            have hfz63_7 := blk_frozen BK121.out 7
                            have hfz63_8 := blk_frozen BK121.out 8
                            have hfz63_9 := blk_frozen BK121.out 9
                            have hfz63_10 := blk_frozen BK121.out 10
                            have hfz63_11 := blk_frozen BK121.out 11
                            have hfz63_12 := blk_frozen BK121.out 12
                            have hfz63_13 := blk_frozen BK121.out 13
                            go_wp2
                            go_ret
                            exact ⟨by first | rfl | (simp [errW_none, errW_some] <;> rfl) | (simp [*, errW_none, errW_some] <;> rfl), by repeat (first | (with_reducible first | exact HB.out | apply below_alloc | apply pw_below_drewN | apply below_drew1 | refine below_set ?_ GE121.out) | exact HB.out)⟩
                          · rw [if_neg c62] at H
                            have c62b0 : decide (a0_2 < 0) = false := decide_eq_false c62
                            clear c62
                            by_cases c64 : a0_2 ≥ a1
                            · rw [if_pos c64] at H
                              have c64b0 : decide (a1 ≤ a0_2) = true := decide_eq_true c64
                              clear c64
                              obtain rfl := Option.some.inj H
                              have hcz65_0 : wc.cell? ⟨gb121, 0, none⟩ = some (.int .i64 a0_0) := (blk_cell BK121.out 0).trans rfl
                              have hcz65_1 : wc.cell? ⟨gb121, 1, none⟩ = some (.int .i64 a0_1) := (blk_cell BK121.out 1).trans rfl
                              have hcz65_2 : wc.cell? ⟨gb121, 2, none⟩ = some (.int .i64 a0_2) := (blk_cell BK121.out 2).trans rfl
                              have hcz65_3 : wc.cell? ⟨gb121, 3, none⟩ = some (.int .i64 a0_3) := (blk_cell BK121.out 3).trans rfl
                              have hcz65_4 : wc.cell? ⟨gb121, 4, none⟩ = some (.int .i64 a0_4) := (blk_cell BK121.out 4).trans rfl
                              have hcz65_5 : wc.cell? ⟨gb121, 5, none⟩ = some (.string a0_5) := (blk_cell BK121.out 5).trans rfl
                              have hcz65_6 : wc.cell? ⟨gb121, 6, none⟩ = some (.int .i64 a0_6) := (blk_cell BK121.out 6).trans rfl
                              have hcz65_7 : wc.cell? ⟨gb121, 7, none⟩ = some (.slice A0_7 l0_7.length c0_7) := (blk_cell BK121.out 7).trans rfl
                              have hcz65_8 : wc.cell? ⟨gb121, 8, none⟩ = some (.slice A0_8 l0_8.length c0_8) := (blk_cell BK121.out 8).trans rfl
                              have hcz65_9 : wc.cell? ⟨gb121, 9, none⟩ = some (.bool a0_9) := (blk_cell BK121.out 9).trans rfl
                              have hcz65_10 : wc.cell? ⟨gb121, 10, none⟩ = some (.bool a0_10) := (blk_cell BK121.out 10).trans rfl
                              have hcz65_11 : wc.cell? ⟨gb121, 11, none⟩ = some (.slice A0_11 l0_11.length c0_11) := (blk_cell BK121.out 11).trans rfl
                              have hcz65_12 : wc.cell? ⟨gb121, 12, none⟩ = some (.int .i64 a0_12) := (blk_cell BK121.out 12).trans rfl
                              have hcz65_13 : wc.cell? ⟨gb121, 13, none⟩ = some (.slice A0_13 l0_13.length c0_13) := (blk_cell BK121.out 13).trans rfl
                              have hfz65_0 := blk_frozen BK121.out 0
                              have hfz65_1 := blk_frozen BK121.out 1
                              have hfz65_2 := blk_frozen BK121.out 2
                              have hfz65_3 := blk_frozen BK121.out 3
                              have hfz65_4 := blk_frozen BK121.out 4
                              have hfz65_5 := blk_frozen BK121.out 5
                              have hfz65_6 := blk_frozen BK121.out 6
                              have hfz65_7 := blk_frozen BK121.out 7
                              have hfz65_8 := blk_frozen BK121.out 8
                              have hfz65_9 := blk_frozen BK121.out 9
                              have hfz65_10 := blk_frozen BK121.out 10
                              have hfz65_11 := blk_frozen BK121.out 11
                              have hfz65_12 := blk_frozen BK121.out 12
                              have hfz65_13 := blk_frozen BK121.out 13
                              go_wp2
                              go_ret
                              exact ⟨by first | rfl | (simp [errW_none, errW_some] <;> rfl) | (simp [*, errW_none, errW_some] <;> rfl), by repeat (first | (with_reducible first | exact HB.out | apply below_alloc | apply pw_below_drewN | apply below_drew1 | refine below_set ?_ GE121.out) | exact HB.out)⟩
                            · rw [if_neg c64] at H
                              have c64b0 : decide (a1 ≤ a0_2) = false := decide_eq_false c64
                              clear c64
                              by_cases c66 : a0_0 = 2
                              · rw [if_pos c66] at H
                                have c66b0 : (a0_0 == 2) = true := beq_iff_eq.mpr c66
                                have c66b1 : (a0_0 != 2) = false := bne_eq_false_iff_eq.mpr c66
                                clear c66
                                by_cases c67 : (a0_6 < (-1))
                                · rw [if_pos c67] at H
                                  have c67b0 : decide (a0_6 < (-1)) = true := decide_eq_true c67
                                  clear c67
                                  obtain rfl := Option.some.inj H
                                  have hcz68_0 : wc.cell? ⟨gb121, 0, none⟩ = some (.int .i64 a0_0) := (blk_cell BK121.out 0).trans rfl
                                  have hcz68_1 : wc.cell? ⟨gb121, 1, none⟩ = some (.int .i64 a0_1) := (blk_cell BK121.out 1).trans rfl
                                  have hcz68_2 : wc.cell? ⟨gb121, 2, none⟩ = some (.int .i64 a0_2) := (blk_cell BK121.out 2).trans rfl
                                  have hcz68_3 : wc.cell? ⟨gb121, 3, none⟩ = some (.int .i64 a0_3) := (blk_cell BK121.out 3).trans rfl
                                  have hcz68_4 : wc.cell? ⟨gb121, 4, none⟩ = some (.int .i64 a0_4) := (blk_cell BK121.out 4).trans rfl
                                  have hcz68_5 : wc.cell? ⟨gb121, 5, none⟩ = some (.string a0_5) := (blk_cell BK121.out 5).trans rfl
                                  have hcz68_6 : wc.cell? ⟨gb121, 6, none⟩ = some (.int .i64 a0_6) := (blk_cell BK121.out 6).trans rfl
                                  have hcz68_7 : wc.cell? ⟨gb121, 7, none⟩ = some (.slice A0_7 l0_7.length c0_7) := (blk_cell BK121.out 7).trans rfl
                                  have hcz68_8 : wc.cell? ⟨gb121, 8, none⟩ = some (.slice A0_8 l0_8.length c0_8) := (blk_cell BK121.out 8).trans rfl
                                  have hcz68_9 : wc.cell? ⟨gb121, 9, none⟩ = some (.bool a0_9) := (blk_cell BK121.out 9).trans rfl
                                  have hcz68_10 : wc.cell? ⟨gb121, 10, none⟩ = some (.bool a0_10) := (blk_cell BK121.out 10).trans rfl
                                  have hcz68_11 : wc.cell? ⟨gb121, 11, none⟩ = some (.slice A0_11 l0_11.length c0_11) := (blk_cell BK121.out 11).trans rfl
                                  have hcz68_12 : wc.cell? ⟨gb121, 12, none⟩ = some (.int .i64 a0_12) := (blk_cell BK121.out 12).trans rfl
                                  have hcz68_13 : wc.cell? ⟨gb121, 13, none⟩ = some (.slice A0_13 l0_13.length c0_13) := (blk_cell BK121.out 13).trans rfl
                                  have hfz68_0 := blk_frozen BK121.out 0
                                  have hfz68_1 := blk_frozen BK121.out 1
                                  have hfz68_2 := blk_frozen BK121.out 2
                                  have hfz68_3 := blk_frozen BK121.out 3
                                  have hfz68_4 := blk_frozen BK121.out 4
                                  have hfz68_5 := blk_frozen BK121.out 5
                                  have hfz68_6 := blk_frozen BK121.out 6
                                  have hfz68_7 := blk_frozen BK121.out 7
                                  have hfz68_8 := blk_frozen BK121.out 8
                                  have hfz68_9 := blk_frozen BK121.out 9
                                  have hfz68_10 := blk_frozen BK121.out 10
                                  have hfz68_11 := blk_frozen BK121.out 11
                                  have hfz68_12 := blk_frozen BK121.out 12
                                  have hfz68_13 := blk_frozen BK121.out 13
                                  go_wp2
                                  go_ret
                                  exact ⟨by first | rfl | (simp [errW_none, errW_some] <;> rfl) | (simp [*, errW_none, errW_some] <;> rfl), by repeat (first | (with_reducible first | exact HB.out | apply below_alloc | apply pw_below_drewN | apply below_drew1 | refine below_set ?_ GE121.out) | exact HB.out)⟩
                                · rw [if_neg c67] at H
                                  have c67b0 : decide (a0_6 < (-1)) = false := decide_eq_false c67
                                  clear c67
                                  obtain rfl := Option.some.inj H
                                  have hcz69_0 : wc.cell? ⟨gb121, 0, none⟩ = some (.int .i64 a0_0) := (blk_cell BK121.out 0).trans rfl
                                  have hcz69_1 : wc.cell? ⟨gb121, 1, none⟩ = some (.int .i64 a0_1) := (blk_cell BK121.out 1).trans rfl
                                  have hcz69_2 : wc.cell? ⟨gb121, 2, none⟩ = some (.int .i64 a0_2) := (blk_cell BK121.out 2).trans rfl
                                  have hcz69_3 : wc.cell? ⟨gb121, 3, none⟩ = some (.int .i64 a0_3) := (blk_cell BK121.out 3).trans rfl
                                  have hcz69_4 : wc.cell? ⟨gb121, 4, none⟩ = some (.int .i64 a0_4) := (blk_cell BK121.out 4).trans rfl
                                  have hcz69_5 : wc.cell? ⟨gb121, 5, none⟩ = some (.string a0_5) := (blk_cell BK121.out 5).trans rfl
                                  have hcz69_6 : wc.cell? ⟨gb121, 6, none⟩ = some (.int .i64 a0_6) := (blk_cell BK121.out 6).trans rfl
                                  have hcz69_7 : wc.cell? ⟨gb121, 7, none⟩ = some (.slice A0_7 l0_7.length c0_7) := (blk_cell BK121.out 7).trans rfl
                                  have hcz69_8 : wc.cell? ⟨gb121, 8, none⟩ = some (.slice A0_8 l0_8.length c0_8) := (blk_cell BK121.out 8).trans rfl
                                  have hcz69_9 : wc.cell? ⟨gb121, 9, none⟩ = some (.bool a0_9) := (blk_cell BK121.out 9).trans rfl
                                  have hcz69_10 : wc.cell? ⟨gb121, 10, none⟩ = some (.bool a0_10) := (blk_cell BK121.out 10).trans rfl
                                  have hcz69_11 : wc.cell? ⟨gb121, 11, none⟩ = some (.slice A0_11 l0_11.length c0_11) := (blk_cell BK121.out 11).trans rfl
                                  have hcz69_12 : wc.cell? ⟨gb121, 12, none⟩ = some (.int .i64 a0_12) := (blk_cell BK121.out 12).trans rfl
                                  have hcz69_13 : wc.cell? ⟨gb121, 13, none⟩ = some (.slice A0_13 l0_13.length c0_13) := (blk_cell BK121.out 13).trans rfl
                                  have hfz69_0 := blk_frozen BK121.out 0
                                  have hfz69_1 := blk_frozen BK121.out 1
                                  have hfz69_2 := blk_frozen BK121.out 2
                                  have hfz69_3 := blk_frozen BK121.out 3
                                  have hfz69_4 := blk_frozen BK121.out 4
                                  have hfz69_5 := blk_frozen BK121.out 5
                                  have hfz69_6 := blk_frozen BK121.out 6
                                  have hfz69_7 := blk_frozen BK121.out 7
                                  have hfz69_8 := blk_frozen BK121.out 8
                                  have hfz69_9 := blk_frozen BK121.out 9
                                  have hfz69_10 := blk_frozen BK121.out 10
                                  have hfz69_11 := blk_frozen BK121.out 11
                                  have hfz69_12 := blk_frozen BK121.out 12
                                  have hfz69_13 := blk_frozen BK121.out 13
                                  go_wp2
                                  go_ret
                                  exact ⟨by first | rfl | (simp [errW_none, errW_some] <;> rfl) | (simp [*, errW_none, errW_some] <;> rfl), by repeat (first | (with_reducible first | exact HB.out | apply below_alloc | apply pw_below_drewN | apply below_drew1 | refine below_set ?_ GE121.out) | exact HB.out)⟩
                              · rw [if_neg c66] at H
                                have c66b0 : (a0_0 == 2) = false := beq_eq_false_iff_ne.mpr c66
                                have c66b1 : (a0_0 != 2) = true := bne_iff_ne.mpr c66
                                obtain rfl := Option.some.inj H
                                have hcz70_0 : wc.cell? ⟨gb121, 0, none⟩ = some (.int .i64 a0_0) := (blk_cell BK121.out 0).trans rfl
                                have hcz70_1 : wc.cell? ⟨gb121, 1, none⟩ = some (.int .i64 a0_1) := (blk_cell BK121.out 1).trans rfl
                                have hcz70_2 : wc.cell? ⟨gb121, 2, none⟩ = some (.int .i64 a0_2) := (blk_cell BK121.out 2).trans rfl
                                have hcz70_3 : wc.cell? ⟨gb121, 3, none⟩ = some (.int .i64 a0_3) := (blk_cell BK121.out 3).trans rfl
                                have hcz70_4 : wc.cell? ⟨gb121, 4, none⟩ = some (.int .i64 a0_4) := (blk_cell BK121.out 4).trans rfl
                                have hcz70_5 : wc.cell? ⟨gb121, 5, none⟩ = some (.string a0_5) := (blk_cell BK121.out 5).trans rfl
                                have hcz70_6 : wc.cell? ⟨gb121, 6, none⟩ = some (.int .i64 a0_6) := (blk_cell BK121.out 6).trans rfl
                                have hcz70_7 : wc.cell? ⟨gb121, 7, none⟩ = some (.slice A0_7 l0_7.length c0_7) := (blk_cell BK121.out 7).trans rfl
                                have hcz70_8 : wc.cell? ⟨gb121, 8, none⟩ = some (.slice A0_8 l0_8.length c0_8) := (blk_cell BK121.out 8).trans rfl
                                have hcz70_9 : wc.cell? ⟨gb121, 9, none⟩ = some (.bool a0_9) := (blk_cell BK121.out 9).trans rfl
                                have hcz70_10 : wc.cell? ⟨gb121, 10, none⟩ = some (.bool a0_10) := (blk_cell BK121.out 10).trans rfl
                                have hcz70_11 : wc.cell? ⟨gb121, 11, none⟩ = some (.slice A0_11 l0_11.length c0_11) := (blk_cell BK121.out 11).trans rfl
                                have hcz70_12 : wc.cell? ⟨gb121, 12, none⟩ = some (.int .i64 a0_12) := (blk_cell BK121.out 12).trans rfl
                                have hcz70_13 : wc.cell? ⟨gb121, 13, none⟩ = some (.slice A0_13 l0_13.length c0_13) := (blk_cell BK121.out 13).trans rfl
                                have hfz70_0 := blk_frozen BK121.out 0
                                have hfz70_1 := blk_frozen BK121.out 1
                                have hfz70_2 := blk_frozen BK121.out 2
                                have hfz70_3 := blk_frozen BK121.out 3
                                have hfz70_4 := blk_frozen BK121.out 4
                                have hfz70_5 := blk_frozen BK121.out 5
                                have hfz70_6 := blk_frozen BK121.out 6
                                have hfz70_7 := blk_frozen BK121.out 7
                                have hfz70_8 := blk_frozen BK121.out 8
                                have hfz70_9 := blk_frozen BK121.out 9
                                have hfz70_10 := blk_frozen BK121.out 10
                                have hfz70_11 := blk_frozen BK121.out 11
                                have hfz70_12 := blk_frozen BK121.out 12
                                have hfz70_13 := blk_frozen BK121.out 13
                                go_wp2
                                go_ret
                                exact ⟨by first | rfl | (simp [errW_none, errW_some] <;> rfl) | (simp [*, errW_none, errW_some] <;> rfl), by repeat (first | (with_reducible first | exact HB.out | apply below_alloc | apply pw_below_drewN | apply below_drew1 | refine below_set ?_ GE121.out) | exact HB.out)⟩
                        · rw [if_neg c61] at H
                          have c61b0 : (a0_0 == 8) = false := beq_eq_false_iff_ne.mpr c61
                          have c61b1 : (a0_0 != 8) = true := bne_iff_ne.mpr c61
                          by_cases c71 : a0_0 = 2
                          · rw [if_pos c71] at H
                            have c71b0 : (a0_0 == 2) = true := beq_iff_eq.mpr c71
                            have c71b1 : (a0_0 != 2) = false := bne_eq_false_iff_eq.mpr c71
                            clear c71
                            by_cases c72 : (a0_6 < (-1))
                            · rw [if_pos c72] at H
                              have c72b0 : decide (a0_6 < (-1)) = true := decide_eq_true c72
                              clear c72
                              obtain rfl := Option.some.inj H
                              have hcz73_0 : wc.cell? ⟨gb121, 0, none⟩ = some (.int .i64 a0_0) := (blk_cell BK121.out 0).trans rfl
                              have hcz73_1 : wc.cell? ⟨gb121, 1, none⟩ = some (.int .i64 a0_1) := (blk_cell BK121.out 1).trans rfl
                              have hcz73_2 : wc.cell? ⟨gb121, 2, none⟩ = some (.int .i64 a0_2) := (blk_cell BK121.out 2).trans rfl
                              have hcz73_3 : wc.cell? ⟨gb121, 3, none⟩ = some (.int .i64 a0_3) := (blk_cell BK121.out 3).trans rfl
                              have hcz73_4 : wc.cell? ⟨gb121, 4, none⟩ = some (.int .i64 a0_4) := (blk_cell BK121.out 4).trans rfl
                              have hcz73_5 : wc.cell? ⟨gb121, 5, none⟩ = some (.string a0_5) := (blk_cell BK121.out 5).trans rfl
                              have hcz73_6 : wc.cell? ⟨gb121, 6, none⟩ = some (.int .i64 a0_6) := (blk_cell BK121.out 6).trans rfl
                              have hcz73_7 : wc.cell? ⟨gb121, 7, none⟩ = some (.slice A0_7 l0_7.length c0_7) := (blk_cell BK121.out 7).trans rfl
                              have hcz73_8 : wc.cell? ⟨gb121, 8, none⟩ = some (.slice A0_8 l0_8.length c0_8) := (blk_cell BK121.out 8).trans rfl
                              have hcz73_9 : wc.cell? ⟨gb121, 9, none⟩ = some (.bool a0_9) := (blk_cell BK121.out 9).trans rfl
                              have hcz73_10 : wc.cell? ⟨gb121, 10, none⟩ = some (.bool a0_10) := (blk_cell BK121.out 10).trans rfl
                              have hcz73_11 : wc.cell? ⟨gb121, 11, none⟩ = some (.slice A0_11 l0_11.length c0_11) := (blk_cell BK121.out 11).trans rfl
                              have hcz73_12 : wc.cell? ⟨gb121, 12, none⟩ = some (.int .i64 a0_12) := (blk_cell BK121.out 12).trans rfl
                              have hcz73_13 : wc.cell? ⟨gb121, 13, none⟩ = some (.slice A0_13 l0_13.length c0_13) := (blk_cell BK121.out 13).trans rfl
                              have hfz73_0 := blk_frozen BK121.out 0
                              have hfz73_1 := blk_frozen BK121.out 1
                              have hfz73_2 := blk_frozen BK121.out 2
                              have hfz73_3 := blk_frozen BK121.out 3
                              have hfz73_4 := blk_frozen BK121.out 4
                              have hfz73_5 := blk_frozen BK121.out 5
                              have hfz73_6 := blk_frozen BK121.out 6
                              have hfz73_7 := blk_frozen BK121.out 7
                              have hfz73_8 := blk_frozen BK121.out 8
                              have hfz73_9 := blk_frozen BK121.out 9
                              have hfz73_10 := blk_frozen BK121.out 10
                              have hfz73_11 := blk_frozen BK121.out 11
                              have hfz73_12 := blk_frozen BK121.out 12
                              have hfz73_13 := blk_frozen BK121.out 13
                              go_wp2
                              go_ret
                              exact ⟨by first | rfl | (simp [errW_none, errW_some] <;> rfl) | (simp [*, errW_none, errW_some] <;> rfl), by repeat (first | (with_reducible first | exact HB.out | apply below_alloc | apply pw_below_drewN | apply below_drew1 | refine below_set ?_ GE121.out) | exact HB.out)⟩
                            · rw [if_neg c72] at H
                              have c72b0 : decide (a0_6 < (-1)) = false := decide_eq_false c72
                              clear c72
                              obtain rfl := Option.some.inj H
                              have hcz74_0 : wc.cell? ⟨gb121, 0, none⟩ = some (.int .i64 a0_0) := (blk_cell BK121.out 0).trans rfl
                              have hcz74_1 : wc.cell? ⟨gb121, 1, none⟩ = some (.int .i64 a0_1) := (blk_cell BK121.out 1).trans rfl
                              have hcz74_2 : wc.cell? ⟨gb121, 2, none⟩ = some (.int .i64 a0_2) := (blk_cell BK121.out 2).trans rfl
                              have hcz74_3 : wc.cell? ⟨gb121, 3, none⟩ = some (.int .i64 a0_3) := (blk_cell BK121.out 3).trans rfl
                              have hcz74_4 : wc.cell? ⟨gb121, 4, none⟩ = some (.int .i64 a0_4) := (blk_cell BK121.out 4).trans rfl
                              have hcz74_5 : wc.cell? ⟨gb121, 5, none⟩ = some (.string a0_5) := (blk_cell BK121.out 5).trans rfl
                              have hcz74_6 : wc.cell? ⟨gb121, 6, none⟩ = some (.int .i64 a0_6) := (blk_cell BK121.out 6).trans rfl
                              have hcz74_7 : wc.cell? ⟨gb121, 7, none⟩ = some (.slice A0_7 l0_7.length c0_7) := (blk_cell BK121.out 7).trans rfl
                              have hcz74_8 : wc.cell? ⟨gb121, 8, none⟩ = some (.slice A0_8 l0_8.length c0_8) := (blk_cell BK121.out 8).trans rfl
                              have hcz74_9 : wc.cell? ⟨gb121, 9, none⟩ = some (.bool a0_9) := (blk_cell BK121.out 9).trans rfl
                              have hcz74_10 : wc.cell? ⟨gb121, 10, none⟩ = some (.bool a0_10) := (blk_cell BK121.out 10).trans rfl
                              have hcz74_11 : wc.cell? ⟨gb121, 11, none⟩ = some (.slice A0_11 l0_11.length c0_11) := (blk_cell BK121.out 11).trans rfl
                              have hcz74_12 : wc.cell? ⟨gb121, 12, none⟩ = some (.int .i64 a0_12) := (blk_cell BK121.out 12).trans rfl
                              have hcz74_13 : wc.cell? ⟨gb121, 13, none⟩ = some (.slice A0_13 l0_13.length c0_13) := (blk_cell BK121.out 13).trans rfl
                              have hfz74_0 := blk_frozen BK121.out 0
                              have hfz74_1 := blk_frozen BK121.out 1
                              have hfz74_2 := blk_frozen BK121.out 2
                              have hfz74_3 := blk_frozen BK121.out 3
                              have hfz74_4 := blk_frozen BK121.out 4
                              have hfz74_5 := blk_frozen BK121.out 5
                              have hfz74_6 := blk_frozen BK121.out 6
                              have hfz74_7 := blk_frozen BK121.out 7
                              have hfz74_8 := blk_frozen BK121.out 8
                              have hfz74_9 := blk_frozen BK121.out 9
                              have hfz74_10 := blk_frozen BK121.out 10
                              have hfz74_11 := blk_frozen BK121.out 11
                              have hfz74_12 := blk_frozen BK121.out 12
                              have hfz74_13 := blk_frozen BK121.out 13
                              go_wp2
                              go_ret
                              exact ⟨by first | rfl | (simp [errW_none, errW_some] <;> rfl) | (simp [*, errW_none, errW_some] <;> rfl), by repeat (first | (with_reducible first | exact HB.out | apply below_alloc | apply pw_below_drewN | apply below_drew1 | refine below_set ?_ GE121.out) | exact HB.out)⟩
                          · rw [if_neg c71] at H
                            have c71b0 : (a0_0 == 2) = false := beq_eq_false_iff_ne.mpr c71
                            have c71b1 : (a0_0 != 2) = true := bne_iff_ne.mpr c71
                            obtain rfl := Option.some.inj H
                            have hcz75_0 : wc.cell? ⟨gb121, 0, none⟩ = some (.int .i64 a0_0) := (blk_cell BK121.out 0).trans rfl
                            have hcz75_1 : wc.cell? ⟨gb121, 1, none⟩ = some (.int .i64 a0_1) := (blk_cell BK121.out 1).trans rfl
                            have hcz75_2 : wc.cell? ⟨gb121, 2, none⟩ = some (.int .i64 a0_2) := (blk_cell BK121.out 2).trans rfl
                            have hcz75_3 : wc.cell? ⟨gb121, 3, none⟩ = some (.int .i64 a0_3) := (blk_cell BK121.out 3).trans rfl
                            have hcz75_4 : wc.cell? ⟨gb121, 4, none⟩ = some (.int .i64 a0_4) := (blk_cell BK121.out 4).trans rfl
                            have hcz75_5 : wc.cell? ⟨gb121, 5, none⟩ = some (.string a0_5) := (blk_cell BK121.out 5).trans rfl
                            have hcz75_6 : wc.cell? ⟨gb121, 6, none⟩ = some (.int .i64 a0_6) := (blk_cell BK121.out 6).trans rfl
                            have hcz75_7 : wc.cell? ⟨gb121, 7, none⟩ = some (.slice A0_7 l0_7.length c0_7) := (blk_cell BK121.out 7).trans rfl
                            have hcz75_8 : wc.cell? ⟨gb121, 8, none⟩ = some (.slice A0_8 l0_8.length c0_8) := (blk_cell BK121.out 8).trans rfl
                            have hcz75_9 : wc.cell? ⟨gb121, 9, none⟩ = some (.bool a0_9) := (blk_cell BK121.out 9).trans rfl
                            have hcz75_10 : wc.cell? ⟨gb121, 10, none⟩ = some (.bool a0_10) := (blk_cell BK121.out 10).trans rfl
                            have hcz75_11 : wc.cell? ⟨gb121, 11, none⟩ = some (.slice A0_11 l0_11.length c0_11) := (blk_cell BK121.out 11).trans rfl
                            have hcz75_12 : wc.cell? ⟨gb121, 12, none⟩ = some (.int .i64 a0_12) := (blk_cell BK121.out 12).trans rfl
                            have hcz75_13 : wc.cell? ⟨gb121, 13, none⟩ = some (.slice A0_13 l0_13.length c0_13) := (blk_cell BK121.out 13).trans rfl
                            have hfz75_0 := blk_frozen BK121.out 0
                            have hfz75_1 := blk_frozen BK121.out 1
                            have hfz75_2 := blk_frozen BK121.out 2
                            have hfz75_3 := blk_frozen BK121.out 3
                            have hfz75_4 := blk_frozen BK121.out 4
                            have hfz75_5 := blk_frozen BK121.out 5
                            have hfz75_6 := blk_frozen BK121.out 6
                            have hfz75_7 := blk_frozen BK121.out 7
                            have hfz75_8 := blk_frozen BK121.out 8
                            have hfz75_9 := blk_frozen BK121.out 9
                            have hfz75_10 := blk_frozen BK121.out 10
                            have hfz75_11 := blk_frozen BK121.out 11
                            have hfz75_12 := blk_frozen BK121.out 12
                            have hfz75_13 := blk_frozen BK121.out 13
                            go_wp2
                            go_ret
                            exact ⟨by first | rfl | (simp [errW_none, errW_some] <;> rfl) | (simp [*, errW_none, errW_some] <;> rfl), by repeat (first | (with_reducible first | exact HB.out | apply below_alloc | apply pw_below_drewN | apply below_drew1 | refine below_set ?_ GE121.out) | exact HB.out)⟩
end Go.Proofs.Ytfnmploaklboiaa.V
