import Derived.Test.YtbdengnadgofmaaZdVx0
namespace Go.Proofs.Ytbdengnadgofmaa.V
open Go.RowKit Go.Proofs.YtbdengnadgofmaaW.PrintWords Go.Proofs.YtbdengnadgofmaaW.PrintLast Go.Proofs.YtbdengnadgofmaaW.PrintMore
attribute [local go_sem] max2_int min2_int max_two min_two max_three min_three max_four min_four   -- for this text's walks alone
set_option linter.unusedVariables false
set_option linter.unusedSimpArgs false
/-! ### haspref02_CopyRow: function 11 -/
def haspref02_CopyRow.l0 : Nat → List (S25) → List (S25) → Int → Option ((List (S25)))
  | 0, _, _, _ => none
  | k + 1, x0, x3, x4 => if x4 < (x0.length : Int) then (if 0 ≤ x4 then (if x3.length < 4398046511104 then (haspref02_CopyRow.l0 k x0 (x3 ++ [(⟨(rd_T25 x0 x4).f0, (rd_T25 x0 x4).f1, (rd_T25 x0 x4).f2⟩ : S25)]) (wrap64 (x4 + 1))) else (none)) else (none)) else (some x3)
def haspref02_CopyRow.f (k : Nat) (l0 : List (S25)) : Option ((List (S25))) := haspref02_CopyRow.l0 k l0 (([] : List (S25))) 0
set_option maxHeartbeats 8000000 in
set_option maxRecDepth 100000 in
theorem haspref02_CopyRow.calls (k : Nat) (A0 : Option Addr) (c0 : Nat) (l0 : List (S25)) (r : List (S25)) (w : World) (hr0 : Kd.C k25 w A0 l0.length l0) (hc0 : l0.length ≤ c0) (h : haspref02_CopyRow.f k l0 = some r) :
    Calls Try.prog 11 #[.slice A0 l0.length c0] w fun e w' => ∃ v0_ : Value, e = .returned (v0_) ∧ Kd.R k25 25 w' w.heap.size (fun _ => True) v0_ r ∧ Below w.heap.size w w' := by
  have hu25 := Try.underlying25
  have HR0 := Aside0.mk hr0
  have HC0 := Aside0.mk hc0
  clear hr0 hc0
  have HB := Aside0.mk (Below.refl w.heap.size w)
  have H : (haspref02_CopyRow.l0 k l0 (([] : List (S25))) 0) = some r := h
  clear h
  obtain ⟨y133, hy133⟩ : ∃ y_ : List (S25), y_ = (([] : List (S25))) := ⟨_, rfl⟩
  replace H : (haspref02_CopyRow.l0 k l0 y133 0) = some r := by first | (rw [hy133]; with_reducible exact H) | (have H2_ := (Option.bind_some _ _).symm.trans H; rw [hy133]; with_reducible exact H2_) | (have H2_ := (Option.bind_some _ _).symm.trans H; with_reducible exact H2_) | with_reducible exact H | (rw [hy133]; exact H) | exact H
  have Ny133 := Aside0.mk hy133
  clear hy133
  have H' := Aside0.mk H
  clear H
  go_enter Try.func11, Try.ntmps11
  go_wp2_with (first | ((with_reducible refine gate_dst (N := 5) rfl ?_); refine Kd.R_lit k25 _ 25 ?hg (N := 5) ?hd (xs := ([] : List (S25))) (inner := []) (ok := fun _ => True) (okp := fun _ => True) ?hr ?hp (fun _ hk => hk) trivial (Below.refl _ _) (Nat.le_refl _) (by simp) ?_; (case hd => rfl); (case hg => rfl); (case hr => first | (go_simp; done) | (go_simp; rfl)); (case hp => exact (Reps.none _ _)); intro v134 w2 ho3 hb hg_ hnew_; clear hg_ hnew_; (first | rw [← Ny133.out] at ho3 | (simp only [Int.reduceToNat] at ho3; rw [← Ny133.out] at ho3)); have n0_ := Aside0.mk (Kd.R_lower ho3 (below_size (by repeat (first | (with_reducible first | exact HB.out | apply below_alloc | apply pw_below_drewN | apply below_drew1) | exact HB.out)))); have n1_ := Aside0.mk (below_step (by repeat (first | (with_reducible first | exact HB.out | apply below_alloc | apply pw_below_drewN | apply below_drew1) | exact HB.out)) hb); clear HB; have HO135 := n0_; have HB := n1_; clear n0_ n1_; clear hb ho3))
  go_loopg [3, 4] k (fun kq v3 v4 w' => ∃ (x3_1 : List (S25)) (x4_1 : Int), v4 = .int .i64 x4_1 ∧ Aside0 (haspref02_CopyRow.l0 kq l0 x3_1 x4_1 = some r) ∧ Aside0 (kq ≤ k) ∧ Aside0 (Kd.R k25 25 w' w.heap.size (fun _ => True) v3 x3_1) ∧ Aside0 (Below w.heap.size w w'))
  case atStart => exact ⟨(y133), (0), (by first | rfl | (simp; done) | (simp [*]; done) | (simp; exact isEmpty_bne _) | (simp [*]; exact isEmpty_bne _)), H', ⟨Nat.le_refl _⟩, ⟨by (with_reducible repeat (first | apply Kd.R_alloc | apply Kd.R_drewN | apply Kd.R_drew)); exact HO135.out⟩, ⟨by repeat (first | (with_reducible first | exact HB.out | apply below_alloc | apply pw_below_drewN | apply below_drew1) | exact HB.out)⟩⟩
  case round =>
    clear H'
    try clear c1
    try clear p2
    obtain ⟨x3_1, x4_1, rfl, HA, HK1, HO_3, HB⟩ := hrel
    cases gk with
    | zero => exact absurd HA.out (by simp [haspref02_CopyRow.l0])
    | succ k1 =>
      have H := HA.out
      clear HA
      simp only [haspref02_CopyRow.l0] at H
      by_cases c4 : x4_1 < (l0.length : Int)
      · rw [if_pos c4] at H
        have c4b0 : decide (x4_1 < (l0.length : Int)) = true := decide_eq_true c4
        clear c4
        by_cases c5 : 0 ≤ x4_1
        · rw [if_pos c5] at H
          have c5b0 : decide (0 ≤ x4_1) = true := decide_eq_true c5
          clear c5
          by_cases c6 : x3_1.length < 4398046511104
          · rw [if_pos c6] at H
            have LMc6 := Aside0.mk c6
            clear c6
            obtain ⟨y137, hy137⟩ : ∃ y_ : List (S25), y_ = (x3_1 ++ [(⟨(rd_T25 l0 x4_1).f0, (rd_T25 l0 x4_1).f1, (rd_T25 l0 x4_1).f2⟩ : S25)]) := ⟨_, rfl⟩
            replace H : (haspref02_CopyRow.l0 k1 l0 y137 (wrap64 (x4_1 + 1))) = some r := by first | (rw [hy137]; with_reducible exact H) | (have H2_ := (Option.bind_some _ _).symm.trans H; rw [hy137]; with_reducible exact H2_) | (have H2_ := (Option.bind_some _ _).symm.trans H; with_reducible exact H2_) | with_reducible exact H | (rw [hy137]; exact H) | exact H
            have Ny137 := Aside0.mk hy137
            clear hy137
            have H' := Aside0.mk H
            clear H
            have p136 : 0 ≤ (x4_1 : Int) := of_decide_eq_true (by first | (with_reducible assumption) | assumption)
            have q136 : x4_1 < (l0.length : Int) := of_decide_eq_true (by first | (with_reducible assumption) | assumption)
            obtain ⟨ad136, e136, hx136_0, hx136_1, hx136_2⟩ := at_T25 HR0.out x4_1 p136 q136
            cases e136
            replace hx136_0 := (HB.out.cell (World.block_lt_of_cell? w _ hx136_0)).trans hx136_0
            replace hx136_1 := (HB.out.cell (World.block_lt_of_cell? w _ hx136_1)).trans hx136_1
            replace hx136_2 := (HB.out.cell (World.block_lt_of_cell? w _ hx136_2)).trans hx136_2
            replace p136 := eq_true p136
            replace q136 := eq_true q136
            go_wp2_with (first | ((with_reducible refine gate_builtin (b := .append) (xs := #[.tmp 12, .tmp 17]) rfl ?_); at_builtin; refine Kd.R_append k25 (w0 := w) w.heap.size rfl (.tmp 12) (.tmp 17) 23 25 (.agg #[(.int .i64 0), (.int .i64 0), (.string ⟨#[]⟩)]) 32 rfl Try.underlying23 info25 rfl (by decide) (by omega) u3 x3_1 (⟨(rd_T25 l0 x4_1).f0, (rd_T25 l0 x4_1).f1, (rd_T25 l0 x4_1).f2⟩ : S25) [.int .i64 ((rd_T25 l0 x4_1).f0), .int .i64 ((rd_T25 l0 x4_1).f1), .string ((rd_T25 l0 x4_1).f2)] (fun _ => True) (fun _ => False) rfl rfl ?aP (fun _ hk => hk.elim) ?aF ?aO ?aB ?aS ?aL ?_; (case aP => exact k25_mkM _ _ _ (⟨(rd_T25 l0 x4_1).f0, (rd_T25 l0 x4_1).f1, (rd_T25 l0 x4_1).f2⟩ : S25)); (case aB => exact (by repeat (first | (with_reducible first | exact HB.out | apply below_alloc | apply pw_below_drewN | apply below_drew1) | exact HB.out))); (case aF => exact (fun _ _ => trivial)); (case aO => exact (by (with_reducible repeat (first | apply Kd.R_alloc | apply Kd.R_drewN | apply Kd.R_drew)); exact HO_3.out)); (case aS => exact (below_size (by repeat (first | (with_reducible first | exact HB.out | apply below_alloc | apply pw_below_drewN | apply below_drew1) | exact HB.out)))); (case aL => have := LMc6.out; omega); intro v138 w7 ho hb hg hat; rw [← Ny137.out] at ho; have n0_ := Aside0.mk (hb); have n1_ := Aside0.mk (ho); clear HB; clear HO_3; have HB := n0_; have HO139 := n1_; clear n0_ n1_; clear ho hb hg hat))
            go_roundg k1
            case measure => have := HK1.out; omega
            case rel => exact ⟨(y137), (wrap64 (x4_1 + 1)), (by first | rfl | (simp; done) | (simp [*]; done) | (simp; exact isEmpty_bne _) | (simp [*]; exact isEmpty_bne _)), H', ⟨by have := HK1.out; omega⟩, ⟨by (with_reducible repeat (first | apply Kd.R_alloc | apply Kd.R_drewN | apply Kd.R_drew)); exact HO139.out⟩, ⟨by repeat (first | (with_reducible first | exact HB.out | apply below_alloc | apply pw_below_drewN | apply below_drew1) | exact HB.out)⟩⟩
          · rw [if_neg c6] at H
            exact absurd H (by simp)
        · rw [if_neg c5] at H
          exact absurd H (by simp)
      · rw [if_neg c4] at H
        have c4b0 : decide (x4_1 < (l0.length : Int)) = false := decide_eq_false c4
        clear c4
        obtain rfl := Option.some.inj H
        go_wp2
        go_ret
        exact ⟨_, by first | rfl | (simp [errW_none, errW_some] <;> rfl) | (simp [*, errW_none, errW_some] <;> rfl), by (with_reducible repeat (first | apply Kd.R_alloc | apply Kd.R_drewN | apply Kd.R_drew)); exact HO_3.out, by repeat (first | (with_reducible first | exact HB.out | apply below_alloc | apply pw_below_drewN | apply below_drew1) | exact HB.out)⟩
/-! ### haspref03_Count: function 24 -/
def haspref03_Count.j0 : Nat → Int → Bool → Option (Int)
  | 0, _, _ => none
  | k + 1, x0, x8 => if x8 = true then (some 2) else (if x0 ≥ 13 then (if x0 ≤ 15 then (some 1) else (some 0)) else (some 0))
def haspref03_Count.f (k : Nat) (a0 : Int) : Option (Int) := if a0 ≥ 7 then (haspref03_Count.j0 k a0 (decide (a0 ≤ 12))) else (haspref03_Count.j0 k a0 false)
set_option maxHeartbeats 8000000 in
set_option maxRecDepth 100000 in
theorem haspref03_Count.calls (k : Nat) (a0 : Int) (r : Int) (w : World) (h : haspref03_Count.f k a0 = some r) :
    Calls Try.prog 24 #[.int .i64 a0] w fun e w' => e = .returned (.int .i64 r) ∧ Drawn0 w w' := by
  have H : (if a0 ≥ 7 then (haspref03_Count.j0 k a0 (decide (a0 ≤ 12))) else (haspref03_Count.j0 k a0 false)) = some r := h
  clear h
  have HC2 := Aside0.mk H
  clear H
  go_enter Try.func24, Try.ntmps24
  go_upto_region 1 with (fail)
  go_cut [8] (fun v8 wc => ∃ (kq : Nat) (x8_1 : Bool), v8 = .bool x8_1 ∧ Aside0 (haspref03_Count.j0 kq a0 x8_1 = some r) ∧ Aside0 (kq ≤ k) ∧ Drawn0 w wc)
  case first =>
    have H := HC2.out
    clear HC2
    by_cases c3 : a0 ≥ 7
    · rw [if_pos c3] at H
      have c3b0 : decide (7 ≤ a0) = true := decide_eq_true c3
      clear c3
      (first | rw [c3b0] | (simp only [i64_w, i32_w]; rw [c3b0]) | skip)
      have H' := Aside0.mk H
      clear H
      go_wp2
      go_meet
      case rel => exact ⟨_, (decide (a0 ≤ 12)), (by first | rfl | (simp; done) | (simp [*]; done) | (simp; exact isEmpty_bne _) | (simp [*]; exact isEmpty_bne _)), H', ⟨by first | omega | exact Nat.le_refl _⟩, by repeat (first | exact Drawn0.refl _ | apply Drawn0.step)⟩
    · rw [if_neg c3] at H
      have c3b0 : decide (7 ≤ a0) = false := decide_eq_false c3
      clear c3
      (first | rw [c3b0] | (simp only [i64_w, i32_w]; rw [c3b0]) | skip)
      have H' := Aside0.mk H
      clear H
      go_wp2
      go_meet
      case rel => exact ⟨_, (false), (by first | rfl | (simp; done) | (simp [*]; done) | (simp; exact isEmpty_bne _) | (simp [*]; exact isEmpty_bne _)), H', ⟨by first | omega | exact Nat.le_refl _⟩, by repeat (first | exact Drawn0.refl _ | apply Drawn0.step)⟩
  case rest =>
    clear HC2
    try clear c2
    try clear p2
    try clear c3
    try clear c3b0
    obtain ⟨kq, x8_1, rfl, HA, HJ1, ⟨mc1, rfl⟩⟩ := hcut
    cases kq with
    | zero => exact absurd HA.out (by simp [haspref03_Count.j0])
    | succ kj1 =>
      have H := HA.out
      clear HA
      simp only [haspref03_Count.j0] at H
      by_cases c4 : x8_1 = true
      · subst c4
        have H1 : (some 2) = some r := by rw [if_pos rfl] at H; exact H
        clear H
        have H := H1
        clear H1
        obtain rfl := Option.some.inj H
        go_wp2
        go_ret
        exact ⟨by first | rfl | (simp; done) | (simp [*]; done) | (simp; exact isEmpty_bne _) | (simp [*]; exact isEmpty_bne _), by repeat (first | exact Drawn0.refl _ | apply Drawn0.step)⟩
      · replace c4 := Bool.eq_false_iff.mpr c4
        subst c4
        have H1 : (if a0 ≥ 13 then (if a0 ≤ 15 then (some 1) else (some 0)) else (some 0)) = some r := by rw [if_neg (show ¬ (false = true) by decide)] at H; exact H
        clear H
        have H := H1
        clear H1
        by_cases c5 : a0 ≥ 13
        · rw [if_pos c5] at H
          have c5b0 : decide (13 ≤ a0) = true := decide_eq_true c5
          clear c5
          by_cases c6 : a0 ≤ 15
          · rw [if_pos c6] at H
            have c6b0 : decide (a0 ≤ 15) = true := decide_eq_true c6
            clear c6
            obtain rfl := Option.some.inj H
            go_wp2
            go_ret
            exact ⟨by first | rfl | (simp; done) | (simp [*]; done) | (simp; exact isEmpty_bne _) | (simp [*]; exact isEmpty_bne _), by repeat (first | exact Drawn0.refl _ | apply Drawn0.step)⟩
          · rw [if_neg c6] at H
            have c6b0 : decide (a0 ≤ 15) = false := decide_eq_false c6
            clear c6
            obtain rfl := Option.some.inj H
            go_wp2
            go_ret
            exact ⟨by first | rfl | (simp; done) | (simp [*]; done) | (simp; exact isEmpty_bne _) | (simp [*]; exact isEmpty_bne _), by repeat (first | exact Drawn0.refl _ | apply Drawn0.step)⟩
        · rw [if_neg c5] at H
          have c5b0 : decide (13 ≤ a0) = false := decide_eq_false c5
          clear c5
          obtain rfl := Option.some.inj H
          go_wp2
          go_ret
          exact ⟨by first | rfl | (simp; done) | (simp [*]; done) | (simp; exact isEmpty_bne _) | (simp [*]; exact isEmpty_bne _), by repeat (first | exact Drawn0.refl _ | apply Drawn0.step)⟩
/-! ### haspref03_One: function 25 -/
def haspref03_One.j0 : Nat → Int → Int → Bool → Option (Int)
  | 0, _, _, _ => none
  | k + 1, x1, x5, x6 => if x6 = true then (if x1 = 2 then (some x1) else (if x1 = 3 then (some x1) else (some 0))) else (if x5 = 11 then (if x1 = 2 then (some 2) else (some 0)) else (if x5 = 12 then (if x1 = 4 then (some 4) else (some 0)) else (if x5 = 14 then (if x1 ≥ 1 then (if x1 ≤ 3 then (some 2) else (some 0)) else (some 0)) else (if x5 = 15 then (if x1 = 2 then (some 3) else (if x1 = 3 then (some 3) else (some 0))) else (some 0)))))
def haspref03_One.f (k : Nat) (a0 : Int) (a1 : Int) : Option (Int) := if a0 = 7 then (haspref03_One.j0 k a1 a0 (a0 == 7)) else (if a0 = 8 then (haspref03_One.j0 k a1 a0 (a0 == 8)) else (if a0 = 9 then (haspref03_One.j0 k a1 a0 (a0 == 9)) else (if a0 = 10 then (haspref03_One.j0 k a1 a0 (a0 == 10)) else (haspref03_One.j0 k a1 a0 (a0 == 13)))))
set_option maxHeartbeats 8000000 in
set_option maxRecDepth 100000 in
theorem haspref03_One.calls (k : Nat) (a0 : Int) (a1 : Int) (r : Int) (w : World) (h : haspref03_One.f k a0 a1 = some r) :
    Calls Try.prog 25 #[.int .i64 a0, .int .i64 a1] w fun e w' => e = .returned (.int .i64 r) ∧ Drawn0 w w' := by
  have H : (if a0 = 7 then (haspref03_One.j0 k a1 a0 (a0 == 7)) else (if a0 = 8 then (haspref03_One.j0 k a1 a0 (a0 == 8)) else (if a0 = 9 then (haspref03_One.j0 k a1 a0 (a0 == 9)) else (if a0 = 10 then (haspref03_One.j0 k a1 a0 (a0 == 10)) else (haspref03_One.j0 k a1 a0 (a0 == 13)))))) = some r := h
  clear h
  have HC3 := Aside0.mk H
  clear H
  go_enter Try.func25, Try.ntmps25
  go_upto_if 6 with (fail)
  go_cut [6] (fun v6 wc => ∃ (kq : Nat) (x6_2 : Bool), v6 = .bool x6_2 ∧ Aside0 (haspref03_One.j0 kq a1 a0 x6_2 = some r) ∧ Aside0 (kq ≤ k) ∧ Drawn0 w wc)
  case first =>
    have H := HC3.out
    clear HC3
    by_cases c4 : a0 = 7
    · rw [if_pos c4] at H
      have c4b0 : (a0 == 7) = true := beq_iff_eq.mpr c4
      have c4b1 : (a0 != 7) = false := bne_eq_false_iff_eq.mpr c4
      clear c4
      (first | rw [c4b0] | (simp only [i64_w, i32_w]; rw [c4b0]) | skip)
      have H' := Aside0.mk H
      clear H
      go_wp2
      go_meet
      case rel => exact ⟨_, ((a0 == 7)), (by first | rfl | (simp; done) | (simp [*]; done) | (simp; exact isEmpty_bne _) | (simp [*]; exact isEmpty_bne _)), H', ⟨by first | omega | exact Nat.le_refl _⟩, by repeat (first | exact Drawn0.refl _ | apply Drawn0.step)⟩
    · rw [if_neg c4] at H
      have c4b0 : (a0 == 7) = false := beq_eq_false_iff_ne.mpr c4
      have c4b1 : (a0 != 7) = true := bne_iff_ne.mpr c4
      (first | rw [c4b0] | (simp only [i64_w, i32_w]; rw [c4b0]) | skip)
      by_cases c5 : a0 = 8
      · rw [if_pos c5] at H
        have c5b0 : (a0 == 8) = true := beq_iff_eq.mpr c5
        have c5b1 : (a0 != 8) = false := bne_eq_false_iff_eq.mpr c5
        clear c5
        have H' := Aside0.mk H
        clear H
        go_wp2
        go_meet
        case rel => exact ⟨_, ((a0 == 8)), (by first | rfl | (simp; done) | (simp [*]; done) | (simp; exact isEmpty_bne _) | (simp [*]; exact isEmpty_bne _)), H', ⟨by first | omega | exact Nat.le_refl _⟩, by repeat (first | exact Drawn0.refl _ | apply Drawn0.step)⟩
      · rw [if_neg c5] at H
        have c5b0 : (a0 == 8) = false := beq_eq_false_iff_ne.mpr c5
        have c5b1 : (a0 != 8) = true := bne_iff_ne.mpr c5
        by_cases c6 : a0 = 9
        · rw [if_pos c6] at H
          have c6b0 : (a0 == 9) = true := beq_iff_eq.mpr c6
          have c6b1 : (a0 != 9) = false := bne_eq_false_iff_eq.mpr c6
          clear c6
          have H' := Aside0.mk H
          clear H
          go_wp2
          go_meet
          case rel => exact ⟨_, ((a0 == 9)), (by first | rfl | (simp; done) | (simp [*]; done) | (simp; exact isEmpty_bne _) | (simp [*]; exact isEmpty_bne _)), H', ⟨by first | omega | exact Nat.le_refl _⟩, by repeat (first | exact Drawn0.refl _ | apply Drawn0.step)⟩
        · rw [if_neg c6] at H
          have c6b0 : (a0 == 9) = false := beq_eq_false_iff_ne.mpr c6
          have c6b1 : (a0 != 9) = true := bne_iff_ne.mpr c6
          by_cases c7 : a0 = 10
          · rw [if_pos c7] at H
            have c7b0 : (a0 == 10) = true := beq_iff_eq.mpr c7
            have c7b1 : (a0 != 10) = false := bne_eq_false_iff_eq.mpr c7
            clear c7
            have H' := Aside0.mk H
            clear H
            go_wp2
            go_meet
            case rel => exact ⟨_, ((a0 == 10)), (by first | rfl | (simp; done) | (simp [*]; done) | (simp; exact isEmpty_bne _) | (simp [*]; exact isEmpty_bne _)), H', ⟨by first | omega | exact Nat.le_refl _⟩, by repeat (first | exact Drawn0.refl _ | apply Drawn0.step)⟩
          · rw [if_neg c7] at H
            have c7b0 : (a0 == 10) = false := beq_eq_false_iff_ne.mpr c7
            have c7b1 : (a0 != 10) = true := bne_iff_ne.mpr c7
            have H' := Aside0.mk H
            clear H
            go_wp2
            go_meet
            case rel => exact ⟨_, ((a0 == 13)), (by first | rfl | (simp; done) | (simp [*]; done) | (simp; exact isEmpty_bne _) | (simp [*]; exact isEmpty_bne _)), H', ⟨by first | omega | exact Nat.le_refl _⟩, by repeat (first | exact Drawn0.refl _ | apply Drawn0.step)⟩
  case rest =>
    clear HC3
    try clear c2
    try clear p2
    try clear c4
    try clear c4b0
    try clear c4b1
    try clear c5
    try clear c5b0
    try clear c5b1
    try clear c6
    try clear c6b0
    try clear c6b1
    try clear c7
    try clear c7b0
    try clear c7b1
    obtain ⟨kq, x6_2, rfl, HA, HJ2, ⟨mc2, rfl⟩⟩ := hcut
    cases kq with
    | zero => exact absurd HA.out (by simp [haspref03_One.j0])
    | succ kj2 =>
      have H := HA.out
      clear HA
      simp only [haspref03_One.j0] at H
      by_cases c8 : x6_2 = true
      · subst c8
        have H1 : (if a1 = 2 then (some a1) else (if a1 = 3 then (some a1) else (some 0))) = some r := by rw [if_pos rfl] at H; exact H
        clear H
        have H := H1
        clear H1
        by_cases c9 : a1 = 2
        · rw [if_pos c9] at H
          have c9b0 : (a1 == 2) = true := beq_iff_eq.mpr c9
          have c9b1 : (a1 != 2) = false := bne_eq_false_iff_eq.mpr c9
          clear c9
          obtain rfl := Option.some.inj H
          go_wp2
          go_ret
          exact ⟨by first | rfl | (simp; done) | (simp [*]; done) | (simp; exact isEmpty_bne _) | (simp [*]; exact isEmpty_bne _), by repeat (first | exact Drawn0.refl _ | apply Drawn0.step)⟩
        · rw [if_neg c9] at H
          have c9b0 : (a1 == 2) = false := beq_eq_false_iff_ne.mpr c9
          have c9b1 : (a1 != 2) = true := bne_iff_ne.mpr c9
          by_cases c10 : a1 = 3
          · rw [if_pos c10] at H
            have c10b0 : (a1 == 3) = true := beq_iff_eq.mpr c10
            have c10b1 : (a1 != 3) = false := bne_eq_false_iff_eq.mpr c10
            clear c10
            obtain rfl := Option.some.inj H
            go_wp2
            go_ret
            exact ⟨by first | rfl | (simp; done) | (simp [*]; done) | (simp; exact isEmpty_bne _) | (simp [*]; exact isEmpty_bne _), by repeat (first | exact Drawn0.refl _ | apply Drawn0.step)⟩
          · rw [if_neg c10] at H
            have c10b0 : (a1 == 3) = false := beq_eq_false_iff_ne.mpr c10
            have c10b1 : (a1 != 3) = true := bne_iff_ne.mpr c10
            obtain rfl := Option.some.inj H
            go_wp2
            go_ret
            exact ⟨by first | rfl | (simp; done) | (simp [*]; done) | (simp; exact isEmpty_bne _) | (simp [*]; exact isEmpty_bne _), by repeat (first | exact Drawn0.refl _ | apply Drawn0.step)⟩
      · replace c8 := Bool.eq_false_iff.mpr c8
        subst c8
        have H1 : (if a0 = 11 then (if a1 = 2 then (some 2) else (some 0)) else (if a0 = 12 then (if a1 = 4 then (some 4) else (some 0)) else (if a0 = 14 then (if a1 ≥ 1 then (if a1 ≤ 3 then (some 2) else (some 0)) else (some 0)) else (if a0 = 15 then (if a1 = 2 then (some 3) else (if a1 = 3 then (some 3) else (some 0))) else (some 0))))) = some r := by rw [if_neg (show ¬ (false = true) by decide)] at H; exact H
        clear H
        have H := H1
        clear H1
        by_cases c11 : a0 = 11
        · rw [if_pos c11] at H
          have c11b0 : (a0 == 11) = true := beq_iff_eq.mpr c11
          have c11b1 : (a0 != 11) = false := bne_eq_false_iff_eq.mpr c11
          clear c11
          by_cases c12 : a1 = 2
          · rw [if_pos c12] at H
            have c12b0 : (a1 == 2) = true := beq_iff_eq.mpr c12
            have c12b1 : (a1 != 2) = false := bne_eq_false_iff_eq.mpr c12
            clear c12
            obtain rfl := Option.some.inj H
            go_wp2
            go_ret
            exact ⟨by first | rfl | (simp; done) | (simp [*]; done) | (simp; exact isEmpty_bne _) | (simp [*]; exact isEmpty_bne _), by repeat (first | exact Drawn0.refl _ | apply Drawn0.step)⟩
          · rw [if_neg c12] at H
            have c12b0 : (a1 == 2) = false := beq_eq_false_iff_ne.mpr c12
            have c12b1 : (a1 != 2) = true := bne_iff_ne.mpr c12
            obtain rfl := Option.some.inj H
            go_wp2
            go_ret
            exact ⟨by first | rfl | (simp; done) | (simp [*]; done) | (simp; exact isEmpty_bne _) | (simp [*]; exact isEmpty_bne _), by repeat (first | exact Drawn0.refl _ | apply Drawn0.step)⟩
        · rw [if_neg c11] at H
          have c11b0 : (a0 == 11) = false := beq_eq_false_iff_ne.mpr c11
          have c11b1 : (a0 != 11) = true := bne_iff_ne.mpr c11
          by_cases c13 : a0 = 12
          · rw [if_pos c13] at H
            have c13b0 : (a0 == 12) = true := beq_iff_eq.mpr c13
            have c13b1 : (a0 != 12) = false := bne_eq_false_iff_eq.mpr c13
            clear c13
            by_cases c14 : a1 = 4
            · rw [if_pos c14] at H
              have c14b0 : (a1 == 4) = true := beq_iff_eq.mpr c14
              have c14b1 : (a1 != 4) = false := bne_eq_false_iff_eq.mpr c14
              clear c14
              obtain rfl := Option.some.inj H
              go_wp2
              go_ret
              exact ⟨by first | rfl | (simp; done) | (simp [*]; done) | (simp; exact isEmpty_bne _) | (simp [*]; exact isEmpty_bne _), by repeat (first | exact Drawn0.refl _ | apply Drawn0.step)⟩
            · rw [if_neg c14] at H
              have c14b0 : (a1 == 4) = false := beq_eq_false_iff_ne.mpr c14
              have c14b1 : (a1 != 4) = true := bne_iff_ne.mpr c14
              obtain rfl := Option.some.inj H
              go_wp2
              go_ret
              exact ⟨by first | rfl | (simp; done) | (simp [*]; done) | (simp; exact isEmpty_bne _) | (simp [*]; exact isEmpty_bne _), by repeat (first | exact Drawn0.refl _ | apply Drawn0.step)⟩
          · rw [if_neg c13] at H
            have c13b0 : (a0 == 12) = false := beq_eq_false_iff_ne.mpr c13
            have c13b1 : (a0 != 12) = true := bne_iff_ne.mpr c13
            by_cases c15 : a0 = 14
            · rw [if_pos c15] at H
              have c15b0 : (a0 == 14) = true := beq_iff_eq.mpr c15
              have c15b1 : (a0 != 14) = false := bne_eq_false_iff_eq.mpr c15
              clear c15
              by_cases c16 : a1 ≥ 1
              · rw [if_pos c16] at H
                have c16b0 : decide (1 ≤ a1) = true := decide_eq_true c16
                clear c16
                by_cases c17 : a1 ≤ 3
                · rw [if_pos c17] at H
                  have c17b0 : decide (a1 ≤ 3) = true := decide_eq_true c17
                  clear c17
                  obtain rfl := Option.some.inj H
                  go_wp2
                  go_ret
                  exact ⟨by first | rfl | (simp; done) | (simp [*]; done) | (simp; exact isEmpty_bne _) | (simp [*]; exact isEmpty_bne _), by repeat (first | exact Drawn0.refl _ | apply Drawn0.step)⟩
                · rw [if_neg c17] at H
                  have c17b0 : decide (a1 ≤ 3) = false := decide_eq_false c17
                  clear c17
                  obtain rfl := Option.some.inj H
                  go_wp2
                  go_ret
                  exact ⟨by first | rfl | (simp; done) | (simp [*]; done) | (simp; exact isEmpty_bne _) | (simp [*]; exact isEmpty_bne _), by repeat (first | exact Drawn0.refl _ | apply Drawn0.step)⟩
              · rw [if_neg c16] at H
                have c16b0 : decide (1 ≤ a1) = false := decide_eq_false c16
                clear c16
                obtain rfl := Option.some.inj H
                go_wp2
                go_ret
                exact ⟨by first | rfl | (simp; done) | (simp [*]; done) | (simp; exact isEmpty_bne _) | (simp [*]; exact isEmpty_bne _), by repeat (first | exact Drawn0.refl _ | apply Drawn0.step)⟩
            · rw [if_neg c15] at H
              have c15b0 : (a0 == 14) = false := beq_eq_false_iff_ne.mpr c15
              have c15b1 : (a0 != 14) = true := bne_iff_ne.mpr c15
              by_cases c18 : a0 = 15
              · rw [if_pos c18] at H
                have c18b0 : (a0 == 15) = true := beq_iff_eq.mpr c18
                have c18b1 : (a0 != 15) = false := bne_eq_false_iff_eq.mpr c18
                clear c18
                by_cases c19 : a1 = 2
                · rw [if_pos c19] at H
                  have c19b0 : (a1 == 2) = true := beq_iff_eq.mpr c19
                  have c19b1 : (a1 != 2) = false := bne_eq_false_iff_eq.mpr c19
                  clear c19
                  obtain rfl := Option.some.inj H
                  go_wp2
                  go_ret
                  exact ⟨by first | rfl | (simp; done) | (simp [*]; done) | (simp; exact isEmpty_bne _) | (simp [*]; exact isEmpty_bne _), by repeat (first | exact Drawn0.refl _ | apply Drawn0.step)⟩
                · rw [if_neg c19] at H
                  have c19b0 : (a1 == 2) = false := beq_eq_false_iff_ne.mpr c19
                  have c19b1 : (a1 != 2) = true := bne_iff_ne.mpr c19
                  by_cases c20 : a1 = 3
                  · rw [if_pos c20] at H
                    have c20b0 : (a1 == 3) = true := beq_iff_eq.mpr c20
                    have c20b1 : (a1 != 3) = false := bne_eq_false_iff_eq.mpr c20
                    clear c20
                    obtain rfl := Option.some.inj H
                    go_wp2
                    go_ret
                    exact ⟨by first | rfl | (simp; done) | (simp [*]; done) | (simp; exact isEmpty_bne _) | (simp [*]; exact isEmpty_bne _), by repeat (first | exact Drawn0.refl _ | apply Drawn0.step)⟩
                  · rw [if_neg c20] at H
                    have c20b0 : (a1 == 3) = false := beq_eq_false_iff_ne.mpr c20
                    have c20b1 : (a1 != 3) = true := bne_iff_ne.mpr c20
                    obtain rfl := Option.some.inj H
                    go_wp2
                    go_ret
                    exact ⟨by first | rfl | (simp; done) | (simp [*]; done) | (simp; exact isEmpty_bne _) | (simp [*]; exact isEmpty_bne _), by repeat (first | exact Drawn0.refl _ | apply Drawn0.step)⟩
              · rw [if_neg c18] at H
                have c18b0 : (a0 == 15) = false := beq_eq_false_iff_ne.mpr c18
                have c18b1 : (a0 != 15) = true := bne_iff_ne.mpr c18
                obtain rfl := Option.some.inj H
                go_wp2
                go_ret
                exact ⟨by first | rfl | (simp; done) | (simp [*]; done) | (simp; exact isEmpty_bne _) | (simp [*]; exact isEmpty_bne _), by repeat (first | exact Drawn0.refl _ | apply Drawn0.step)⟩
end Go.Proofs.Ytbdengnadgofmaa.V
