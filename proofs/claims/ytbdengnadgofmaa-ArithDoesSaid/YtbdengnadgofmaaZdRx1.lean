import Derived.Test.YtbdengnadgofmaaZdRx0
namespace Go.Proofs.Ytbdengnadgofmaa.R
open Go.RowKit Go.Proofs.YtbdengnadgofmaaW.PrintWords Go.Proofs.YtbdengnadgofmaaW.PrintLast Go.Proofs.YtbdengnadgofmaaW.PrintMore
attribute [local go_sem] max2_int min2_int max_two min_two max_three min_three max_four min_four   -- for this text's walks alone
set_option linter.unusedVariables false
set_option linter.unusedSimpArgs false
/-! ### haspref01_Parts: function 31 -/
def haspref01_Parts.f (a0 : Int) : Option (Int × Int × Int) := some (wrap64 ((IntKind.u64.wrap (a0)) / 9223372036854775808), wrap64 (Go.bits .and .u64 ((IntKind.u64.wrap (a0)) / 4503599627370496) 2047), wrap64 (Go.bits .and .u64 (IntKind.u64.wrap (a0)) 4503599627370495))
set_option maxHeartbeats 8000000 in
set_option maxRecDepth 100000 in
theorem haspref01_Parts.calls (a0 : Int) (r1 : Int) (r2 : Int) (r3 : Int) (w : World) (h : haspref01_Parts.f a0 = some (r1, r2, r3)) :
    Calls Try.prog 31 #[.int .i64 a0] w fun e w' => e = .returned (.tuple #[.int .i64 r1, .int .i64 r2, .int .i64 r3]) ∧ Drawn0 w w' := by
  have H : (some (wrap64 ((IntKind.u64.wrap (a0)) / 9223372036854775808), wrap64 (Go.bits .and .u64 ((IntKind.u64.wrap (a0)) / 4503599627370496) 2047), wrap64 (Go.bits .and .u64 (IntKind.u64.wrap (a0)) 4503599627370495))) = some (r1, r2, r3) := h
  clear h
  simp only [Option.some.injEq, Prod.mk.injEq] at H
  obtain ⟨rfl, rfl, rfl⟩ := H
  go_enter Try.func31, Try.ntmps31
  go_wp2
  go_ret3
  exact ⟨by first | rfl | (simp; done) | (simp [*]; done) | (simp; exact isEmpty_bne _) | (simp [*]; exact isEmpty_bne _), by repeat (first | exact Drawn0.refl _ | apply Drawn0.step)⟩
/-! ### haspref01_ToInt: function 26 -/
def haspref01_ToInt.j0 : Nat → Int → Int → Int → Bool → Option (Int × Int)
  | 0, _, _, _, _ => none
  | k + 1, x4, x5, x6, x32 => if x32 = true then (some (0, 10)) else (if x5 < 1023 then (some (0, 0)) else (if x5 ≤ 1075 then (if 0 ≤ (IntKind.u64.wrap (wrap64 (1075 - x5))) then (if x4 = 1 then (some (wrap64 (IntKind.u64.wrap (-(shr .u64 (IntKind.u64.wrap ((IntKind.u64.wrap (x6)) + 4503599627370496)) (IntKind.u64.wrap (wrap64 (1075 - x5)))))), 0)) else (some (wrap64 (shr .u64 (IntKind.u64.wrap ((IntKind.u64.wrap (x6)) + 4503599627370496)) (IntKind.u64.wrap (wrap64 (1075 - x5)))), 0))) else (none)) else (if 0 ≤ (IntKind.u64.wrap (wrap64 (x5 - 1075))) then (if x4 = 1 then (some (wrap64 (IntKind.u64.wrap (-(shl .u64 (IntKind.u64.wrap ((IntKind.u64.wrap (x6)) + 4503599627370496)) (IntKind.u64.wrap (wrap64 (x5 - 1075)))))), 0)) else (some (wrap64 (shl .u64 (IntKind.u64.wrap ((IntKind.u64.wrap (x6)) + 4503599627370496)) (IntKind.u64.wrap (wrap64 (x5 - 1075)))), 0))) else (none))))
def haspref01_ToInt.f (k : Nat) (a0 : Int) : Option (Int × Int) := (haspref01_Parts.f a0).bind fun bt101 => (if bt101.2.1 = 2047 then (haspref01_ToInt.j0 k bt101.1 bt101.2.1 bt101.2.2 true) else (if bt101.2.1 > 1086 then (haspref01_ToInt.j0 k bt101.1 bt101.2.1 bt101.2.2 true) else (if bt101.2.1 = 1086 then (if bt101.1 = 1 then (haspref01_ToInt.j0 k bt101.1 bt101.2.1 bt101.2.2 (!(bt101.2.2 == 0))) else (haspref01_ToInt.j0 k bt101.1 bt101.2.1 bt101.2.2 (!false))) else (haspref01_ToInt.j0 k bt101.1 bt101.2.1 bt101.2.2 false))))
set_option maxHeartbeats 8000000 in
set_option maxRecDepth 100000 in
theorem haspref01_ToInt.calls (k : Nat) (a0 : Int) (r1 : Int) (r2 : Int) (w : World) (h : haspref01_ToInt.f k a0 = some (r1, r2)) :
    Calls Try.prog 26 #[.int .i64 a0] w fun e w' => e = .returned (.tuple #[.int .i64 r1, .int .i64 r2]) ∧ Drawn0 w w' := by
  have H : ((haspref01_Parts.f a0).bind fun bt101 => (if bt101.2.1 = 2047 then (haspref01_ToInt.j0 k bt101.1 bt101.2.1 bt101.2.2 true) else (if bt101.2.1 > 1086 then (haspref01_ToInt.j0 k bt101.1 bt101.2.1 bt101.2.2 true) else (if bt101.2.1 = 1086 then (if bt101.1 = 1 then (haspref01_ToInt.j0 k bt101.1 bt101.2.1 bt101.2.2 (!(bt101.2.2 == 0))) else (haspref01_ToInt.j0 k bt101.1 bt101.2.1 bt101.2.2 (!false))) else (haspref01_ToInt.j0 k bt101.1 bt101.2.1 bt101.2.2 false))))) = some (r1, r2) := h
  clear h
  replace H := Option.bind_eq_some_iff.mp H
  obtain ⟨⟨t101, t102, t103⟩, A20, H⟩ := H
  replace H : (if t102 = 2047 then (haspref01_ToInt.j0 k t101 t102 t103 true) else (if t102 > 1086 then (haspref01_ToInt.j0 k t101 t102 t103 true) else (if t102 = 1086 then (if t101 = 1 then (haspref01_ToInt.j0 k t101 t102 t103 (!(t103 == 0))) else (haspref01_ToInt.j0 k t101 t102 t103 (!false))) else (haspref01_ToInt.j0 k t101 t102 t103 false)))) = some (r1, r2) := H
  have A2 := Aside0.mk A20
  clear A20
  have HC3 := Aside0.mk H
  clear H
  go_enter Try.func26, Try.ntmps26
  go_upto_region 2 with (first | ((with_reducible refine gate_callee (f := 31) rfl ?_); refine goesL_ (some 10) rfl rfl Try.func31 (by kernel_rfl) rfl #[.int .i64 a0] rfl (by (try simp only [List.map_toArray, List.map_cons, List.map_nil]); first | done | rfl | (simp only [List.length_drop, List.length_take]; rfl)) ?_; (with_reducible refine (haspref01_Parts.calls a0 t101 t102 t103 _ A2.out).mono ?_); rintro e w' ⟨rfl, ⟨nd, rfl⟩⟩; refine ⟨_, rfl, ?_⟩))
  (try simp only [Act.put, List.setIfInBounds_toArray, List.set_cons_zero, List.set_cons_succ])
  go_cut [32] (fun v32 wc => ∃ (kq : Nat) (x32_2 : Bool), v32 = .bool x32_2 ∧ Aside0 (haspref01_ToInt.j0 kq t101 t102 t103 x32_2 = some (r1, r2)) ∧ Aside0 (kq ≤ k) ∧ Drawn0 w wc)
  case first =>
    have H := HC3.out
    clear HC3
    by_cases c4 : t102 = 2047
    · rw [if_pos c4] at H
      have c4b0 : (t102 == 2047) = true := beq_iff_eq.mpr c4
      have c4b1 : (t102 != 2047) = false := bne_eq_false_iff_eq.mpr c4
      clear c4
      (first | rw [c4b0] | (simp only [i64_w, i32_w]; rw [c4b0]) | skip)
      have H' := Aside0.mk H
      clear H
      go_wp2
      go_meet
      case rel => exact ⟨_, (true), (by first | rfl | (simp; done) | (simp [*]; done) | (simp; exact isEmpty_bne _) | (simp [*]; exact isEmpty_bne _)), H', ⟨by first | omega | exact Nat.le_refl _⟩, by repeat (first | exact Drawn0.refl _ | apply Drawn0.step)⟩
    · rw [if_neg c4] at H
      have c4b0 : (t102 == 2047) = false := beq_eq_false_iff_ne.mpr c4
      have c4b1 : (t102 != 2047) = true := bne_iff_ne.mpr c4
      (first | rw [c4b0] | (simp only [i64_w, i32_w]; rw [c4b0]) | skip)
      by_cases c5 : t102 > 1086
      · rw [if_pos c5] at H
        have c5b0 : decide (1086 < t102) = true := decide_eq_true c5
        clear c5
        have H' := Aside0.mk H
        clear H
        go_wp2
        go_meet
        case rel => exact ⟨_, (true), (by first | rfl | (simp; done) | (simp [*]; done) | (simp; exact isEmpty_bne _) | (simp [*]; exact isEmpty_bne _)), H', ⟨by first | omega | exact Nat.le_refl _⟩, by repeat (first | exact Drawn0.refl _ | apply Drawn0.step)⟩
      · rw [if_neg c5] at H
        have c5b0 : decide (1086 < t102) = false := decide_eq_false c5
        clear c5
        by_cases c6 : t102 = 1086
        · rw [if_pos c6] at H
          have c6b0 : (t102 == 1086) = true := beq_iff_eq.mpr c6
          have c6b1 : (t102 != 1086) = false := bne_eq_false_iff_eq.mpr c6
          clear c6
          by_cases c7 : t101 = 1
          · rw [if_pos c7] at H
            have c7b0 : (t101 == 1) = true := beq_iff_eq.mpr c7
            have c7b1 : (t101 != 1) = false := bne_eq_false_iff_eq.mpr c7
            clear c7
            have H' := Aside0.mk H
            clear H
            go_wp2
            go_meet
            case rel => exact ⟨_, (!(t103 == 0)), (by first | rfl | (simp; done) | (simp [*]; done) | (simp; exact isEmpty_bne _) | (simp [*]; exact isEmpty_bne _)), H', ⟨by first | omega | exact Nat.le_refl _⟩, by repeat (first | exact Drawn0.refl _ | apply Drawn0.step)⟩
          · rw [if_neg c7] at H
            have c7b0 : (t101 == 1) = false := beq_eq_false_iff_ne.mpr c7
            have c7b1 : (t101 != 1) = true := bne_iff_ne.mpr c7
            have H' := Aside0.mk H
            clear H
            go_wp2
            go_meet
            case rel => exact ⟨_, (!false), (by first | rfl | (simp; done) | (simp [*]; done) | (simp; exact isEmpty_bne _) | (simp [*]; exact isEmpty_bne _)), H', ⟨by first | omega | exact Nat.le_refl _⟩, by repeat (first | exact Drawn0.refl _ | apply Drawn0.step)⟩
        · rw [if_neg c6] at H
          have c6b0 : (t102 == 1086) = false := beq_eq_false_iff_ne.mpr c6
          have c6b1 : (t102 != 1086) = true := bne_iff_ne.mpr c6
          have H' := Aside0.mk H
          clear H
          go_wp2
          go_meet
          case rel => exact ⟨_, (false), (by first | rfl | (simp; done) | (simp [*]; done) | (simp; exact isEmpty_bne _) | (simp [*]; exact isEmpty_bne _)), H', ⟨by first | omega | exact Nat.le_refl _⟩, by repeat (first | exact Drawn0.refl _ | apply Drawn0.step)⟩
  case rest =>
    clear HC3
    try clear c2
    try clear p2
    try clear c3
    try clear c4
    try clear c4b0
    try clear c4b1
    try clear c5
    try clear c5b0
    try clear c6
    try clear c6b0
    try clear c6b1
    try clear c7
    try clear c7b0
    try clear c7b1
    obtain ⟨kq, x32_2, rfl, HA, HJ2, ⟨mc2, rfl⟩⟩ := hcut
    cases kq with
    | zero => exact absurd HA.out (by simp [haspref01_ToInt.j0])
    | succ kj2 =>
      have H := HA.out
      clear HA
      simp only [haspref01_ToInt.j0] at H
      by_cases c8 : x32_2 = true
      · subst c8
        have H1 : (some (0, 10)) = some (r1, r2) := by rw [if_pos rfl] at H; exact H
        clear H
        have H := H1
        clear H1
        simp only [Option.some.injEq, Prod.mk.injEq] at H
        obtain ⟨rfl, rfl⟩ := H
        go_wp2
        go_ret2
        exact ⟨by first | rfl | (simp; done) | (simp [*]; done) | (simp; exact isEmpty_bne _) | (simp [*]; exact isEmpty_bne _), by repeat (first | exact Drawn0.refl _ | apply Drawn0.step)⟩
      · replace c8 := Bool.eq_false_iff.mpr c8
        subst c8
        have H1 : (if t102 < 1023 then (some (0, 0)) else (if t102 ≤ 1075 then (if 0 ≤ (IntKind.u64.wrap (wrap64 (1075 - t102))) then (if t101 = 1 then (some (wrap64 (IntKind.u64.wrap (-(shr .u64 (IntKind.u64.wrap ((IntKind.u64.wrap (t103)) + 4503599627370496)) (IntKind.u64.wrap (wrap64 (1075 - t102)))))), 0)) else (some (wrap64 (shr .u64 (IntKind.u64.wrap ((IntKind.u64.wrap (t103)) + 4503599627370496)) (IntKind.u64.wrap (wrap64 (1075 - t102)))), 0))) else (none)) else (if 0 ≤ (IntKind.u64.wrap (wrap64 (t102 - 1075))) then (if t101 = 1 then (some (wrap64 (IntKind.u64.wrap (-(shl .u64 (IntKind.u64.wrap ((IntKind.u64.wrap (t103)) + 4503599627370496)) (IntKind.u64.wrap (wrap64 (t102 - 1075)))))), 0)) else (some (wrap64 (shl .u64 (IntKind.u64.wrap ((IntKind.u64.wrap (t103)) + 4503599627370496)) (IntKind.u64.wrap (wrap64 (t102 - 1075)))), 0))) else (none)))) = some (r1, r2) := by rw [if_neg (show ¬ (false = true) by decide)] at H; exact H
        clear H
        have H := H1
        clear H1
        by_cases c9 : t102 < 1023
        · rw [if_pos c9] at H
          have c9b0 : decide (t102 < 1023) = true := decide_eq_true c9
          clear c9
          simp only [Option.some.injEq, Prod.mk.injEq] at H
          obtain ⟨rfl, rfl⟩ := H
          go_wp2
          go_ret2
          exact ⟨by first | rfl | (simp; done) | (simp [*]; done) | (simp; exact isEmpty_bne _) | (simp [*]; exact isEmpty_bne _), by repeat (first | exact Drawn0.refl _ | apply Drawn0.step)⟩
        · rw [if_neg c9] at H
          have c9b0 : decide (t102 < 1023) = false := decide_eq_false c9
          clear c9
          by_cases c10 : t102 ≤ 1075
          · rw [if_pos c10] at H
            have c10b0 : decide (t102 ≤ 1075) = true := decide_eq_true c10
            clear c10
            obtain ⟨ji11, hji11⟩ : ∃ j_ : Int, (IntKind.u64.wrap (wrap64 (1075 - t102))) = j_ := ⟨_, rfl⟩
            replace H : (if 0 ≤ (ji11) then (if t101 = 1 then (some (wrap64 (IntKind.u64.wrap (-(shr .u64 (IntKind.u64.wrap ((IntKind.u64.wrap (t103)) + 4503599627370496)) (ji11)))), 0)) else (some (wrap64 (shr .u64 (IntKind.u64.wrap ((IntKind.u64.wrap (t103)) + 4503599627370496)) (ji11)), 0))) else (none)) = some (r1, r2) := by first | (rw [hji11] at H; exact H) | (simp only [hji11] at H ⊢; exact H)
            by_cases c12 : 0 ≤ (ji11)
            · rw [if_pos c12] at H
              have c12b0 := eq_true c12
              have c12b1 : decide (0 ≤ (ji11)) = true := decide_eq_true c12
              clear c12
              obtain ⟨ji13, hji13⟩ : ∃ j_ : Int, (shr .u64 (IntKind.u64.wrap ((IntKind.u64.wrap (t103)) + 4503599627370496)) (ji11)) = j_ := ⟨_, rfl⟩
              replace H : (if t101 = 1 then (some (wrap64 (IntKind.u64.wrap (-(ji13))), 0)) else (some (wrap64 (ji13), 0))) = some (r1, r2) := by first | (rw [hji13] at H; exact H) | (simp only [hji13] at H ⊢; exact H)
              have hji13_ : ((IntKind.u64.wrap ((IntKind.u64.wrap (t103)) + 4503599627370496)) / 2 ^ min (ji11).toNat 64) = ji13 := hji13
              have hji13z : (ji11) ≤ 64 → ((IntKind.u64.wrap ((IntKind.u64.wrap (t103)) + 4503599627370496)) / 2 ^ (ji11).toNat) = ji13 := shr_small hji13
              by_cases c14 : t101 = 1
              · rw [if_pos c14] at H
                have c14b0 : (t101 == 1) = true := beq_iff_eq.mpr c14
                have c14b1 : (t101 != 1) = false := bne_eq_false_iff_eq.mpr c14
                clear c14
                simp only [Option.some.injEq, Prod.mk.injEq] at H
                obtain ⟨rfl, rfl⟩ := H
                go_wp2
                go_ret2
                exact ⟨by first | rfl | (simp; done) | (simp only [← hji11, ← hji13] <;> (first | rfl | simp)) | (simp [*]; done) | (simp; exact isEmpty_bne _) | (simp [*]; exact isEmpty_bne _), by repeat (first | exact Drawn0.refl _ | apply Drawn0.step)⟩
              · rw [if_neg c14] at H
                have c14b0 : (t101 == 1) = false := beq_eq_false_iff_ne.mpr c14
                have c14b1 : (t101 != 1) = true := bne_iff_ne.mpr c14
                simp only [Option.some.injEq, Prod.mk.injEq] at H
                obtain ⟨rfl, rfl⟩ := H
                go_wp2
                go_ret2
                exact ⟨by first | rfl | (simp; done) | (simp only [← hji11, ← hji13] <;> (first | rfl | simp)) | (simp [*]; done) | (simp; exact isEmpty_bne _) | (simp [*]; exact isEmpty_bne _), by repeat (first | exact Drawn0.refl _ | apply Drawn0.step)⟩
            · rw [if_neg c12] at H
              exact absurd H (by simp)
          · rw [if_neg c10] at H
            have c10b0 : decide (t102 ≤ 1075) = false := decide_eq_false c10
            clear c10
            obtain ⟨ji15, hji15⟩ : ∃ j_ : Int, (IntKind.u64.wrap (wrap64 (t102 - 1075))) = j_ := ⟨_, rfl⟩
            replace H : (if 0 ≤ (ji15) then (if t101 = 1 then (some (wrap64 (IntKind.u64.wrap (-(shl .u64 (IntKind.u64.wrap ((IntKind.u64.wrap (t103)) + 4503599627370496)) (ji15)))), 0)) else (some (wrap64 (shl .u64 (IntKind.u64.wrap ((IntKind.u64.wrap (t103)) + 4503599627370496)) (ji15)), 0))) else (none)) = some (r1, r2) := by first | (rw [hji15] at H; exact H) | (simp only [hji15] at H ⊢; exact H)
            by_cases c16 : 0 ≤ (ji15)
            · rw [if_pos c16] at H
              have c16b0 := eq_true c16
              have c16b1 : decide (0 ≤ (ji15)) = true := decide_eq_true c16
              clear c16
              obtain ⟨ji17, hji17⟩ : ∃ j_ : Int, (shl .u64 (IntKind.u64.wrap ((IntKind.u64.wrap (t103)) + 4503599627370496)) (ji15)) = j_ := ⟨_, rfl⟩
              replace H : (if t101 = 1 then (some (wrap64 (IntKind.u64.wrap (-(ji17))), 0)) else (some (wrap64 (ji17), 0))) = some (r1, r2) := by first | (rw [hji17] at H; exact H) | (simp only [hji17] at H ⊢; exact H)
              have hji17_ : (IntKind.u64.wrap ((IntKind.u64.wrap ((IntKind.u64.wrap (t103)) + 4503599627370496)) * 2 ^ min (ji15).toNat 64)) = ji17 := hji17
              have hji17z : (ji15) ≤ 64 → (IntKind.u64.wrap ((IntKind.u64.wrap ((IntKind.u64.wrap (t103)) + 4503599627370496)) * 2 ^ (ji15).toNat)) = ji17 := shl_small hji17
              by_cases c18 : t101 = 1
              · rw [if_pos c18] at H
                have c18b0 : (t101 == 1) = true := beq_iff_eq.mpr c18
                have c18b1 : (t101 != 1) = false := bne_eq_false_iff_eq.mpr c18
                clear c18
                simp only [Option.some.injEq, Prod.mk.injEq] at H
                obtain ⟨rfl, rfl⟩ := H
                go_wp2
                go_ret2
                exact ⟨by first | rfl | (simp; done) | (simp only [← hji15, ← hji17] <;> (first | rfl | simp)) | (simp [*]; done) | (simp; exact isEmpty_bne _) | (simp [*]; exact isEmpty_bne _), by repeat (first | exact Drawn0.refl _ | apply Drawn0.step)⟩
              · rw [if_neg c18] at H
                have c18b0 : (t101 == 1) = false := beq_eq_false_iff_ne.mpr c18
                have c18b1 : (t101 != 1) = true := bne_iff_ne.mpr c18
                simp only [Option.some.injEq, Prod.mk.injEq] at H
                obtain ⟨rfl, rfl⟩ := H
                go_wp2
                go_ret2
                exact ⟨by first | rfl | (simp; done) | (simp only [← hji15, ← hji17] <;> (first | rfl | simp)) | (simp [*]; done) | (simp; exact isEmpty_bne _) | (simp [*]; exact isEmpty_bne _), by repeat (first | exact Drawn0.refl _ | apply Drawn0.step)⟩
            · rw [if_neg c16] at H
              exact absurd H (by simp)
/-! ### haspref01_OfInt: function 27 -/
mutual
def haspref01_OfInt.j0 : Nat → Int → Int → Option (Int)
  | 0, _, _ => none
  | k + 1, x3, x4 => haspref01_OfInt.l0 k x3 x4 63
def haspref01_OfInt.l0 : Nat → Int → Int → Int → Option (Int)
  | 0, _, _, _ => none
  | k + 1, x3, x4, x5 => if 0 ≤ (IntKind.u64.wrap (x5)) then (if (shr .u64 x3 (IntKind.u64.wrap (x5))) = 0 then (haspref01_OfInt.l0 k x3 x4 (wrap64 (x5 - 1))) else (if x5 > 52 then (if 0 ≤ (IntKind.u64.wrap (wrap64 (x5 - 52))) then (if 0 ≤ (IntKind.u64.wrap ((IntKind.u64.wrap (wrap64 (x5 - 52))) - 1)) then (if (IntKind.u64.wrap (x3 - (shl .u64 (shr .u64 x3 (IntKind.u64.wrap (wrap64 (x5 - 52)))) (IntKind.u64.wrap (wrap64 (x5 - 52)))))) > (shl .u64 1 (IntKind.u64.wrap ((IntKind.u64.wrap (wrap64 (x5 - 52))) - 1))) then (some (wrap64 (IntKind.u64.wrap ((IntKind.u64.wrap (x4 + (IntKind.u64.wrap ((IntKind.u64.wrap (wrap64 (x5 + 1022))) * 4503599627370496)))) + (IntKind.u64.wrap ((shr .u64 x3 (IntKind.u64.wrap (wrap64 (x5 - 52)))) + 1)))))) else (if (IntKind.u64.wrap (x3 - (shl .u64 (shr .u64 x3 (IntKind.u64.wrap (wrap64 (x5 - 52)))) (IntKind.u64.wrap (wrap64 (x5 - 52)))))) = (shl .u64 1 (IntKind.u64.wrap ((IntKind.u64.wrap (wrap64 (x5 - 52))) - 1))) then (if (Go.bits .and .u64 (shr .u64 x3 (IntKind.u64.wrap (wrap64 (x5 - 52)))) 1) = 1 then (some (wrap64 (IntKind.u64.wrap ((IntKind.u64.wrap (x4 + (IntKind.u64.wrap ((IntKind.u64.wrap (wrap64 (x5 + 1022))) * 4503599627370496)))) + (IntKind.u64.wrap ((shr .u64 x3 (IntKind.u64.wrap (wrap64 (x5 - 52)))) + 1)))))) else (some (wrap64 (IntKind.u64.wrap ((IntKind.u64.wrap (x4 + (IntKind.u64.wrap ((IntKind.u64.wrap (wrap64 (x5 + 1022))) * 4503599627370496)))) + (shr .u64 x3 (IntKind.u64.wrap (wrap64 (x5 - 52))))))))) else (some (wrap64 (IntKind.u64.wrap ((IntKind.u64.wrap (x4 + (IntKind.u64.wrap ((IntKind.u64.wrap (wrap64 (x5 + 1022))) * 4503599627370496)))) + (shr .u64 x3 (IntKind.u64.wrap (wrap64 (x5 - 52)))))))))) else (none)) else (none)) else (if 0 ≤ (IntKind.u64.wrap (wrap64 (52 - x5))) then (some (wrap64 (IntKind.u64.wrap ((IntKind.u64.wrap (x4 + (IntKind.u64.wrap ((IntKind.u64.wrap (wrap64 (x5 + 1022))) * 4503599627370496)))) + (shl .u64 x3 (IntKind.u64.wrap (wrap64 (52 - x5)))))))) else (none)))) else (none)
end
def haspref01_OfInt.f (k : Nat) (a0 : Int) : Option (Int) := if a0 = 0 then (some 0) else (if a0 < 0 then (haspref01_OfInt.j0 k (IntKind.u64.wrap (-(IntKind.u64.wrap (a0)))) 9223372036854775808) else (haspref01_OfInt.j0 k (IntKind.u64.wrap (a0)) 0))
set_option maxHeartbeats 8000000 in
set_option maxRecDepth 100000 in
theorem haspref01_OfInt.calls (k : Nat) (a0 : Int) (r : Int) (w : World) (h : haspref01_OfInt.f k a0 = some r) :
    Calls Try.prog 27 #[.int .i64 a0] w fun e w' => e = .returned (.int .i64 r) ∧ Drawn0 w w' := by
  have H : (if a0 = 0 then (some 0) else (if a0 < 0 then (haspref01_OfInt.j0 k (IntKind.u64.wrap (-(IntKind.u64.wrap (a0)))) 9223372036854775808) else (haspref01_OfInt.j0 k (IntKind.u64.wrap (a0)) 0))) = some r := h
  clear h
  by_cases c2 : a0 = 0
  · rw [if_pos c2] at H
    have c2b0 : (a0 == 0) = true := beq_iff_eq.mpr c2
    have c2b1 : (a0 != 0) = false := bne_eq_false_iff_eq.mpr c2
    clear c2
    obtain rfl := Option.some.inj H
    go_enter Try.func27, Try.ntmps27
    go_wp2
    go_ret
    exact ⟨by first | rfl | (simp; done) | (simp [*]; done) | (simp; exact isEmpty_bne _) | (simp [*]; exact isEmpty_bne _), by repeat (first | exact Drawn0.refl _ | apply Drawn0.step)⟩
  · rw [if_neg c2] at H
    have c2b0 : (a0 == 0) = false := beq_eq_false_iff_ne.mpr c2
    have c2b1 : (a0 != 0) = true := bne_iff_ne.mpr c2
    have HC3 := Aside0.mk H
    clear H
    go_enter Try.func27, Try.ntmps27
    go_upto_if 15 with (fail)
    go_cut [3, 4] (fun v3 v4 wc => ∃ (kq : Nat) (x3_2 : Int) (x4_2 : Int), v3 = .int .u64 x3_2 ∧ v4 = .int .u64 x4_2 ∧ Aside0 (haspref01_OfInt.j0 kq x3_2 x4_2 = some r) ∧ Aside0 (kq ≤ k) ∧ Drawn0 w wc)
    case first =>
      have H := HC3.out
      clear HC3
      by_cases c4 : a0 < 0
      · rw [if_pos c4] at H
        have c4b0 : decide (a0 < 0) = true := decide_eq_true c4
        clear c4
        (first | rw [c4b0] | (simp only [i64_w, i32_w]; rw [c4b0]) | skip)
        have H' := Aside0.mk H
        clear H
        go_wp2
        go_meet
        case rel => exact ⟨_, (IntKind.u64.wrap (-(IntKind.u64.wrap (a0)))), (9223372036854775808), (by first | rfl | (simp; done) | (simp [*]; done) | (simp; exact isEmpty_bne _) | (simp [*]; exact isEmpty_bne _)), (by first | rfl | (simp; done) | (simp [*]; done) | (simp; exact isEmpty_bne _) | (simp [*]; exact isEmpty_bne _)), H', ⟨by first | omega | exact Nat.le_refl _⟩, by repeat (first | exact Drawn0.refl _ | apply Drawn0.step)⟩
      · rw [if_neg c4] at H
        have c4b0 : decide (a0 < 0) = false := decide_eq_false c4
        clear c4
        (first | rw [c4b0] | (simp only [i64_w, i32_w]; rw [c4b0]) | skip)
        have H' := Aside0.mk H
        clear H
        go_wp2
        go_meet
        case rel => exact ⟨_, (IntKind.u64.wrap (a0)), (0), (by first | rfl | (simp; done) | (simp [*]; done) | (simp; exact isEmpty_bne _) | (simp [*]; exact isEmpty_bne _)), (by first | rfl | (simp; done) | (simp [*]; done) | (simp; exact isEmpty_bne _) | (simp [*]; exact isEmpty_bne _)), H', ⟨by first | omega | exact Nat.le_refl _⟩, by repeat (first | exact Drawn0.refl _ | apply Drawn0.step)⟩
    case rest =>
      clear HC3
      try clear c2
      try clear c2b0
      try clear c2b1
      try clear p2
      try clear c4
      try clear c4b0
      obtain ⟨kq, x3_2, x4_2, rfl, rfl, HA, HJ2, ⟨mc2, rfl⟩⟩ := hcut
      cases kq with
      | zero => exact absurd HA.out (by simp [haspref01_OfInt.j0])
      | succ kj2 =>
        have H := HA.out
        clear HA
        simp only [haspref01_OfInt.j0] at H
        have H' := Aside0.mk H
        clear H
        go_wp2
        go_loopg [5] kj2 (fun kq v5 w' => ∃ (x5_2 : Int), v5 = .int .i64 x5_2 ∧ Aside0 (haspref01_OfInt.l0 kq x3_2 x4_2 x5_2 = some r) ∧ Aside0 (kq ≤ kj2) ∧ Drawn0 w w')
        case atStart => exact ⟨(63), (by first | rfl | (simp; done) | (simp [*]; done) | (simp; exact isEmpty_bne _) | (simp [*]; exact isEmpty_bne _)), H', ⟨Nat.le_refl _⟩, by repeat (first | exact Drawn0.refl _ | apply Drawn0.step)⟩
        case round =>
          clear H'
          try clear c2
          try clear c2b0
          try clear c2b1
          try clear p2
          try clear c4
          try clear c4b0
          try clear p2
          obtain ⟨x5_2, rfl, HA, HK2, ⟨m2, rfl⟩⟩ := hrel
          cases gk with
          | zero => exact absurd HA.out (by simp [haspref01_OfInt.l0])
          | succ k2 =>
            have H := HA.out
            clear HA
            simp only [haspref01_OfInt.l0] at H
            obtain ⟨ji5, hji5⟩ : ∃ j_ : Int, (IntKind.u64.wrap (x5_2)) = j_ := ⟨_, rfl⟩
            replace H : (if 0 ≤ (ji5) then (if (shr .u64 x3_2 (ji5)) = 0 then (haspref01_OfInt.l0 k2 x3_2 x4_2 (wrap64 (x5_2 - 1))) else (if x5_2 > 52 then (if 0 ≤ (IntKind.u64.wrap (wrap64 (x5_2 - 52))) then (if 0 ≤ (IntKind.u64.wrap ((IntKind.u64.wrap (wrap64 (x5_2 - 52))) - 1)) then (if (IntKind.u64.wrap (x3_2 - (shl .u64 (shr .u64 x3_2 (IntKind.u64.wrap (wrap64 (x5_2 - 52)))) (IntKind.u64.wrap (wrap64 (x5_2 - 52)))))) > (shl .u64 1 (IntKind.u64.wrap ((IntKind.u64.wrap (wrap64 (x5_2 - 52))) - 1))) then (some (wrap64 (IntKind.u64.wrap ((IntKind.u64.wrap (x4_2 + (IntKind.u64.wrap ((IntKind.u64.wrap (wrap64 (x5_2 + 1022))) * 4503599627370496)))) + (IntKind.u64.wrap ((shr .u64 x3_2 (IntKind.u64.wrap (wrap64 (x5_2 - 52)))) + 1)))))) else (if (IntKind.u64.wrap (x3_2 - (shl .u64 (shr .u64 x3_2 (IntKind.u64.wrap (wrap64 (x5_2 - 52)))) (IntKind.u64.wrap (wrap64 (x5_2 - 52)))))) = (shl .u64 1 (IntKind.u64.wrap ((IntKind.u64.wrap (wrap64 (x5_2 - 52))) - 1))) then (if (Go.bits .and .u64 (shr .u64 x3_2 (IntKind.u64.wrap (wrap64 (x5_2 - 52)))) 1) = 1 then (some (wrap64 (IntKind.u64.wrap ((IntKind.u64.wrap (x4_2 + (IntKind.u64.wrap ((IntKind.u64.wrap (wrap64 (x5_2 + 1022))) * 4503599627370496)))) + (IntKind.u64.wrap ((shr .u64 x3_2 (IntKind.u64.wrap (wrap64 (x5_2 - 52)))) + 1)))))) else (some (wrap64 (IntKind.u64.wrap ((IntKind.u64.wrap (x4_2 + (IntKind.u64.wrap ((IntKind.u64.wrap (wrap64 (x5_2 + 1022))) * 4503599627370496)))) + (shr .u64 x3_2 (IntKind.u64.wrap (wrap64 (x5_2 - 52))))))))) else (some (wrap64 (IntKind.u64.wrap ((IntKind.u64.wrap (x4_2 + (IntKind.u64.wrap ((IntKind.u64.wrap (wrap64 (x5_2 + 1022))) * 4503599627370496)))) + (shr .u64 x3_2 (IntKind.u64.wrap (wrap64 (x5_2 - 52)))))))))) else (none)) else (none)) else (if 0 ≤ (IntKind.u64.wrap (wrap64 (52 - x5_2))) then (some (wrap64 (IntKind.u64.wrap ((IntKind.u64.wrap (x4_2 + (IntKind.u64.wrap ((IntKind.u64.wrap (wrap64 (x5_2 + 1022))) * 4503599627370496)))) + (shl .u64 x3_2 (IntKind.u64.wrap (wrap64 (52 - x5_2)))))))) else (none)))) else (none)) = some r := by first | (rw [hji5] at H; exact H) | (simp only [hji5] at H ⊢; exact H)
            by_cases c6 : 0 ≤ (ji5)
            · rw [if_pos c6] at H
              have c6b0 := eq_true c6
              have c6b1 : decide (0 ≤ (ji5)) = true := decide_eq_true c6
              clear c6
              obtain ⟨ji7, hji7⟩ : ∃ j_ : Int, (shr .u64 x3_2 (ji5)) = j_ := ⟨_, rfl⟩
              replace H : (if (ji7) = 0 then (haspref01_OfInt.l0 k2 x3_2 x4_2 (wrap64 (x5_2 - 1))) else (if x5_2 > 52 then (if 0 ≤ (IntKind.u64.wrap (wrap64 (x5_2 - 52))) then (if 0 ≤ (IntKind.u64.wrap ((IntKind.u64.wrap (wrap64 (x5_2 - 52))) - 1)) then (if (IntKind.u64.wrap (x3_2 - (shl .u64 (shr .u64 x3_2 (IntKind.u64.wrap (wrap64 (x5_2 - 52)))) (IntKind.u64.wrap (wrap64 (x5_2 - 52)))))) > (shl .u64 1 (IntKind.u64.wrap ((IntKind.u64.wrap (wrap64 (x5_2 - 52))) - 1))) then (some (wrap64 (IntKind.u64.wrap ((IntKind.u64.wrap (x4_2 + (IntKind.u64.wrap ((IntKind.u64.wrap (wrap64 (x5_2 + 1022))) * 4503599627370496)))) + (IntKind.u64.wrap ((shr .u64 x3_2 (IntKind.u64.wrap (wrap64 (x5_2 - 52)))) + 1)))))) else (if (IntKind.u64.wrap (x3_2 - (shl .u64 (shr .u64 x3_2 (IntKind.u64.wrap (wrap64 (x5_2 - 52)))) (IntKind.u64.wrap (wrap64 (x5_2 - 52)))))) = (shl .u64 1 (IntKind.u64.wrap ((IntKind.u64.wrap (wrap64 (x5_2 - 52))) - 1))) then (if (Go.bits .and .u64 (shr .u64 x3_2 (IntKind.u64.wrap (wrap64 (x5_2 - 52)))) 1) = 1 then (some (wrap64 (IntKind.u64.wrap ((IntKind.u64.wrap (x4_2 + (IntKind.u64.wrap ((IntKind.u64.wrap (wrap64 (x5_2 + 1022))) * 4503599627370496)))) + (IntKind.u64.wrap ((shr .u64 x3_2 (IntKind.u64.wrap (wrap64 (x5_2 - 52)))) + 1)))))) else (some (wrap64 (IntKind.u64.wrap ((IntKind.u64.wrap (x4_2 + (IntKind.u64.wrap ((IntKind.u64.wrap (wrap64 (x5_2 + 1022))) * 4503599627370496)))) + (shr .u64 x3_2 (IntKind.u64.wrap (wrap64 (x5_2 - 52))))))))) else (some (wrap64 (IntKind.u64.wrap ((IntKind.u64.wrap (x4_2 + (IntKind.u64.wrap ((IntKind.u64.wrap (wrap64 (x5_2 + 1022))) * 4503599627370496)))) + (shr .u64 x3_2 (IntKind.u64.wrap (wrap64 (x5_2 - 52)))))))))) else (none)) else (none)) else (if 0 ≤ (IntKind.u64.wrap (wrap64 (52 - x5_2))) then (some (wrap64 (IntKind.u64.wrap ((IntKind.u64.wrap (x4_2 + (IntKind.u64.wrap ((IntKind.u64.wrap (wrap64 (x5_2 + 1022))) * 4503599627370496)))) + (shl .u64 x3_2 (IntKind.u64.wrap (wrap64 (52 - x5_2)))))))) else (none)))) = some r := by first | (rw [hji7] at H; exact H) | (simp only [hji7] at H ⊢; exact H)
              have hji7_ : (x3_2 / 2 ^ min (ji5).toNat 64) = ji7 := hji7
              have hji7z : (ji5) ≤ 64 → (x3_2 / 2 ^ (ji5).toNat) = ji7 := shr_small hji7
              by_cases c8 : (ji7) = 0
              · rw [if_pos c8] at H
                have c8b0 : ((ji7) == 0) = true := beq_iff_eq.mpr c8
                have c8b1 : ((ji7) != 0) = false := bne_eq_false_iff_eq.mpr c8
                clear c8
                have H' := Aside0.mk H
                clear H
                go_wp2
                go_roundg k2
                case measure => have := HJ2.out; have := HK2.out; omega
                case rel => exact ⟨(wrap64 (x5_2 - 1)), (by first | rfl | (simp; done) | (simp [*]; done) | (simp; exact isEmpty_bne _) | (simp [*]; exact isEmpty_bne _)), H', ⟨by have := HJ2.out; have := HK2.out; omega⟩, by repeat (first | exact Drawn0.refl _ | apply Drawn0.step)⟩
              · rw [if_neg c8] at H
                have c8b0 : ((ji7) == 0) = false := beq_eq_false_iff_ne.mpr c8
                have c8b1 : ((ji7) != 0) = true := bne_iff_ne.mpr c8
                by_cases c9 : x5_2 > 52
                · rw [if_pos c9] at H
                  have c9b0 : decide (52 < x5_2) = true := decide_eq_true c9
                  clear c9
                  obtain ⟨ji10, hji10⟩ : ∃ j_ : Int, (IntKind.u64.wrap (wrap64 (x5_2 - 52))) = j_ := ⟨_, rfl⟩
                  replace H : (if 0 ≤ (ji10) then (if 0 ≤ (IntKind.u64.wrap ((ji10) - 1)) then (if (IntKind.u64.wrap (x3_2 - (shl .u64 (shr .u64 x3_2 (ji10)) (ji10)))) > (shl .u64 1 (IntKind.u64.wrap ((ji10) - 1))) then (some (wrap64 (IntKind.u64.wrap ((IntKind.u64.wrap (x4_2 + (IntKind.u64.wrap ((IntKind.u64.wrap (wrap64 (x5_2 + 1022))) * 4503599627370496)))) + (IntKind.u64.wrap ((shr .u64 x3_2 (ji10)) + 1)))))) else (if (IntKind.u64.wrap (x3_2 - (shl .u64 (shr .u64 x3_2 (ji10)) (ji10)))) = (shl .u64 1 (IntKind.u64.wrap ((ji10) - 1))) then (if (Go.bits .and .u64 (shr .u64 x3_2 (ji10)) 1) = 1 then (some (wrap64 (IntKind.u64.wrap ((IntKind.u64.wrap (x4_2 + (IntKind.u64.wrap ((IntKind.u64.wrap (wrap64 (x5_2 + 1022))) * 4503599627370496)))) + (IntKind.u64.wrap ((shr .u64 x3_2 (ji10)) + 1)))))) else (some (wrap64 (IntKind.u64.wrap ((IntKind.u64.wrap (x4_2 + (IntKind.u64.wrap ((IntKind.u64.wrap (wrap64 (x5_2 + 1022))) * 4503599627370496)))) + (shr .u64 x3_2 (ji10))))))) else (some (wrap64 (IntKind.u64.wrap ((IntKind.u64.wrap (x4_2 + (IntKind.u64.wrap ((IntKind.u64.wrap (wrap64 (x5_2 + 1022))) * 4503599627370496)))) + (shr .u64 x3_2 (ji10)))))))) else (none)) else (none)) = some r := by first | (rw [hji10] at H; exact H) | (simp only [hji10] at H ⊢; exact H)
                  by_cases c11 : 0 ≤ (ji10)
                  · rw [if_pos c11] at H
                    have c11b0 := eq_true c11
                    have c11b1 : decide (0 ≤ (ji10)) = true := decide_eq_true c11
                    clear c11
                    obtain ⟨ji12, hji12⟩ : ∃ j_ : Int, (shr .u64 x3_2 (ji10)) = j_ := ⟨_, rfl⟩
                    replace H : (if 0 ≤ (IntKind.u64.wrap ((ji10) - 1)) then (if (IntKind.u64.wrap (x3_2 - (shl .u64 (ji12) (ji10)))) > (shl .u64 1 (IntKind.u64.wrap ((ji10) - 1))) then (some (wrap64 (IntKind.u64.wrap ((IntKind.u64.wrap (x4_2 + (IntKind.u64.wrap ((IntKind.u64.wrap (wrap64 (x5_2 + 1022))) * 4503599627370496)))) + (IntKind.u64.wrap ((ji12) + 1)))))) else (if (IntKind.u64.wrap (x3_2 - (shl .u64 (ji12) (ji10)))) = (shl .u64 1 (IntKind.u64.wrap ((ji10) - 1))) then (if (Go.bits .and .u64 (ji12) 1) = 1 then (some (wrap64 (IntKind.u64.wrap ((IntKind.u64.wrap (x4_2 + (IntKind.u64.wrap ((IntKind.u64.wrap (wrap64 (x5_2 + 1022))) * 4503599627370496)))) + (IntKind.u64.wrap ((ji12) + 1)))))) else (some (wrap64 (IntKind.u64.wrap ((IntKind.u64.wrap (x4_2 + (IntKind.u64.wrap ((IntKind.u64.wrap (wrap64 (x5_2 + 1022))) * 4503599627370496)))) + (ji12)))))) else (some (wrap64 (IntKind.u64.wrap ((IntKind.u64.wrap (x4_2 + (IntKind.u64.wrap ((IntKind.u64.wrap (wrap64 (x5_2 + 1022))) * 4503599627370496)))) + (ji12))))))) else (none)) = some r := by first | (rw [hji12] at H; exact H) | (simp only [hji12] at H ⊢; exact H)
                    have hji12_ : (x3_2 / 2 ^ min (ji10).toNat 64) = ji12 := hji12
                    have hji12z : (ji10) ≤ 64 → (x3_2 / 2 ^ (ji10).toNat) = ji12 := shr_small hji12
                    have c13b0 := eq_true (of_decide_eq_true (by first | (with_reducible assumption) | assumption) : 0 ≤ (ji10))
                    obtain ⟨ji14, hji14⟩ : ∃ j_ : Int, (shl .u64 (ji12) (ji10)) = j_ := ⟨_, rfl⟩
                    replace H : (if 0 ≤ (IntKind.u64.wrap ((ji10) - 1)) then (if (IntKind.u64.wrap (x3_2 - (ji14))) > (shl .u64 1 (IntKind.u64.wrap ((ji10) - 1))) then (some (wrap64 (IntKind.u64.wrap ((IntKind.u64.wrap (x4_2 + (IntKind.u64.wrap ((IntKind.u64.wrap (wrap64 (x5_2 + 1022))) * 4503599627370496)))) + (IntKind.u64.wrap ((ji12) + 1)))))) else (if (IntKind.u64.wrap (x3_2 - (ji14))) = (shl .u64 1 (IntKind.u64.wrap ((ji10) - 1))) then (if (Go.bits .and .u64 (ji12) 1) = 1 then (some (wrap64 (IntKind.u64.wrap ((IntKind.u64.wrap (x4_2 + (IntKind.u64.wrap ((IntKind.u64.wrap (wrap64 (x5_2 + 1022))) * 4503599627370496)))) + (IntKind.u64.wrap ((ji12) + 1)))))) else (some (wrap64 (IntKind.u64.wrap ((IntKind.u64.wrap (x4_2 + (IntKind.u64.wrap ((IntKind.u64.wrap (wrap64 (x5_2 + 1022))) * 4503599627370496)))) + (ji12)))))) else (some (wrap64 (IntKind.u64.wrap ((IntKind.u64.wrap (x4_2 + (IntKind.u64.wrap ((IntKind.u64.wrap (wrap64 (x5_2 + 1022))) * 4503599627370496)))) + (ji12))))))) else (none)) = some r := by first | (rw [hji14] at H; exact H) | (simp only [hji14] at H ⊢; exact H)
                    have hji14_ : (IntKind.u64.wrap ((ji12) * 2 ^ min (ji10).toNat 64)) = ji14 := hji14
                    have hji14z : (ji10) ≤ 64 → (IntKind.u64.wrap ((ji12) * 2 ^ (ji10).toNat)) = ji14 := shl_small hji14
                    obtain ⟨ji15, hji15⟩ : ∃ j_ : Int, (IntKind.u64.wrap ((ji10) - 1)) = j_ := ⟨_, rfl⟩
                    replace H : (if 0 ≤ (ji15) then (if (IntKind.u64.wrap (x3_2 - (ji14))) > (shl .u64 1 (ji15)) then (some (wrap64 (IntKind.u64.wrap ((IntKind.u64.wrap (x4_2 + (IntKind.u64.wrap ((IntKind.u64.wrap (wrap64 (x5_2 + 1022))) * 4503599627370496)))) + (IntKind.u64.wrap ((ji12) + 1)))))) else (if (IntKind.u64.wrap (x3_2 - (ji14))) = (shl .u64 1 (ji15)) then (if (Go.bits .and .u64 (ji12) 1) = 1 then (some (wrap64 (IntKind.u64.wrap ((IntKind.u64.wrap (x4_2 + (IntKind.u64.wrap ((IntKind.u64.wrap (wrap64 (x5_2 + 1022))) * 4503599627370496)))) + (IntKind.u64.wrap ((ji12) + 1)))))) else (some (wrap64 (IntKind.u64.wrap ((IntKind.u64.wrap (x4_2 + (IntKind.u64.wrap ((IntKind.u64.wrap (wrap64 (x5_2 + 1022))) * 4503599627370496)))) + (ji12)))))) else (some (wrap64 (IntKind.u64.wrap ((IntKind.u64.wrap (x4_2 + (IntKind.u64.wrap ((IntKind.u64.wrap (wrap64 (x5_2 + 1022))) * 4503599627370496)))) + (ji12))))))) else (none)) = some r := by first | (rw [hji15] at H; exact H) | (simp only [hji15] at H ⊢; exact H)
                    by_cases c16 : 0 ≤ (ji15)
                    · rw [if_pos c16] at H
                      have c16b0 := eq_true c16
                      have c16b1 : decide (0 ≤ (ji15)) = true := decide_eq_true c16
                      clear c16
                      obtain ⟨ji17, hji17⟩ : ∃ j_ : Int, (shl .u64 1 (ji15)) = j_ := ⟨_, rfl⟩
                      replace H : (if (IntKind.u64.wrap (x3_2 - (ji14))) > (ji17) then (some (wrap64 (IntKind.u64.wrap ((IntKind.u64.wrap (x4_2 + (IntKind.u64.wrap ((IntKind.u64.wrap (wrap64 (x5_2 + 1022))) * 4503599627370496)))) + (IntKind.u64.wrap ((ji12) + 1)))))) else (if (IntKind.u64.wrap (x3_2 - (ji14))) = (ji17) then (if (Go.bits .and .u64 (ji12) 1) = 1 then (some (wrap64 (IntKind.u64.wrap ((IntKind.u64.wrap (x4_2 + (IntKind.u64.wrap ((IntKind.u64.wrap (wrap64 (x5_2 + 1022))) * 4503599627370496)))) + (IntKind.u64.wrap ((ji12) + 1)))))) else (some (wrap64 (IntKind.u64.wrap ((IntKind.u64.wrap (x4_2 + (IntKind.u64.wrap ((IntKind.u64.wrap (wrap64 (x5_2 + 1022))) * 4503599627370496)))) + (ji12)))))) else (some (wrap64 (IntKind.u64.wrap ((IntKind.u64.wrap (x4_2 + (IntKind.u64.wrap ((IntKind.u64.wrap (wrap64 (x5_2 + 1022))) * 4503599627370496)))) + (ji12))))))) = some r := by first | (rw [hji17] at H; exact H) | (simp only [hji17] at H ⊢; exact H)
                      have hji17_ : (IntKind.u64.wrap (1 * 2 ^ min (ji15).toNat 64)) = ji17 := hji17
                      have hji17z : (ji15) ≤ 64 → (IntKind.u64.wrap (1 * 2 ^ (ji15).toNat)) = ji17 := shl_small hji17
                      have hji17u : (IntKind.u64.wrap (2 ^ min (ji15).toNat 64)) = ji17 := by have h_ := hji17_; rw [Int.one_mul] at h_; exact h_
                      have hji17v : (ji15) ≤ 64 → (IntKind.u64.wrap (2 ^ (ji15).toNat)) = ji17 := fun hle_ => by have h_ := hji17z hle_; rw [Int.one_mul] at h_; exact h_
                      by_cases c18 : (IntKind.u64.wrap (x3_2 - (ji14))) > (ji17)
                      · rw [if_pos c18] at H
                        have c18b0 : decide ((ji17) < (IntKind.u64.wrap (x3_2 - (ji14)))) = true := decide_eq_true c18
                        clear c18
                        obtain rfl := Option.some.inj H
                        go_wp2
                        go_ret
                        exact ⟨by first | rfl | (simp; done) | (simp only [← hji5, ← hji7, ← hji10, ← hji12, ← hji14, ← hji15, ← hji17] <;> (first | rfl | simp)) | (simp [*]; done) | (simp; exact isEmpty_bne _) | (simp [*]; exact isEmpty_bne _), by repeat (first | exact Drawn0.refl _ | apply Drawn0.step)⟩
                      · rw [if_neg c18] at H
                        have c18b0 : decide ((ji17) < (IntKind.u64.wrap (x3_2 - (ji14)))) = false := decide_eq_false c18
                        clear c18
                        by_cases c19 : (IntKind.u64.wrap (x3_2 - (ji14))) = (ji17)
                        · rw [if_pos c19] at H
                          have c19b0 : ((IntKind.u64.wrap (x3_2 - (ji14))) == (ji17)) = true := beq_iff_eq.mpr c19
                          have c19b1 : ((IntKind.u64.wrap (x3_2 - (ji14))) != (ji17)) = false := bne_eq_false_iff_eq.mpr c19
                          clear c19
                          by_cases c20 : (Go.bits .and .u64 (ji12) 1) = 1
                          · rw [if_pos c20] at H
                            have c20b0 : ((Go.bits .and .u64 (ji12) 1) == 1) = true := beq_iff_eq.mpr c20
                            have c20b1 : ((Go.bits .and .u64 (ji12) 1) != 1) = false := bne_eq_false_iff_eq.mpr c20
                            clear c20
                            obtain rfl := Option.some.inj H
                            go_wp2
                            go_ret
                            exact ⟨by first | rfl | (simp; done) | (simp only [← hji5, ← hji7, ← hji10, ← hji12, ← hji14, ← hji15, ← hji17] <;> (first | rfl | simp)) | (simp [*]; done) | (simp; exact isEmpty_bne _) | (simp [*]; exact isEmpty_bne _), by repeat (first | exact Drawn0.refl _ | apply Drawn0.step)⟩
                          · rw [if_neg c20] at H
                            have c20b0 : ((Go.bits .and .u64 (ji12) 1) == 1) = false := beq_eq_false_iff_ne.mpr c20
                            have c20b1 : ((Go.bits .and .u64 (ji12) 1) != 1) = true := bne_iff_ne.mpr c20
                            obtain rfl := Option.some.inj H
                            go_wp2
                            go_ret
                            exact ⟨by first | rfl | (simp; done) | (simp only [← hji5, ← hji7, ← hji10, ← hji12, ← hji14, ← hji15, ← hji17] <;> (first | rfl | simp)) | (simp [*]; done) | (simp; exact isEmpty_bne _) | (simp [*]; exact isEmpty_bne _), by repeat (first | exact Drawn0.refl _ | apply Drawn0.step)⟩
                        · rw [if_neg c19] at H
                          have c19b0 : ((IntKind.u64.wrap (x3_2 - (ji14))) == (ji17)) = false := beq_eq_false_iff_ne.mpr c19
                          have c19b1 : ((IntKind.u64.wrap (x3_2 - (ji14))) != (ji17)) = true := bne_iff_ne.mpr c19
                          obtain rfl := Option.some.inj H
                          go_wp2
                          go_ret
                          exact ⟨by first | rfl | (simp; done) | (simp only [← hji5, ← hji7, ← hji10, ← hji12, ← hji14, ← hji15, ← hji17] <;> (first | rfl | simp)) | (simp [*]; done) | (simp; exact isEmpty_bne _) | (simp [*]; exact isEmpty_bne _), by repeat (first | exact Drawn0.refl _ | apply Drawn0.step)⟩
                    · rw [if_neg c16] at H
                      exact absurd H (by simp)
                  · rw [if_neg c11] at H
                    exact absurd H (by simp)
                · rw [if_neg c9] at H
                  have c9b0 : decide (52 < x5_2) = false := decide_eq_false c9
                  clear c9
                  obtain ⟨ji21, hji21⟩ : ∃ j_ : Int, (IntKind.u64.wrap (wrap64 (52 - x5_2))) = j_ := ⟨_, rfl⟩
                  replace H : (if 0 ≤ (ji21) then (some (wrap64 (IntKind.u64.wrap ((IntKind.u64.wrap (x4_2 + (IntKind.u64.wrap ((IntKind.u64.wrap (wrap64 (x5_2 + 1022))) * 4503599627370496)))) + (shl .u64 x3_2 (ji21)))))) else (none)) = some r := by first | (rw [hji21] at H; exact H) | (simp only [hji21] at H ⊢; exact H)
                  by_cases c22 : 0 ≤ (ji21)
                  · rw [if_pos c22] at H
                    have c22b0 := eq_true c22
                    have c22b1 : decide (0 ≤ (ji21)) = true := decide_eq_true c22
                    clear c22
                    obtain ⟨ji23, hji23⟩ : ∃ j_ : Int, (shl .u64 x3_2 (ji21)) = j_ := ⟨_, rfl⟩
                    replace H : (some (wrap64 (IntKind.u64.wrap ((IntKind.u64.wrap (x4_2 + (IntKind.u64.wrap ((IntKind.u64.wrap (wrap64 (x5_2 + 1022))) * 4503599627370496)))) + (ji23))))) = some r := by first | (rw [hji23] at H; exact H) | (simp only [hji23] at H ⊢; exact H)
                    have hji23_ : (IntKind.u64.wrap (x3_2 * 2 ^ min (ji21).toNat 64)) = ji23 := hji23
                    have hji23z : (ji21) ≤ 64 → (IntKind.u64.wrap (x3_2 * 2 ^ (ji21).toNat)) = ji23 := shl_small hji23
                    obtain rfl := Option.some.inj H
                    go_wp2
                    go_ret
                    exact ⟨by first | rfl | (simp; done) | (simp only [← hji5, ← hji7, ← hji21, ← hji23] <;> (first | rfl | simp)) | (simp [*]; done) | (simp; exact isEmpty_bne _) | (simp [*]; exact isEmpty_bne _), by repeat (first | exact Drawn0.refl _ | apply Drawn0.step)⟩
                  · rw [if_neg c22] at H
                    exact absurd H (by simp)
            · rw [if_neg c6] at H
              exact absurd H (by simp)
/-! ### haspref01_IsNaN: function 18 -/
def haspref01_IsNaN.f (a0 : Int) : Option (Bool) := (haspref01_Parts.f a0).bind fun bt104 => (if bt104.2.1 = 2047 then (some (bt104.2.2 != 0)) else (some false))
set_option maxHeartbeats 8000000 in
set_option maxRecDepth 100000 in
theorem haspref01_IsNaN.calls (a0 : Int) (r : Bool) (w : World) (h : haspref01_IsNaN.f a0 = some r) :
    Calls Try.prog 18 #[.int .i64 a0] w fun e w' => e = .returned (.bool r) ∧ Drawn0 w w' := by
  have H : ((haspref01_Parts.f a0).bind fun bt104 => (if bt104.2.1 = 2047 then (some (bt104.2.2 != 0)) else (some false))) = some r := h
  clear h
  replace H := Option.bind_eq_some_iff.mp H
  obtain ⟨⟨t104, t105, t106⟩, A20, H⟩ := H
  replace H : (if t105 = 2047 then (some (t106 != 0)) else (some false)) = some r := H
  have A2 := Aside0.mk A20
  clear A20
  by_cases c3 : t105 = 2047
  · rw [if_pos c3] at H
    have c3b0 : (t105 == 2047) = true := beq_iff_eq.mpr c3
    have c3b1 : (t105 != 2047) = false := bne_eq_false_iff_eq.mpr c3
    clear c3
    obtain rfl := Option.some.inj H
    go_enter Try.func18, Try.ntmps18
    go_wp2_with (first | ((with_reducible refine gate_callee (f := 31) rfl ?_); refine goesL_ (some 8) rfl rfl Try.func31 (by kernel_rfl) rfl #[.int .i64 a0] rfl (by (try simp only [List.map_toArray, List.map_cons, List.map_nil]); first | done | rfl | (simp only [List.length_drop, List.length_take]; rfl)) ?_; (with_reducible refine (haspref01_Parts.calls a0 t104 t105 t106 _ A2.out).mono ?_); rintro e w' ⟨rfl, ⟨nd, rfl⟩⟩; refine ⟨_, rfl, ?_⟩))
    go_ret
    exact ⟨by first | rfl | (simp; done) | (simp [*]; done) | (simp; exact isEmpty_bne _) | (simp [*]; exact isEmpty_bne _), by repeat (first | exact Drawn0.refl _ | apply Drawn0.step)⟩
  · rw [if_neg c3] at H
    have c3b0 : (t105 == 2047) = false := beq_eq_false_iff_ne.mpr c3
    have c3b1 : (t105 != 2047) = true := bne_iff_ne.mpr c3
    obtain rfl := Option.some.inj H
    go_enter Try.func18, Try.ntmps18
    go_wp2_with (first | ((with_reducible refine gate_callee (f := 31) rfl ?_); refine goesL_ (some 8) rfl rfl Try.func31 (by kernel_rfl) rfl #[.int .i64 a0] rfl (by (try simp only [List.map_toArray, List.map_cons, List.map_nil]); first | done | rfl | (simp only [List.length_drop, List.length_take]; rfl)) ?_; (with_reducible refine (haspref01_Parts.calls a0 t104 t105 t106 _ A2.out).mono ?_); rintro e w' ⟨rfl, ⟨nd, rfl⟩⟩; refine ⟨_, rfl, ?_⟩))
    go_ret
    exact ⟨by first | rfl | (simp; done) | (simp [*]; done) | (simp; exact isEmpty_bne _) | (simp [*]; exact isEmpty_bne _), by repeat (first | exact Drawn0.refl _ | apply Drawn0.step)⟩
/-- THE ONE PURE STATEMENT of haspref01_IsNaN: yours. -/
def haspref01_IsNaN.Pure : Prop := ∀ (a0 : Int), (Lit.int .i64 a0).wf = true → haspref01_IsNaN.f a0 = some true
theorem haspref01_IsNaN.walk (P : haspref01_IsNaN.Pure) (a0 : Int) (w : World) (w0 : (Lit.int .i64 a0).wf = true) :
    Calls Try.prog 18 #[.int .i64 a0] w fun e w' => e = .returned (.bool true) ∧ Below w.heap.size w w' := by
  have h := P a0 w0
  refine (haspref01_IsNaN.calls a0 true w h).mono ?_
  rintro e w' ⟨rfl, hd⟩
  exact ⟨rfl, hd.below⟩
/-! ### haspref01_Neg: function 45 -/
def haspref01_Neg.f (a0 : Int) : Option (Int) := (haspref01_IsNaN.f a0).bind fun t107 => (if t107 = true then (some 9221120237041090560) else (some (Go.bits .xor .i64 a0 (-9223372036854775808))))
set_option maxHeartbeats 8000000 in
set_option maxRecDepth 100000 in
theorem haspref01_Neg.calls (a0 : Int) (r : Int) (w : World) (h : haspref01_Neg.f a0 = some r) :
    Calls Try.prog 45 #[.int .i64 a0] w fun e w' => e = .returned (.int .i64 r) ∧ Drawn0 w w' := by
  have H : ((haspref01_IsNaN.f a0).bind fun t107 => (if t107 = true then (some 9221120237041090560) else (some (Go.bits .xor .i64 a0 (-9223372036854775808))))) = some r := h
  clear h
  replace H := Option.bind_eq_some_iff.mp H
  obtain ⟨t107, A20, H⟩ := H
  replace H : (if t107 = true then (some 9221120237041090560) else (some (Go.bits .xor .i64 a0 (-9223372036854775808)))) = some r := H
  have A2 := Aside0.mk A20
  clear A20
  by_cases c3 : t107 = true
  · subst c3
    have H1 : (some 9221120237041090560) = some r := by rw [if_pos rfl] at H; exact H
    clear H
    have H := H1
    clear H1
    obtain rfl := Option.some.inj H
    go_enter Try.func45, Try.ntmps45
    go_wp2_with (first | ((with_reducible refine gate_callee (f := 18) rfl ?_); refine goesL_ (some 4) rfl rfl Try.func18 (by kernel_rfl) rfl #[.int .i64 a0] rfl (by (try simp only [List.map_toArray, List.map_cons, List.map_nil]); first | done | rfl | (simp only [List.length_drop, List.length_take]; rfl)) ?_; (with_reducible refine (haspref01_IsNaN.calls a0 true _ A2.out).mono ?_); rintro e w' ⟨rfl, ⟨nd, rfl⟩⟩; refine ⟨_, rfl, ?_⟩))
    go_ret
    exact ⟨by first | rfl | (simp; done) | (simp [*]; done) | (simp; exact isEmpty_bne _) | (simp [*]; exact isEmpty_bne _), by repeat (first | exact Drawn0.refl _ | apply Drawn0.step)⟩
  · replace c3 := Bool.eq_false_iff.mpr c3
    subst c3
    have H1 : (some (Go.bits .xor .i64 a0 (-9223372036854775808))) = some r := by rw [if_neg (show ¬ (false = true) by decide)] at H; exact H
    clear H
    have H := H1
    clear H1
    obtain rfl := Option.some.inj H
    go_enter Try.func45, Try.ntmps45
    go_wp2_with (first | ((with_reducible refine gate_callee (f := 18) rfl ?_); refine goesL_ (some 4) rfl rfl Try.func18 (by kernel_rfl) rfl #[.int .i64 a0] rfl (by (try simp only [List.map_toArray, List.map_cons, List.map_nil]); first | done | rfl | (simp only [List.length_drop, List.length_take]; rfl)) ?_; (with_reducible refine (haspref01_IsNaN.calls a0 false _ A2.out).mono ?_); rintro e w' ⟨rfl, ⟨nd, rfl⟩⟩; refine ⟨_, rfl, ?_⟩))
    go_ret
    exact ⟨by first | rfl | (simp; done) | (simp [*]; done) | (simp; exact isEmpty_bne _) | (simp [*]; exact isEmpty_bne _), by repeat (first | exact Drawn0.refl _ | apply Drawn0.step)⟩
/-! ### haspref01_Canon: function 56 -/
def haspref01_Canon.f (a0 : Int) : Option (Int) := (haspref01_IsNaN.f a0).bind fun t108 => (if t108 = true then (some 9221120237041090560) else (some a0))
set_option maxHeartbeats 8000000 in
set_option maxRecDepth 100000 in
theorem haspref01_Canon.calls (a0 : Int) (r : Int) (w : World) (h : haspref01_Canon.f a0 = some r) :
    Calls Try.prog 56 #[.int .i64 a0] w fun e w' => e = .returned (.int .i64 r) ∧ Drawn0 w w' := by
  have H : ((haspref01_IsNaN.f a0).bind fun t108 => (if t108 = true then (some 9221120237041090560) else (some a0))) = some r := h
  clear h
  replace H := Option.bind_eq_some_iff.mp H
  obtain ⟨t108, A20, H⟩ := H
  replace H : (if t108 = true then (some 9221120237041090560) else (some a0)) = some r := H
  have A2 := Aside0.mk A20
  clear A20
  by_cases c3 : t108 = true
  · subst c3
    have H1 : (some 9221120237041090560) = some r := by rw [if_pos rfl] at H; exact H
    clear H
    have H := H1
    clear H1
    obtain rfl := Option.some.inj H
    go_enter Try.func56, Try.ntmps56
    go_wp2_with (first | ((with_reducible refine gate_callee (f := 18) rfl ?_); refine goesL_ (some 4) rfl rfl Try.func18 (by kernel_rfl) rfl #[.int .i64 a0] rfl (by (try simp only [List.map_toArray, List.map_cons, List.map_nil]); first | done | rfl | (simp only [List.length_drop, List.length_take]; rfl)) ?_; (with_reducible refine (haspref01_IsNaN.calls a0 true _ A2.out).mono ?_); rintro e w' ⟨rfl, ⟨nd, rfl⟩⟩; refine ⟨_, rfl, ?_⟩))
    go_ret
    exact ⟨by first | rfl | (simp; done) | (simp [*]; done) | (simp; exact isEmpty_bne _) | (simp [*]; exact isEmpty_bne _), by repeat (first | exact Drawn0.refl _ | apply Drawn0.step)⟩
  · replace c3 := Bool.eq_false_iff.mpr c3
    subst c3
    have H1 : (some a0) = some r := by rw [if_neg (show ¬ (false = true) by decide)] at H; exact H
    clear H
    have H := H1
    clear H1
    obtain rfl := Option.some.inj H
    go_enter Try.func56, Try.ntmps56
    go_wp2_with (first | ((with_reducible refine gate_callee (f := 18) rfl ?_); refine goesL_ (some 4) rfl rfl Try.func18 (by kernel_rfl) rfl #[.int .i64 a0] rfl (by (try simp only [List.map_toArray, List.map_cons, List.map_nil]); first | done | rfl | (simp only [List.length_drop, List.length_take]; rfl)) ?_; (with_reducible refine (haspref01_IsNaN.calls a0 false _ A2.out).mono ?_); rintro e w' ⟨rfl, ⟨nd, rfl⟩⟩; refine ⟨_, rfl, ?_⟩))
    go_ret
    exact ⟨by first | rfl | (simp; done) | (simp [*]; done) | (simp; exact isEmpty_bne _) | (simp [*]; exact isEmpty_bne _), by repeat (first | exact Drawn0.refl _ | apply Drawn0.step)⟩
end Go.Proofs.Ytbdengnadgofmaa.R
