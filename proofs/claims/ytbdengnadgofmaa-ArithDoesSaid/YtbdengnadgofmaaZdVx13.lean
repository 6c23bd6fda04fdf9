import Derived.Test.YtbdengnadgofmaaZdVx0
import Derived.Test.YtbdengnadgofmaaZdVx5
import Derived.Test.YtbdengnadgofmaaZdVx6
import Derived.Test.YtbdengnadgofmaaZdVx8
namespace Go.Proofs.Ytbdengnadgofmaa.V
open Go.RowKit Go.Proofs.YtbdengnadgofmaaW.PrintWords Go.Proofs.YtbdengnadgofmaaW.PrintLast Go.Proofs.YtbdengnadgofmaaW.PrintMore
attribute [local go_sem] max2_int min2_int max_two min_two max_three min_three max_four min_four   -- for this text's walks alone
set_option linter.unusedVariables false
set_option linter.unusedSimpArgs false
/-! ### haspref03_Type: function 16 -/
mutual
def haspref03_Type.j0 : Nat → Int → List Int → Bool → Option (Int × Bool)
  | 0, _, _, _ => none
  | k + 1, x0, x1, x18 => if x18 = true then (some (0, false)) else (if 0 < (x1.length : Int) then (if 0 ≤ (wrap64 ((x1.length : Int) - 1)) then (if (wrap64 ((x1.length : Int) - 1)) < (x1.length : Int) then (if (rd x1 0) = 0 then (haspref03_Type.j1 k x0 (rd x1 (wrap64 ((x1.length : Int) - 1))) (rd x1 (wrap64 ((x1.length : Int) - 1)))) else (haspref03_Type.j1 k x0 (rd x1 0) (rd x1 (wrap64 ((x1.length : Int) - 1))))) else (none)) else (none)) else (none))
def haspref03_Type.j1 : Nat → Int → Int → Int → Option (Int × Bool)
  | 0, _, _, _ => none
  | k + 1, x0, x6, x7 => if x7 = 0 then (haspref03_Type.j2 k x0 x6 x6) else (haspref03_Type.j2 k x0 x6 x7)
def haspref03_Type.j2 : Nat → Int → Int → Int → Option (Int × Bool)
  | 0, _, _, _ => none
  | k + 1, x0, x6, x7 => if x6 = x7 then (if x6 = 0 then (if x0 = 12 then (some (4, (4 != 0))) else (if x0 = 11 then (haspref03_Type.j3 k x0 0 true) else (haspref03_Type.j3 k x0 0 (x0 == 14)))) else ((haspref03_One.f k x0 x6).bind fun t185 => (some (t185, (t185 != 0))))) else (some (0, false))
def haspref03_Type.j3 : Nat → Int → Int → Bool → Option (Int × Bool)
  | 0, _, _, _ => none
  | k + 1, x0, x8, x49 => if x49 = true then (some (2, (2 != 0))) else (if x0 = 15 then (some (3, (3 != 0))) else (some (x8, (x8 != 0))))
end
def haspref03_Type.f (k : Nat) (a0 : Int) (l1 : List Int) : Option (Int × Bool) := (haspref03_Count.f k a0).bind fun t181 => (if t181 = 0 then (haspref03_Type.j0 k a0 l1 true) else ((haspref03_Count.f k a0).bind fun t182 => (haspref03_Type.j0 k a0 l1 (t182 != (l1.length : Int)))))
set_option maxHeartbeats 8000000 in
set_option maxRecDepth 100000 in
theorem haspref03_Type.calls (k : Nat) (a0 : Int) (A1 : Option Addr) (c1 : Nat) (l1 : List Int) (r1 : Int) (r2 : Bool) (w : World) (hr1 : Kd.C (Kd.int .i64) w A1 l1.length l1) (hc1 : l1.length ≤ c1) (h : haspref03_Type.f k a0 l1 = some (r1, r2)) :
    Calls Try.prog 16 #[.int .i64 a0, .slice A1 l1.length c1] w fun e w' => e = .returned (.tuple #[.int .i64 r1, .bool r2]) ∧ Drawn0 w w' := by
  have HR1 := Aside0.mk hr1
  have HC1 := Aside0.mk hc1
  clear hr1 hc1
  have H : ((haspref03_Count.f k a0).bind fun t181 => (if t181 = 0 then (haspref03_Type.j0 k a0 l1 true) else ((haspref03_Count.f k a0).bind fun t182 => (haspref03_Type.j0 k a0 l1 (t182 != (l1.length : Int)))))) = some (r1, r2) := h
  clear h
  have HC3 := Aside0.mk H
  clear H
  go_enter Try.func16, Try.ntmps16
  go_upto_region 1 with (fail)
  repeat (go_quiet (fail); go_upto_region 1 with (fail))
  go_cut [18] (fun v18 wc => ∃ (kq : Nat) (x18_2 : Bool), v18 = .bool x18_2 ∧ Aside0 (haspref03_Type.j0 kq a0 l1 x18_2 = some (r1, r2)) ∧ Aside0 (kq ≤ k) ∧ Drawn0 w wc)
  case first =>
    have H := HC3.out
    clear HC3
    replace H := Option.bind_eq_some_iff.mp H
    obtain ⟨t181, A40, H⟩ := H
    replace H : (if t181 = 0 then (haspref03_Type.j0 k a0 l1 true) else ((haspref03_Count.f k a0).bind fun t182 => (haspref03_Type.j0 k a0 l1 (t182 != (l1.length : Int))))) = some (r1, r2) := H
    have A4 := Aside0.mk A40
    clear A40
    by_cases c5 : t181 = 0
    · rw [if_pos c5] at H
      have c5b0 : (t181 == 0) = true := beq_iff_eq.mpr c5
      have c5b1 : (t181 != 0) = false := bne_eq_false_iff_eq.mpr c5
      clear c5
      (first | rw [c5b0] | (simp only [i64_w, i32_w]; rw [c5b0]) | skip)
      have H' := Aside0.mk H
      clear H
      go_wp2_with (first | (go_at_call 24; (with_reducible refine (haspref03_Count.calls k a0 t181 _ A4.out).mono ?_); rintro e w' ⟨rfl, ⟨nd, rfl⟩⟩; (try first | exact ⟨rfl, _, World.drewN_drewN _ _ _⟩ | exact ⟨rfl, _, Eq.trans (World.drewN_drewN _ _ _) (congrArg (World.drewN _) (Nat.add_assoc _ _ _))⟩)))
      repeat (go_quiet (first | (go_at_call 24; (with_reducible refine (haspref03_Count.calls k a0 t181 _ A4.out).mono ?_); rintro e w' ⟨rfl, ⟨nd, rfl⟩⟩; (try first | exact ⟨rfl, _, World.drewN_drewN _ _ _⟩ | exact ⟨rfl, _, Eq.trans (World.drewN_drewN _ _ _) (congrArg (World.drewN _) (Nat.add_assoc _ _ _))⟩))); try go_wp2_with (first | (go_at_call 24; (with_reducible refine (haspref03_Count.calls k a0 t181 _ A4.out).mono ?_); rintro e w' ⟨rfl, ⟨nd, rfl⟩⟩; (try first | exact ⟨rfl, _, World.drewN_drewN _ _ _⟩ | exact ⟨rfl, _, Eq.trans (World.drewN_drewN _ _ _) (congrArg (World.drewN _) (Nat.add_assoc _ _ _))⟩))))
      go_meet
      case rel => exact ⟨_, (true), (by first | rfl | (simp; done) | (simp [*]; done) | (simp; exact isEmpty_bne _) | (simp [*]; exact isEmpty_bne _)), H', ⟨by first | omega | exact Nat.le_refl _⟩, by repeat (first | exact Drawn0.refl _ | apply Drawn0.step)⟩
    · rw [if_neg c5] at H
      have c5b0 : (t181 == 0) = false := beq_eq_false_iff_ne.mpr c5
      have c5b1 : (t181 != 0) = true := bne_iff_ne.mpr c5
      (first | rw [c5b0] | (simp only [i64_w, i32_w]; rw [c5b0]) | skip)
      replace H := Option.bind_eq_some_iff.mp H
      obtain ⟨t182, A60, H⟩ := H
      replace H : (haspref03_Type.j0 k a0 l1 (t182 != (l1.length : Int))) = some (r1, r2) := H
      have A6 := Aside0.mk A60
      clear A60
      have H' := Aside0.mk H
      clear H
      go_wp2_with (first | (go_at_call 24; (with_reducible refine (haspref03_Count.calls k a0 t181 _ A4.out).mono ?_); rintro e w' ⟨rfl, ⟨nd, rfl⟩⟩; (try first | exact ⟨rfl, _, World.drewN_drewN _ _ _⟩ | exact ⟨rfl, _, Eq.trans (World.drewN_drewN _ _ _) (congrArg (World.drewN _) (Nat.add_assoc _ _ _))⟩)) | (go_at_call 24; (with_reducible refine (haspref03_Count.calls k a0 t182 _ A6.out).mono ?_); rintro e w' ⟨rfl, ⟨nd, rfl⟩⟩; (try first | exact ⟨rfl, _, World.drewN_drewN _ _ _⟩ | exact ⟨rfl, _, Eq.trans (World.drewN_drewN _ _ _) (congrArg (World.drewN _) (Nat.add_assoc _ _ _))⟩)))
      repeat (go_quiet (first | (go_at_call 24; (with_reducible refine (haspref03_Count.calls k a0 t181 _ A4.out).mono ?_); rintro e w' ⟨rfl, ⟨nd, rfl⟩⟩; (try first | exact ⟨rfl, _, World.drewN_drewN _ _ _⟩ | exact ⟨rfl, _, Eq.trans (World.drewN_drewN _ _ _) (congrArg (World.drewN _) (Nat.add_assoc _ _ _))⟩)) | (go_at_call 24; (with_reducible refine (haspref03_Count.calls k a0 t182 _ A6.out).mono ?_); rintro e w' ⟨rfl, ⟨nd, rfl⟩⟩; (try first | exact ⟨rfl, _, World.drewN_drewN _ _ _⟩ | exact ⟨rfl, _, Eq.trans (World.drewN_drewN _ _ _) (congrArg (World.drewN _) (Nat.add_assoc _ _ _))⟩))); try go_wp2_with (first | (go_at_call 24; (with_reducible refine (haspref03_Count.calls k a0 t181 _ A4.out).mono ?_); rintro e w' ⟨rfl, ⟨nd, rfl⟩⟩; (try first | exact ⟨rfl, _, World.drewN_drewN _ _ _⟩ | exact ⟨rfl, _, Eq.trans (World.drewN_drewN _ _ _) (congrArg (World.drewN _) (Nat.add_assoc _ _ _))⟩)) | (go_at_call 24; (with_reducible refine (haspref03_Count.calls k a0 t182 _ A6.out).mono ?_); rintro e w' ⟨rfl, ⟨nd, rfl⟩⟩; (try first | exact ⟨rfl, _, World.drewN_drewN _ _ _⟩ | exact ⟨rfl, _, Eq.trans (World.drewN_drewN _ _ _) (congrArg (World.drewN _) (Nat.add_assoc _ _ _))⟩))))
      go_meet
      case rel => exact ⟨_, ((t182 != (l1.length : Int))), (by first | rfl | (rw [Option.some.inj (A4.out.symm.trans A6.out)]; done) | (simp; done) | (simp [*]; done) | (simp; exact isEmpty_bne _) | (simp [*]; exact isEmpty_bne _)), H', ⟨by first | omega | exact Nat.le_refl _⟩, by repeat (first | exact Drawn0.refl _ | apply Drawn0.step)⟩
  case rest =>
    clear HC3
    try clear c1
    try clear p2
    try clear c5
    try clear c5b0
    try clear c5b1
    obtain ⟨kq, x18_2, rfl, HA, HJ2, ⟨mc2, rfl⟩⟩ := hcut
    cases kq with
    | zero => exact absurd HA.out (by simp [haspref03_Type.j0])
    | succ kj2 =>
      have H := HA.out
      clear HA
      simp only [haspref03_Type.j0] at H
      by_cases c7 : x18_2 = true
      · subst c7
        have H1 : (some (0, false)) = some (r1, r2) := by rw [if_pos rfl] at H; exact H
        clear H
        have H := H1
        clear H1
        simp only [Option.some.injEq, Prod.mk.injEq] at H
        obtain ⟨rfl, rfl⟩ := H
        go_wp2
        repeat (go_quiet (fail); try go_wp2)
        go_ret2
        exact ⟨by first | rfl | (simp; done) | (simp [*]; done) | (simp; exact isEmpty_bne _) | (simp [*]; exact isEmpty_bne _), by repeat (first | exact Drawn0.refl _ | apply Drawn0.step)⟩
      · replace c7 := Bool.eq_false_iff.mpr c7
        subst c7
        have H1 : (if 0 < (l1.length : Int) then (if 0 ≤ (wrap64 ((l1.length : Int) - 1)) then (if (wrap64 ((l1.length : Int) - 1)) < (l1.length : Int) then (if (rd l1 0) = 0 then (haspref03_Type.j1 kj2 a0 (rd l1 (wrap64 ((l1.length : Int) - 1))) (rd l1 (wrap64 ((l1.length : Int) - 1)))) else (haspref03_Type.j1 kj2 a0 (rd l1 0) (rd l1 (wrap64 ((l1.length : Int) - 1))))) else (none)) else (none)) else (none)) = some (r1, r2) := by rw [if_neg (show ¬ (false = true) by decide)] at H; exact H
        clear H
        have H := H1
        clear H1
        by_cases c8 : 0 < (l1.length : Int)
        · rw [if_pos c8] at H
          have c8b0 : decide (0 < (l1.length : Int)) = true := decide_eq_true c8
          have c8b1 : decide (0 < l1.length) = true := decide_eq_true (by omega)
          clear c8
          obtain ⟨ji9, hji9⟩ : ∃ j_ : Int, (wrap64 ((l1.length : Int) - 1)) = j_ := ⟨_, rfl⟩
          replace H : (if 0 ≤ (ji9) then (if (ji9) < (l1.length : Int) then (if (rd l1 0) = 0 then (haspref03_Type.j1 kj2 a0 (rd l1 (ji9)) (rd l1 (ji9))) else (haspref03_Type.j1 kj2 a0 (rd l1 0) (rd l1 (ji9)))) else (none)) else (none)) = some (r1, r2) := by first | (rw [hji9] at H; exact H) | (simp only [hji9] at H ⊢; exact H)
          have hji9w : (IntKind.i64.wrap ((l1.length : Int) - 1)) = ji9 := (i64_w _).trans hji9
          by_cases c10 : 0 ≤ (ji9)
          · rw [if_pos c10] at H
            have c10b0 : decide (0 ≤ (ji9)) = true := decide_eq_true c10
            clear c10
            by_cases c11 : (ji9) < (l1.length : Int)
            · rw [if_pos c11] at H
              have c11b0 : decide ((ji9) < (l1.length : Int)) = true := decide_eq_true c11
              clear c11
              have HC12 := Aside0.mk H
              clear H
              have p183 : 0 ≤ (0 : Int) := (by omega)
              have q183 : 0 < (l1.length : Int) := of_decide_eq_true (by first | (with_reducible assumption) | assumption)
              obtain ⟨ad183, e183, hx183_0⟩ := Kd.at_int HR1.out 0 p183 q183
              cases e183
              have qi183 : (0 < l1.length) = True := eq_true (by omega)
              (try rw [show ((0 : Int)).toNat = 0 from rfl] at hx183_0)
              (try rw [Addr.add_zero'] at hx183_0)
              replace p183 := eq_true p183
              replace q183 := eq_true q183
              have p184 : 0 ≤ ((ji9) : Int) := of_decide_eq_true (by first | (with_reducible assumption) | assumption)
              have q184 : (ji9) < (l1.length : Int) := of_decide_eq_true (by first | (with_reducible assumption) | assumption)
              obtain ⟨ad184, e184, hx184_0⟩ := Kd.at_int HR1.out (ji9) p184 q184
              obtain rfl : ad183 = ad184 := (by injection e184)
              replace p184 := eq_true p184
              replace q184 := eq_true q184
              go_upto_if 29 with (fail)
              repeat (go_quiet (fail); go_upto_if 29 with (fail))
              go_cut [6] (fun v6 wc => ∃ (kq : Nat) (x6_11 : Int), v6 = .int .i64 x6_11 ∧ Aside0 (haspref03_Type.j1 kq a0 x6_11 (rd l1 (ji9)) = some (r1, r2)) ∧ Aside0 (kq ≤ kj2) ∧ Drawn0 w wc)
              case first =>
                have H := HC12.out
                clear HC12
                by_cases c13 : (rd l1 0) = 0
                · rw [if_pos c13] at H
                  have c13b0 : ((rd l1 0) == 0) = true := beq_iff_eq.mpr c13
                  have c13b1 : ((rd l1 0) != 0) = false := bne_eq_false_iff_eq.mpr c13
                  clear c13
                  (first | rw [c13b0] | (simp only [i64_w, i32_w]; rw [c13b0]) | skip)
                  have H' := Aside0.mk H
                  clear H
                  go_wp2
                  repeat (go_quiet (fail); try go_wp2)
                  go_meet
                  case rel => exact ⟨_, (rd l1 (ji9)), (by first | rfl | (simp; done) | (simp only [← hji9] <;> (first | rfl | simp)) | (simp [*]; done) | (simp; exact isEmpty_bne _) | (simp [*]; exact isEmpty_bne _)), H', ⟨by have := HJ2.out; first | omega | exact Nat.le_refl _⟩, by repeat (first | exact Drawn0.refl _ | apply Drawn0.step)⟩
                · rw [if_neg c13] at H
                  have c13b0 : ((rd l1 0) == 0) = false := beq_eq_false_iff_ne.mpr c13
                  have c13b1 : ((rd l1 0) != 0) = true := bne_iff_ne.mpr c13
                  (first | rw [c13b0] | (simp only [i64_w, i32_w]; rw [c13b0]) | skip)
                  have H' := Aside0.mk H
                  clear H
                  go_wp2
                  repeat (go_quiet (fail); try go_wp2)
                  go_meet
                  case rel => exact ⟨_, (rd l1 0), (by first | rfl | (simp; done) | (simp [*]; done) | (simp; exact isEmpty_bne _) | (simp [*]; exact isEmpty_bne _)), H', ⟨by have := HJ2.out; first | omega | exact Nat.le_refl _⟩, by repeat (first | exact Drawn0.refl _ | apply Drawn0.step)⟩
              case rest =>
                clear HC12
                try clear c1
                try clear p1
                try clear q1
                try clear hx1
                try clear qi1
                try clear c2
                try clear p2
                try clear c5
                try clear c5b0
                try clear c5b1
                try clear p6
                try clear c7
                try clear c8
                try clear c8b0
                try clear c8b1
                try clear c10
                try clear c10b0
                try clear c11
                try clear c11b0
                try clear c13
                try clear c13b0
                try clear c13b1
                try clear hx183_0
                try clear hx184_0
                try clear p183
                try clear p184
                try clear p2
                try clear q183
                try clear q184
                obtain ⟨kq, x6_11, rfl, HA, HJ11, ⟨mc11, rfl⟩⟩ := hcut
                cases kq with
                | zero => exact absurd HA.out (by simp [haspref03_Type.j1])
                | succ kj11 =>
                  have H := HA.out
                  clear HA
                  simp only [haspref03_Type.j1] at H
                  have HC14 := Aside0.mk H
                  clear H
                  go_upto_if 32 with (fail)
                  repeat (go_quiet (fail); go_upto_if 32 with (fail))
                  go_cut [7] (fun v7 wc => ∃ (kq : Nat) (x7_13 : Int), v7 = .int .i64 x7_13 ∧ Aside0 (haspref03_Type.j2 kq a0 x6_11 x7_13 = some (r1, r2)) ∧ Aside0 (kq ≤ kj11) ∧ Drawn0 w wc)
                  case first =>
                    have H := HC14.out
                    clear HC14
                    by_cases c15 : (rd l1 (ji9)) = 0
                    · rw [if_pos c15] at H
                      have c15b0 : ((rd l1 (ji9)) == 0) = true := beq_iff_eq.mpr c15
                      have c15b1 : ((rd l1 (ji9)) != 0) = false := bne_eq_false_iff_eq.mpr c15
                      clear c15
                      (first | rw [c15b0] | (simp only [i64_w, i32_w]; rw [c15b0]) | skip)
                      have H' := Aside0.mk H
                      clear H
                      go_wp2
                      repeat (go_quiet (fail); try go_wp2)
                      go_meet
                      case rel => exact ⟨_, (x6_11), (by first | rfl | (simp; done) | (simp [*]; done) | (simp; exact isEmpty_bne _) | (simp [*]; exact isEmpty_bne _)), H', ⟨by have := HJ2.out; have := HJ11.out; first | omega | exact Nat.le_refl _⟩, by repeat (first | exact Drawn0.refl _ | apply Drawn0.step)⟩
                    · rw [if_neg c15] at H
                      have c15b0 : ((rd l1 (ji9)) == 0) = false := beq_eq_false_iff_ne.mpr c15
                      have c15b1 : ((rd l1 (ji9)) != 0) = true := bne_iff_ne.mpr c15
                      (first | rw [c15b0] | (simp only [i64_w, i32_w]; rw [c15b0]) | skip)
                      have H' := Aside0.mk H
                      clear H
                      go_wp2
                      repeat (go_quiet (fail); try go_wp2)
                      go_meet
                      case rel => exact ⟨_, ((rd l1 (ji9))), (by first | rfl | (simp; done) | (simp only [← hji9] <;> (first | rfl | simp)) | (simp [*]; done) | (simp; exact isEmpty_bne _) | (simp [*]; exact isEmpty_bne _)), H', ⟨by have := HJ2.out; have := HJ11.out; first | omega | exact Nat.le_refl _⟩, by repeat (first | exact Drawn0.refl _ | apply Drawn0.step)⟩
                  case rest =>
                    clear HC14
                    try clear c1
                    try clear p1
                    try clear q1
                    try clear hx1
                    try clear qi1
                    try clear c2
                    try clear p2
                    try clear c5
                    try clear c5b0
                    try clear c5b1
                    try clear p6
                    try clear c7
                    try clear c8
                    try clear c8b0
                    try clear c8b1
                    try clear c10
                    try clear c10b0
                    try clear c11
                    try clear c11b0
                    try clear c13
                    try clear c13b0
                    try clear c13b1
                    try clear c15
                    try clear c15b0
                    try clear c15b1
                    try clear hx183_0
                    try clear hx184_0
                    try clear p1
                    try clear p183
                    try clear p184
                    try clear p2
                    try clear p6
                    try clear q1
                    try clear q183
                    try clear q184
                    obtain ⟨kq, x7_13, rfl, HA, HJ13, ⟨mc13, rfl⟩⟩ := hcut
                    cases kq with
                    | zero => exact absurd HA.out (by simp [haspref03_Type.j2])
                    | succ kj13 =>
                      have H := HA.out
                      clear HA
                      simp only [haspref03_Type.j2] at H
                      by_cases c16 : x6_11 = x7_13
                      · rw [if_pos c16] at H
                        have c16b0 : (x6_11 == x7_13) = true := beq_iff_eq.mpr c16
                        have c16b1 : (x6_11 != x7_13) = false := bne_eq_false_iff_eq.mpr c16
                        clear c16
                        by_cases c17 : x6_11 = 0
                        · rw [if_pos c17] at H
                          have c17b0 : (x6_11 == 0) = true := beq_iff_eq.mpr c17
                          have c17b1 : (x6_11 != 0) = false := bne_eq_false_iff_eq.mpr c17
                          clear c17
                          by_cases c18 : a0 = 12
                          · rw [if_pos c18] at H
                            have c18b0 : (a0 == 12) = true := beq_iff_eq.mpr c18
                            have c18b1 : (a0 != 12) = false := bne_eq_false_iff_eq.mpr c18
                            clear c18
                            simp only [Option.some.injEq, Prod.mk.injEq] at H
                            obtain ⟨rfl, rfl⟩ := H
                            go_wp2
                            repeat (go_quiet (fail); try go_wp2)
                            go_ret2
                            exact ⟨by first | rfl | (simp; done) | (simp only [← hji9] <;> (first | rfl | simp)) | (simp [*]; done) | (simp; exact isEmpty_bne _) | (simp [*]; exact isEmpty_bne _), by repeat (first | exact Drawn0.refl _ | apply Drawn0.step)⟩
                          · rw [if_neg c18] at H
                            have c18b0 : (a0 == 12) = false := beq_eq_false_iff_ne.mpr c18
                            have c18b1 : (a0 != 12) = true := bne_iff_ne.mpr c18
                            have HC19 := Aside0.mk H
                            clear H
                            go_upto_region 15 with (fail)
                            repeat (go_quiet (fail); go_upto_region 15 with (fail))
                            go_cut [49] (fun v49 wc => ∃ (kq : Nat) (x49_18 : Bool), v49 = .bool x49_18 ∧ Aside0 (haspref03_Type.j3 kq a0 0 x49_18 = some (r1, r2)) ∧ Aside0 (kq ≤ kj13) ∧ Drawn0 w wc)
                            case first =>
                              have H := HC19.out
                              clear HC19
                              by_cases c20 : a0 = 11
                              · rw [if_pos c20] at H
                                have c20b0 : (a0 == 11) = true := beq_iff_eq.mpr c20
                                have c20b1 : (a0 != 11) = false := bne_eq_false_iff_eq.mpr c20
                                clear c20
                                (first | rw [c20b0] | (simp only [i64_w, i32_w]; rw [c20b0]) | skip)
                                have H' := Aside0.mk H
                                clear H
                                go_wp2
                                repeat (go_quiet (fail); try go_wp2)
                                go_meet
                                case rel => exact ⟨_, (true), (by first | rfl | (simp; done) | (simp [*]; done) | (simp; exact isEmpty_bne _) | (simp [*]; exact isEmpty_bne _)), H', ⟨by have := HJ2.out; have := HJ11.out; have := HJ13.out; first | omega | exact Nat.le_refl _⟩, by repeat (first | exact Drawn0.refl _ | apply Drawn0.step)⟩
                              · rw [if_neg c20] at H
                                have c20b0 : (a0 == 11) = false := beq_eq_false_iff_ne.mpr c20
                                have c20b1 : (a0 != 11) = true := bne_iff_ne.mpr c20
                                (first | rw [c20b0] | (simp only [i64_w, i32_w]; rw [c20b0]) | skip)
                                have H' := Aside0.mk H
                                clear H
                                go_wp2
                                repeat (go_quiet (fail); try go_wp2)
                                go_meet
                                case rel => exact ⟨_, ((a0 == 14)), (by first | rfl | (simp; done) | (simp [*]; done) | (simp; exact isEmpty_bne _) | (simp [*]; exact isEmpty_bne _)), H', ⟨by have := HJ2.out; have := HJ11.out; have := HJ13.out; first | omega | exact Nat.le_refl _⟩, by repeat (first | exact Drawn0.refl _ | apply Drawn0.step)⟩
                            case rest =>
                              clear HC19
                              try clear c1
                              try clear p1
                              try clear q1
                              try clear hx1
                              try clear qi1
                              try clear c2
                              try clear p2
                              try clear c5
                              try clear c5b0
                              try clear c5b1
                              try clear p6
                              try clear c7
                              try clear c8
                              try clear c8b0
                              try clear c8b1
                              try clear c10
                              try clear c10b0
                              try clear c11
                              try clear c11b0
                              try clear c13
                              try clear c13b0
                              try clear c13b1
                              try clear c15
                              try clear c15b0
                              try clear c15b1
                              try clear c16
                              try clear c16b0
                              try clear c16b1
                              try clear c17
                              try clear c17b0
                              try clear c17b1
                              try clear c18
                              try clear c18b0
                              try clear c18b1
                              try clear p18
                              try clear q18
                              try clear hx18
                              try clear qi18
                              try clear c20
                              try clear c20b0
                              try clear c20b1
                              try clear hx183_0
                              try clear hx184_0
                              try clear p1
                              try clear p183
                              try clear p184
                              try clear p2
                              try clear p6
                              try clear q1
                              try clear q183
                              try clear q184
                              obtain ⟨kq, x49_18, rfl, HA, HJ18, ⟨mc18, rfl⟩⟩ := hcut
                              cases kq with
                              | zero => exact absurd HA.out (by simp [haspref03_Type.j3])
                              | succ kj18 =>
                                have H := HA.out
                                clear HA
                                simp only [haspref03_Type.j3] at H
                                by_cases c21 : x49_18 = true
                                · subst c21
                                  have H1 : (some (2, (2 != 0))) = some (r1, r2) := by rw [if_pos rfl] at H; exact H
                                  clear H
                                  have H := H1
                                  clear H1
                                  simp only [Option.some.injEq, Prod.mk.injEq] at H
                                  obtain ⟨rfl, rfl⟩ := H
                                  go_wp2
                                  repeat (go_quiet (fail); try go_wp2)
                                  go_ret2
                                  exact ⟨by first | rfl | (simp; done) | (simp only [← hji9] <;> (first | rfl | simp)) | (simp [*]; done) | (simp; exact isEmpty_bne _) | (simp [*]; exact isEmpty_bne _), by repeat (first | exact Drawn0.refl _ | apply Drawn0.step)⟩
                                · replace c21 := Bool.eq_false_iff.mpr c21
                                  subst c21
                                  have H1 : (if a0 = 15 then (some (3, (3 != 0))) else (some (0, (0 != 0)))) = some (r1, r2) := by rw [if_neg (show ¬ (false = true) by decide)] at H; exact H
                                  clear H
                                  have H := H1
                                  clear H1
                                  by_cases c22 : a0 = 15
                                  · rw [if_pos c22] at H
                                    have c22b0 : (a0 == 15) = true := beq_iff_eq.mpr c22
                                    have c22b1 : (a0 != 15) = false := bne_eq_false_iff_eq.mpr c22
                                    clear c22
                                    simp only [Option.some.injEq, Prod.mk.injEq] at H
                                    obtain ⟨rfl, rfl⟩ := H
                                    go_wp2
                                    repeat (go_quiet (fail); try go_wp2)
                                    go_ret2
                                    exact ⟨by first | rfl | (simp; done) | (simp only [← hji9] <;> (first | rfl | simp)) | (simp [*]; done) | (simp; exact isEmpty_bne _) | (simp [*]; exact isEmpty_bne _), by repeat (first | exact Drawn0.refl _ | apply Drawn0.step)⟩
                                  · rw [if_neg c22] at H
                                    have c22b0 : (a0 == 15) = false := beq_eq_false_iff_ne.mpr c22
                                    have c22b1 : (a0 != 15) = true := bne_iff_ne.mpr c22
                                    simp only [Option.some.injEq, Prod.mk.injEq] at H
                                    obtain ⟨rfl, rfl⟩ := H
                                    go_wp2
                                    repeat (go_quiet (fail); try go_wp2)
                                    go_ret2
                                    exact ⟨by first | rfl | (simp; done) | (simp only [← hji9] <;> (first | rfl | simp)) | (simp [*]; done) | (simp; exact isEmpty_bne _) | (simp [*]; exact isEmpty_bne _), by repeat (first | exact Drawn0.refl _ | apply Drawn0.step)⟩
                        · rw [if_neg c17] at H
                          have c17b0 : (x6_11 == 0) = false := beq_eq_false_iff_ne.mpr c17
                          have c17b1 : (x6_11 != 0) = true := bne_iff_ne.mpr c17
                          replace H := Option.bind_eq_some_iff.mp H
                          obtain ⟨t185, A230, H⟩ := H
                          replace H : (some (t185, (t185 != 0))) = some (r1, r2) := H
                          have A23 := Aside0.mk A230
                          clear A230
                          simp only [Option.some.injEq, Prod.mk.injEq] at H
                          obtain ⟨rfl, rfl⟩ := H
                          go_wp2_with (first | (go_at_call 25; (with_reducible refine (haspref03_One.calls kj13 a0 x6_11 t185 _ A23.out).mono ?_); rintro e w' ⟨rfl, ⟨nd, rfl⟩⟩; (try first | exact ⟨rfl, _, World.drewN_drewN _ _ _⟩ | exact ⟨rfl, _, Eq.trans (World.drewN_drewN _ _ _) (congrArg (World.drewN _) (Nat.add_assoc _ _ _))⟩)))
                          repeat (go_quiet (first | (go_at_call 25; (with_reducible refine (haspref03_One.calls kj13 a0 x6_11 t185 _ A23.out).mono ?_); rintro e w' ⟨rfl, ⟨nd, rfl⟩⟩; (try first | exact ⟨rfl, _, World.drewN_drewN _ _ _⟩ | exact ⟨rfl, _, Eq.trans (World.drewN_drewN _ _ _) (congrArg (World.drewN _) (Nat.add_assoc _ _ _))⟩))); try go_wp2_with (first | (go_at_call 25; (with_reducible refine (haspref03_One.calls kj13 a0 x6_11 t185 _ A23.out).mono ?_); rintro e w' ⟨rfl, ⟨nd, rfl⟩⟩; (try first | exact ⟨rfl, _, World.drewN_drewN _ _ _⟩ | exact ⟨rfl, _, Eq.trans (World.drewN_drewN _ _ _) (congrArg (World.drewN _) (Nat.add_assoc _ _ _))⟩))))
                          go_ret2
                          exact ⟨by first | rfl | (simp; done) | (simp only [← hji9] <;> (first | rfl | simp)) | (simp [*]; done) | (simp; exact isEmpty_bne _) | (simp [*]; exact isEmpty_bne _), by repeat (first | exact Drawn0.refl _ | apply Drawn0.step)⟩
                      · rw [if_neg c16] at H
                        have c16b0 : (x6_11 == x7_13) = false := beq_eq_false_iff_ne.mpr c16
                        have c16b1 : (x6_11 != x7_13) = true := bne_iff_ne.mpr c16
                        simp only [Option.some.injEq, Prod.mk.injEq] at H
                        obtain ⟨rfl, rfl⟩ := H
                        go_wp2
                        repeat (go_quiet (fail); try go_wp2)
                        go_ret2
                        exact ⟨by first | rfl | (simp; done) | (simp only [← hji9] <;> (first | rfl | simp)) | (simp [*]; done) | (simp; exact isEmpty_bne _) | (simp [*]; exact isEmpty_bne _), by repeat (first | exact Drawn0.refl _ | apply Drawn0.step)⟩
            · rw [if_neg c11] at H
              exact absurd H (by simp)
          · rw [if_neg c10] at H
            exact absurd H (by simp)
        · rw [if_neg c8] at H
          exact absurd H (by simp)
/-! ### hasplaw03_ArithTypes: function 5 -/
def hasplaw03_ArithTypes.f (k : Nat) (a0 : Int) (l1 : List Int) : Option (Bool) := (hasplaw03_speaks.f).bind fun t186 => (if t186 = true then ((some (([] : List Int) : List Int)).bind fun y187 => (if y187.length + l1.length < 17592186044416 then ((arith_Type.f k a0 (y187 ++ l1)).bind fun bt193 => ((haspref03_Type.f k a0 l1).bind fun bt195 => (if bt193.1 = bt195.1 then (some (bt193.2 == bt195.2)) else (some false)))) else (none))) else (some false))
set_option maxHeartbeats 8000000 in
set_option maxRecDepth 100000 in
theorem hasplaw03_ArithTypes.calls (k : Nat) (a0 : Int) (A1 : Option Addr) (c1 : Nat) (l1 : List Int) (r : Bool) (w : World) (hr1 : Kd.C (Kd.int .i64) w A1 l1.length l1) (hc1 : l1.length ≤ c1) (h : hasplaw03_ArithTypes.f k a0 l1 = some r) :
    Calls Try.prog 5 #[.int .i64 a0, .slice A1 l1.length c1] w fun e w' => e = .returned (.bool r) ∧ Below w.heap.size w w' := by
  have HR1 := Aside0.mk hr1
  have HC1 := Aside0.mk hc1
  clear hr1 hc1
  have HB := Aside0.mk (Below.refl w.heap.size w)
  have H : ((hasplaw03_speaks.f).bind fun t186 => (if t186 = true then ((some (([] : List Int) : List Int)).bind fun y187 => (if y187.length + l1.length < 17592186044416 then ((arith_Type.f k a0 (y187 ++ l1)).bind fun bt193 => ((haspref03_Type.f k a0 l1).bind fun bt195 => (if bt193.1 = bt195.1 then (some (bt193.2 == bt195.2)) else (some false)))) else (none))) else (some false))) = some r := h
  clear h
  replace H := Option.bind_eq_some_iff.mp H
  obtain ⟨t186, A30, H⟩ := H
  replace H : (if t186 = true then ((some (([] : List Int) : List Int)).bind fun y187 => (if y187.length + l1.length < 17592186044416 then ((arith_Type.f k a0 (y187 ++ l1)).bind fun bt193 => ((haspref03_Type.f k a0 l1).bind fun bt195 => (if bt193.1 = bt195.1 then (some (bt193.2 == bt195.2)) else (some false)))) else (none))) else (some false)) = some r := H
  have A3 := Aside0.mk A30
  clear A30
  by_cases c4 : t186 = true
  · subst c4
    have H1 : ((some (([] : List Int) : List Int)).bind fun y187 => (if y187.length + l1.length < 17592186044416 then ((arith_Type.f k a0 (y187 ++ l1)).bind fun bt193 => ((haspref03_Type.f k a0 l1).bind fun bt195 => (if bt193.1 = bt195.1 then (some (bt193.2 == bt195.2)) else (some false)))) else (none))) = some r := by rw [if_pos rfl] at H; exact H
    clear H
    have H := H1
    clear H1
    obtain ⟨y187, hy187⟩ : ∃ y_ : List Int, y_ = (([] : List Int)) := ⟨_, rfl⟩
    replace H : (if y187.length + l1.length < 17592186044416 then ((arith_Type.f k a0 (y187 ++ l1)).bind fun bt193 => ((haspref03_Type.f k a0 l1).bind fun bt195 => (if bt193.1 = bt195.1 then (some (bt193.2 == bt195.2)) else (some false)))) else (none)) = some r := by first | (rw [hy187]; with_reducible exact H) | (have H2_ := (Option.bind_some _ _).symm.trans H; rw [hy187]; with_reducible exact H2_) | (have H2_ := (Option.bind_some _ _).symm.trans H; with_reducible exact H2_) | with_reducible exact H | (rw [hy187]; exact H) | exact H
    have Ny187 := Aside0.mk hy187
    clear hy187
    by_cases c5 : y187.length + l1.length < 17592186044416
    · rw [if_pos c5] at H
      have LMc5 := Aside0.mk c5
      clear c5
      obtain ⟨y190, hy190⟩ : ∃ y_ : List Int, y_ = (y187 ++ l1) := ⟨_, rfl⟩
      replace H : ((arith_Type.f k a0 y190).bind fun bt193 => ((haspref03_Type.f k a0 l1).bind fun bt195 => (if bt193.1 = bt195.1 then (some (bt193.2 == bt195.2)) else (some false)))) = some r := by first | (rw [hy190]; with_reducible exact H) | (have H2_ := (Option.bind_some _ _).symm.trans H; rw [hy190]; with_reducible exact H2_) | (have H2_ := (Option.bind_some _ _).symm.trans H; with_reducible exact H2_) | with_reducible exact H | (rw [hy190]; exact H) | exact H
      have Ny190 := Aside0.mk hy190
      clear hy190
      replace H := Option.bind_eq_some_iff.mp H
      obtain ⟨⟨t193, t194⟩, A60, H⟩ := H
      replace H : ((haspref03_Type.f k a0 l1).bind fun bt195 => (if t193 = bt195.1 then (some (t194 == bt195.2)) else (some false))) = some r := H
      have A6 := Aside0.mk A60
      clear A60
      replace H := Option.bind_eq_some_iff.mp H
      obtain ⟨⟨t195, t196⟩, A70, H⟩ := H
      replace H : (if t193 = t195 then (some (t194 == t196)) else (some false)) = some r := H
      have A7 := Aside0.mk A70
      clear A70
      by_cases c8 : t193 = t195
      · rw [if_pos c8] at H
        have c8b0 : (t193 == t195) = true := beq_iff_eq.mpr c8
        have c8b1 : (t193 != t195) = false := bne_eq_false_iff_eq.mpr c8
        clear c8
        obtain rfl := Option.some.inj H
        go_enter Try.func5, Try.ntmps5
        go_wp2_with (first | ((with_reducible refine gate_callee (f := 9) rfl ?_); refine goesL_ (some 9) rfl rfl Try.func9 (by kernel_rfl) rfl #[] rfl (by (try simp only [List.map_toArray, List.map_cons, List.map_nil]); first | done | rfl | (simp only [List.length_drop, List.length_take]; rfl)) ?_; (with_reducible refine (hasplaw03_speaks.calls  true _ A3.out).mono ?_); rintro e w9 ⟨rfl, hb⟩; refine ⟨_, rfl, ?_⟩; have n0_ := Aside0.mk (below_step (by repeat (first | (with_reducible first | exact HB.out | apply below_alloc | apply pw_below_drewN | apply below_drew1) | exact HB.out)) hb); clear HB; have HB := n0_; clear n0_; (try clear hb); (try clear hb2); (try clear hk); (try clear hi)) | ((with_reducible refine gate_dst (N := 13) rfl ?_); refine Kd.R_lit (Kd.int .i64) _ 3 ?hg (N := 13) ?hd (xs := ([] : List Int)) (inner := []) (ok := fun _ => True) (okp := fun _ => True) ?hr ?hp (fun _ hk => hk) trivial (Below.refl _ _) (Nat.le_refl _) (by simp) ?_; (case hd => rfl); (case hg => rfl); (case hr => first | (go_simp; done) | (go_simp; rfl)); (case hp => exact (Reps.none _ _)); intro v188 w10 ho11 hb hg_ hnew_; clear hg_ hnew_; (first | rw [← Ny187.out] at ho11 | (simp only [Int.reduceToNat] at ho11; rw [← Ny187.out] at ho11)); have n0_ := Aside0.mk (Kd.R_lower ho11 (below_size (by repeat (first | (with_reducible first | exact HB.out | apply below_alloc | apply pw_below_drewN | apply below_drew1) | exact HB.out)))); have n1_ := Aside0.mk (below_step (by repeat (first | (with_reducible first | exact HB.out | apply below_alloc | apply pw_below_drewN | apply below_drew1) | exact HB.out)) hb); clear HB; have HO189 := n0_; have HB := n1_; clear n0_ n1_; clear hb ho11) | ((with_reducible refine gate_builtin (b := .append) (xs := #[.tmp 13, .tmp 14]) rfl ?_); at_builtin; refine Kd.R_append_rows (Kd.int .i64) (w0 := w) w.heap.size rfl (.tmp 13) (.tmp 14) 35 3 (.int .i64 0) 8 rfl Try.underlying35 info3 rfl (by decide) (by omega) v188 y187 l1 _ _ _ (fun _ => True) (fun _ => False) rfl rfl ?aO ?aR (fun _ _ h => h) (fun _ h => h.elim) ?aF ?aB ?aS ?aL ?_; (case aR => repeat (first | exact (Kd.C_below HR1.out HB.out) | (with_reducible refine Kd.C_alloc ?_ _) | (with_reducible refine Kd.C_drewN ?_ _) | (with_reducible refine Kd.C_drew ?_))); (case aB => exact (by repeat (first | (with_reducible first | exact HB.out | apply below_alloc | apply pw_below_drewN | apply below_drew1) | exact HB.out))); (case aF => exact (fun _ _ => trivial)); (case aO => exact (by (with_reducible repeat (first | apply Kd.R_alloc | apply Kd.R_drewN | apply Kd.R_drew)); exact HO189.out)); (case aS => exact (below_size (by repeat (first | (with_reducible first | exact HB.out | apply below_alloc | apply pw_below_drewN | apply below_drew1) | exact HB.out)))); (case aL => have := LMc5.out; omega); intro v191 w12 ho hb hg hat; rw [← Ny190.out] at ho; have n0_ := Aside0.mk (hb); have n1_ := Aside0.mk (ho); clear HB; clear HO189; have HB := n0_; have HO192 := n1_; clear n0_ n1_; clear ho hb hg hat; obtain ⟨Ao13, co13, eo13⟩ := Kd.R_slice HO192.out; subst eo13) | ((with_reducible refine gate_callee (f := 15) rfl ?_); refine goesL_ (some 16) rfl rfl Try.func15 (by kernel_rfl) rfl #[.int .i64 a0, .slice Ao13 y190.length co13] rfl (by (try simp only [List.map_toArray, List.map_cons, List.map_nil]); first | done | rfl | (simp only [List.length_drop, List.length_take]; rfl)) ?_; (with_reducible refine (arith_Type.calls k a0 _ _ y190 t193 t194 _ ?side1 ?side2 A6.out).mono ?_); (case side1 => repeat (first | exact (Kd.R_reads' HO192.out).2.2 | (with_reducible refine Kd.C_alloc ?_ _) | (with_reducible refine Kd.C_drewN ?_ _) | (with_reducible refine Kd.C_drew ?_))); (case side2 => exact (Kd.R_reads' HO192.out).2.1); rintro e w' ⟨rfl, ⟨nd, rfl⟩⟩; refine ⟨_, rfl, ?_⟩) | ((with_reducible refine gate_callee (f := 16) rfl ?_); refine goesL_ (some 22) rfl rfl Try.func16 (by kernel_rfl) rfl #[.int .i64 a0, .slice A1 l1.length c1] rfl (by (try simp only [List.map_toArray, List.map_cons, List.map_nil]); first | done | rfl | (simp only [List.length_drop, List.length_take]; rfl)) ?_; (with_reducible refine (haspref03_Type.calls k a0 _ _ l1 t195 t196 _ ?side1 ?side2 A7.out).mono ?_); (case side1 => repeat (first | exact (Kd.C_below HR1.out (by repeat (first | (with_reducible first | exact HB.out | apply below_alloc | apply pw_below_drewN | apply below_drew1) | exact HB.out))) | (with_reducible refine Kd.C_alloc ?_ _) | (with_reducible refine Kd.C_drewN ?_ _) | (with_reducible refine Kd.C_drew ?_))); (case side2 => exact HC1.out); rintro e w' ⟨rfl, ⟨nd, rfl⟩⟩; refine ⟨_, rfl, ?_⟩))
        go_ret
        exact ⟨by first | rfl | (simp [errW_none, errW_some] <;> rfl) | (simp [*, errW_none, errW_some] <;> rfl), by repeat (first | (with_reducible first | exact HB.out | apply below_alloc | apply pw_below_drewN | apply below_drew1) | exact HB.out)⟩
      · rw [if_neg c8] at H
        have c8b0 : (t193 == t195) = false := beq_eq_false_iff_ne.mpr c8
        have c8b1 : (t193 != t195) = true := bne_iff_ne.mpr c8
        obtain rfl := Option.some.inj H
        go_enter Try.func5, Try.ntmps5
        go_wp2_with (first | ((with_reducible refine gate_callee (f := 9) rfl ?_); refine goesL_ (some 9) rfl rfl Try.func9 (by kernel_rfl) rfl #[] rfl (by (try simp only [List.map_toArray, List.map_cons, List.map_nil]); first | done | rfl | (simp only [List.length_drop, List.length_take]; rfl)) ?_; (with_reducible refine (hasplaw03_speaks.calls  true _ A3.out).mono ?_); rintro e w14 ⟨rfl, hb⟩; refine ⟨_, rfl, ?_⟩; have n0_ := Aside0.mk (below_step (by repeat (first | (with_reducible first | exact HB.out | apply below_alloc | apply pw_below_drewN | apply below_drew1) | exact HB.out)) hb); clear HB; have HB := n0_; clear n0_; (try clear hb); (try clear hb2); (try clear hk); (try clear hi)) | ((with_reducible refine gate_dst (N := 13) rfl ?_); refine Kd.R_lit (Kd.int .i64) _ 3 ?hg (N := 13) ?hd (xs := ([] : List Int)) (inner := []) (ok := fun _ => True) (okp := fun _ => True) ?hr ?hp (fun _ hk => hk) trivial (Below.refl _ _) (Nat.le_refl _) (by simp) ?_; (case hd => rfl); (case hg => rfl); (case hr => first | (go_simp; done) | (go_simp; rfl)); (case hp => exact (Reps.none _ _)); intro v188 w15 ho16 hb hg_ hnew_; clear hg_ hnew_; (first | rw [← Ny187.out] at ho16 | (simp only [Int.reduceToNat] at ho16; rw [← Ny187.out] at ho16)); have n0_ := Aside0.mk (Kd.R_lower ho16 (below_size (by repeat (first | (with_reducible first | exact HB.out | apply below_alloc | apply pw_below_drewN | apply below_drew1) | exact HB.out)))); have n1_ := Aside0.mk (below_step (by repeat (first | (with_reducible first | exact HB.out | apply below_alloc | apply pw_below_drewN | apply below_drew1) | exact HB.out)) hb); clear HB; have HO189 := n0_; have HB := n1_; clear n0_ n1_; clear hb ho16) | ((with_reducible refine gate_builtin (b := .append) (xs := #[.tmp 13, .tmp 14]) rfl ?_); at_builtin; refine Kd.R_append_rows (Kd.int .i64) (w0 := w) w.heap.size rfl (.tmp 13) (.tmp 14) 35 3 (.int .i64 0) 8 rfl Try.underlying35 info3 rfl (by decide) (by omega) v188 y187 l1 _ _ _ (fun _ => True) (fun _ => False) rfl rfl ?aO ?aR (fun _ _ h => h) (fun _ h => h.elim) ?aF ?aB ?aS ?aL ?_; (case aR => repeat (first | exact (Kd.C_below HR1.out HB.out) | (with_reducible refine Kd.C_alloc ?_ _) | (with_reducible refine Kd.C_drewN ?_ _) | (with_reducible refine Kd.C_drew ?_))); (case aB => exact (by repeat (first | (with_reducible first | exact HB.out | apply below_alloc | apply pw_below_drewN | apply below_drew1) | exact HB.out))); (case aF => exact (fun _ _ => trivial)); (case aO => exact (by (with_reducible repeat (first | apply Kd.R_alloc | apply Kd.R_drewN | apply Kd.R_drew)); exact HO189.out)); (case aS => exact (below_size (by repeat (first | (with_reducible first | exact HB.out | apply below_alloc | apply pw_below_drewN | apply below_drew1) | exact HB.out)))); (case aL => have := LMc5.out; omega); intro v191 w17 ho hb hg hat; rw [← Ny190.out] at ho; have n0_ := Aside0.mk (hb); have n1_ := Aside0.mk (ho); clear HB; clear HO189; have HB := n0_; have HO192 := n1_; clear n0_ n1_; clear ho hb hg hat; obtain ⟨Ao18, co18, eo18⟩ := Kd.R_slice HO192.out; subst eo18) | ((with_reducible refine gate_callee (f := 15) rfl ?_); refine goesL_ (some 16) rfl rfl Try.func15 (by kernel_rfl) rfl #[.int .i64 a0, .slice Ao18 y190.length co18] rfl (by (try simp only [List.map_toArray, List.map_cons, List.map_nil]); first | done | rfl | (simp only [List.length_drop, List.length_take]; rfl)) ?_; (with_reducible refine (arith_Type.calls k a0 _ _ y190 t193 t194 _ ?side1 ?side2 A6.out).mono ?_); (case side1 => repeat (first | exact (Kd.R_reads' HO192.out).2.2 | (with_reducible refine Kd.C_alloc ?_ _) | (with_reducible refine Kd.C_drewN ?_ _) | (with_reducible refine Kd.C_drew ?_))); (case side2 => exact (Kd.R_reads' HO192.out).2.1); rintro e w' ⟨rfl, ⟨nd, rfl⟩⟩; refine ⟨_, rfl, ?_⟩) | ((with_reducible refine gate_callee (f := 16) rfl ?_); refine goesL_ (some 22) rfl rfl Try.func16 (by kernel_rfl) rfl #[.int .i64 a0, .slice A1 l1.length c1] rfl (by (try simp only [List.map_toArray, List.map_cons, List.map_nil]); first | done | rfl | (simp only [List.length_drop, List.length_take]; rfl)) ?_; (with_reducible refine (haspref03_Type.calls k a0 _ _ l1 t195 t196 _ ?side1 ?side2 A7.out).mono ?_); (case side1 => repeat (first | exact (Kd.C_below HR1.out (by repeat (first | (with_reducible first | exact HB.out | apply below_alloc | apply pw_below_drewN | apply below_drew1) | exact HB.out))) | (with_reducible refine Kd.C_alloc ?_ _) | (with_reducible refine Kd.C_drewN ?_ _) | (with_reducible refine Kd.C_drew ?_))); (case side2 => exact HC1.out); rintro e w' ⟨rfl, ⟨nd, rfl⟩⟩; refine ⟨_, rfl, ?_⟩))
        go_ret
        exact ⟨by first | rfl | (simp [errW_none, errW_some] <;> rfl) | (simp [*, errW_none, errW_some] <;> rfl), by repeat (first | (with_reducible first | exact HB.out | apply below_alloc | apply pw_below_drewN | apply below_drew1) | exact HB.out)⟩
    · rw [if_neg c5] at H
      exact absurd H (by simp)
  · replace c4 := Bool.eq_false_iff.mpr c4
    subst c4
    have H1 : (some false) = some r := by rw [if_neg (show ¬ (false = true) by decide)] at H; exact H
    clear H
    have H := H1
    clear H1
    obtain rfl := Option.some.inj H
    go_enter Try.func5, Try.ntmps5
    go_wp2_with (first | ((with_reducible refine gate_callee (f := 9) rfl ?_); refine goesL_ (some 9) rfl rfl Try.func9 (by kernel_rfl) rfl #[] rfl (by (try simp only [List.map_toArray, List.map_cons, List.map_nil]); first | done | rfl | (simp only [List.length_drop, List.length_take]; rfl)) ?_; (with_reducible refine (hasplaw03_speaks.calls  false _ A3.out).mono ?_); rintro e w19 ⟨rfl, hb⟩; refine ⟨_, rfl, ?_⟩; have n0_ := Aside0.mk (below_step (by repeat (first | (with_reducible first | exact HB.out | apply below_alloc | apply pw_below_drewN | apply below_drew1) | exact HB.out)) hb); clear HB; have HB := n0_; clear n0_; (try clear hb); (try clear hb2); (try clear hk); (try clear hi)))
    go_ret
    exact ⟨by first | rfl | (simp [errW_none, errW_some] <;> rfl) | (simp [*, errW_none, errW_some] <;> rfl), by repeat (first | (with_reducible first | exact HB.out | apply below_alloc | apply pw_below_drewN | apply below_drew1) | exact HB.out)⟩
/-- THE ONE PURE STATEMENT of hasplaw03_ArithTypes: yours. -/
def hasplaw03_ArithTypes.Pure : Prop := ∀ (a0 : Int) (l1 : List Int), (Lit.int .i64 a0).wf = true → l1.length ≤ maxLen → l1.length * 8 ≤ 140737488351232 → (∀ x ∈ l1, (Lit.int .i64 x).wf = true) → ∃ k, hasplaw03_ArithTypes.f k a0 l1 = some true
theorem hasplaw03_ArithTypes.walk (P : hasplaw03_ArithTypes.Pure) (a0 : Int) (a1 : Option Addr) (len1 cap1 : Nat) (z1 : List Int) (w : World) (w0 : (Lit.int .i64 a0).wf = true) (w1 : (a1 = none ∧ len1 = 0 ∧ cap1 = 0 ∧ z1 = []) ∨ ∃ x, a1 = some x ∧ len1 ≤ cap1 ∧ cap1 ≤ maxLen ∧ z1.length = cap1 ∧ (∀ i, i < z1.length → w.cell? (x.add i) = some (.int .i64 (z1.getD i 0))) ∧ ∀ n ∈ z1, (Lit.int .i64 n).wf = true) (y1 : len1 * 8 ≤ 140737488351232) :
    Calls Try.prog 5 #[.int .i64 a0, .slice a1 len1 cap1] w fun e w' => e = .returned (.bool true) ∧ Below w.heap.size w w' := by
  obtain ⟨l1, rfl, hr1, hm1, hw1, hc1⟩ := ReadsInt.ofRowC w1
  obtain ⟨k, h⟩ := P a0 l1 w0 hm1 y1 hw1
  refine (hasplaw03_ArithTypes.calls k a0 _ _ l1 true w (Kd.C_of_reads (d := (0 : Int)) (h1 := fun _ => rfl) hr1) hc1 h).mono ?_
  rintro e w' ⟨rfl, hd⟩
  exact ⟨rfl, hd⟩
end Go.Proofs.Ytbdengnadgofmaa.V
