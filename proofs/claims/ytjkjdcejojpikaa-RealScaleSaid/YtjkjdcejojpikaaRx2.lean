-- Printed by the kit's print.py for functions that this session names.
import Derived.Test.YtjkjdcejojpikaaRx0
import Derived.Test.YtjkjdcejojpikaaRx1
namespace Go.Proofs.Ytjkjdcejojpikaa.R
open Go.RowKit Go.Proofs.YtjkjdcejojpikaaW.PrintWords Go.Proofs.YtjkjdcejojpikaaW.PrintLast Go.Proofs.YtjkjdcejojpikaaW.PrintMore
attribute [local go_sem] max2_int min2_int max_two min_two max_three min_three max_four min_four   -- for this text's walks alone
set_option linter.unusedVariables false
set_option linter.unusedSimpArgs false

/-! ### haspref01_OfDecimal: function 31 -/
mutual
def haspref01_OfDecimal.j0 : Nat → Int → Int → Bool → Option (Int × Int)
  | 0, _, _, _ => none
  | k + 1, x0, x1, x24 => if x24 = true then (some (0, 11)) else (if x0 = 0 then (some (0, 0)) else ((haspref01_Power.f k x1).bind fun t115 => (haspref01_OfDecimal.l0 k (IntKind.u64.wrap (t115)) (IntKind.u64.wrap (x0)) 0)))
def haspref01_OfDecimal.l0 : Nat → Int → Int → Int → Option (Int × Int)
  | 0, _, _, _ => none
  | k + 1, x6, x7, x8 => if x7 ≥ (IntKind.u64.wrap (x6 * 2)) then (haspref01_OfDecimal.l0 k (IntKind.u64.wrap (x6 * 2)) x7 (wrap64 (x8 + 1))) else (haspref01_OfDecimal.l1 k x6 x7 x8)
def haspref01_OfDecimal.l1 : Nat → Int → Int → Int → Option (Int × Int)
  | 0, _, _, _ => none
  | k + 1, x6, x7, x8 => if x7 < x6 then (haspref01_OfDecimal.l1 k x6 (IntKind.u64.wrap (x7 * 2)) (wrap64 (x8 - 1))) else (haspref01_OfDecimal.l2 k x6 x7 x8 0 0)
def haspref01_OfDecimal.l2 : Nat → Int → Int → Int → Int → Int → Option (Int × Int)
  | 0, _, _, _, _, _ => none
  | k + 1, x6, x7, x8, x9, x10 => if x10 < 53 then (if x7 ≥ x6 then (haspref01_OfDecimal.l2 k x6 (IntKind.u64.wrap ((IntKind.u64.wrap (x7 - x6)) * 2)) x8 (IntKind.u64.wrap ((IntKind.u64.wrap (x9 * 2)) + 1)) (wrap64 (x10 + 1))) else (haspref01_OfDecimal.l2 k x6 (IntKind.u64.wrap (x7 * 2)) x8 (IntKind.u64.wrap (x9 * 2)) (wrap64 (x10 + 1)))) else (if x7 > x6 then (some (wrap64 (IntKind.u64.wrap ((IntKind.u64.wrap ((IntKind.u64.wrap (wrap64 (x8 + 1022))) * 4503599627370496)) + (IntKind.u64.wrap (x9 + 1)))), 0)) else (if x7 = x6 then (if (Go.bits .and .u64 x9 1) = 1 then (some (wrap64 (IntKind.u64.wrap ((IntKind.u64.wrap ((IntKind.u64.wrap (wrap64 (x8 + 1022))) * 4503599627370496)) + (IntKind.u64.wrap (x9 + 1)))), 0)) else (some (wrap64 (IntKind.u64.wrap ((IntKind.u64.wrap ((IntKind.u64.wrap (wrap64 (x8 + 1022))) * 4503599627370496)) + x9)), 0))) else (some (wrap64 (IntKind.u64.wrap ((IntKind.u64.wrap ((IntKind.u64.wrap (wrap64 (x8 + 1022))) * 4503599627370496)) + x9)), 0))))
end
def haspref01_OfDecimal.f (k : Nat) (a0 : Int) (a1 : Int) : Option (Int × Int) := if a0 < 0 then (haspref01_OfDecimal.j0 k a0 a1 true) else (if a0 > 999999999999999 then (haspref01_OfDecimal.j0 k a0 a1 true) else (if a1 < 0 then (haspref01_OfDecimal.j0 k a0 a1 true) else (haspref01_OfDecimal.j0 k a0 a1 (decide (a1 > 15)))))
theorem haspref01_OfDecimal.mono_l : ∀ k, (∀ y0 y1 y2, LeO (haspref01_OfDecimal.j0 k y0 y1 y2) (haspref01_OfDecimal.j0 (k + 1) y0 y1 y2)) ∧ (∀ y0 y1 y2, LeO (haspref01_OfDecimal.l0 k y0 y1 y2) (haspref01_OfDecimal.l0 (k + 1) y0 y1 y2)) ∧ (∀ y0 y1 y2, LeO (haspref01_OfDecimal.l1 k y0 y1 y2) (haspref01_OfDecimal.l1 (k + 1) y0 y1 y2)) ∧ (∀ y0 y1 y2 y3 y4, LeO (haspref01_OfDecimal.l2 k y0 y1 y2 y3 y4) (haspref01_OfDecimal.l2 (k + 1) y0 y1 y2 y3 y4))
  | 0 => ⟨fun _ _ _ r h => by simp [haspref01_OfDecimal.j0] at h, fun _ _ _ r h => by simp [haspref01_OfDecimal.l0] at h, fun _ _ _ r h => by simp [haspref01_OfDecimal.l1] at h, fun _ _ _ _ _ r h => by simp [haspref01_OfDecimal.l2] at h⟩
  | k + 1 => by
    obtain ⟨ih0, ih1, ih2, ih3⟩ := haspref01_OfDecimal.mono_l k
    refine ⟨?_, ?_, ?_, ?_⟩
    · intro y0 y1 y2
      unfold haspref01_OfDecimal.j0
      repeat' first
      | (with_reducible exact ih0 _ _ _)
      | (with_reducible exact ih1 _ _ _)
      | (with_reducible exact ih2 _ _ _)
      | (with_reducible exact ih3 _ _ _ _ _)
      | (with_reducible exact haspref01_Power.mono _ _)
      | (with_reducible exact LeO.refl _)
      | (with_reducible exact LeO.none _)
      | (with_reducible refine LeO.ite ?_ ?_)
      | (with_reducible refine LeO.bind ?_ (fun _ => ?_))
      | exact ih0 _ _ _
      | exact ih1 _ _ _
      | exact ih2 _ _ _
      | exact ih3 _ _ _ _ _
      | exact haspref01_Power.mono _ _
      | exact LeO.none _
      | refine LeO.ite ?_ ?_
      | refine LeO.bind ?_ (fun _ => ?_)
    · intro y0 y1 y2
      unfold haspref01_OfDecimal.l0
      repeat' first
      | (with_reducible exact ih0 _ _ _)
      | (with_reducible exact ih1 _ _ _)
      | (with_reducible exact ih2 _ _ _)
      | (with_reducible exact ih3 _ _ _ _ _)
      | (with_reducible exact haspref01_Power.mono _ _)
      | (with_reducible exact LeO.refl _)
      | (with_reducible exact LeO.none _)
      | (with_reducible refine LeO.ite ?_ ?_)
      | (with_reducible refine LeO.bind ?_ (fun _ => ?_))
      | exact ih0 _ _ _
      | exact ih1 _ _ _
      | exact ih2 _ _ _
      | exact ih3 _ _ _ _ _
      | exact haspref01_Power.mono _ _
      | exact LeO.none _
      | refine LeO.ite ?_ ?_
      | refine LeO.bind ?_ (fun _ => ?_)
    · intro y0 y1 y2
      unfold haspref01_OfDecimal.l1
      repeat' first
      | (with_reducible exact ih0 _ _ _)
      | (with_reducible exact ih1 _ _ _)
      | (with_reducible exact ih2 _ _ _)
      | (with_reducible exact ih3 _ _ _ _ _)
      | (with_reducible exact haspref01_Power.mono _ _)
      | (with_reducible exact LeO.refl _)
      | (with_reducible exact LeO.none _)
      | (with_reducible refine LeO.ite ?_ ?_)
      | (with_reducible refine LeO.bind ?_ (fun _ => ?_))
      | exact ih0 _ _ _
      | exact ih1 _ _ _
      | exact ih2 _ _ _
      | exact ih3 _ _ _ _ _
      | exact haspref01_Power.mono _ _
      | exact LeO.none _
      | refine LeO.ite ?_ ?_
      | refine LeO.bind ?_ (fun _ => ?_)
    · intro y0 y1 y2 y3 y4
      unfold haspref01_OfDecimal.l2
      repeat' first
      | (with_reducible exact ih0 _ _ _)
      | (with_reducible exact ih1 _ _ _)
      | (with_reducible exact ih2 _ _ _)
      | (with_reducible exact ih3 _ _ _ _ _)
      | (with_reducible exact haspref01_Power.mono _ _)
      | (with_reducible exact LeO.refl _)
      | (with_reducible exact LeO.none _)
      | (with_reducible refine LeO.ite ?_ ?_)
      | (with_reducible refine LeO.bind ?_ (fun _ => ?_))
      | exact ih0 _ _ _
      | exact ih1 _ _ _
      | exact ih2 _ _ _
      | exact ih3 _ _ _ _ _
      | exact haspref01_Power.mono _ _
      | exact LeO.none _
      | refine LeO.ite ?_ ?_
      | refine LeO.bind ?_ (fun _ => ?_)
theorem haspref01_OfDecimal.mono : ∀ a0 a1 k, LeO (haspref01_OfDecimal.f k a0 a1) (haspref01_OfDecimal.f (k + 1) a0 a1) := by
  intro a0 a1 k
  obtain ⟨ih0, ih1, ih2, ih3⟩ := haspref01_OfDecimal.mono_l k
  unfold haspref01_OfDecimal.f
  repeat' first
      | (with_reducible exact ih0 _ _ _)
      | (with_reducible exact ih1 _ _ _)
      | (with_reducible exact ih2 _ _ _)
      | (with_reducible exact ih3 _ _ _ _ _)
      | (with_reducible exact haspref01_Power.mono _ _)
      | (with_reducible exact LeO.refl _)
      | (with_reducible exact LeO.none _)
      | (with_reducible refine LeO.ite ?_ ?_)
      | (with_reducible refine LeO.bind ?_ (fun _ => ?_))
      | exact ih0 _ _ _
      | exact ih1 _ _ _
      | exact ih2 _ _ _
      | exact ih3 _ _ _ _ _
      | exact haspref01_Power.mono _ _
      | exact LeO.none _
      | refine LeO.ite ?_ ?_
      | refine LeO.bind ?_ (fun _ => ?_)
set_option maxHeartbeats 8000000 in
set_option maxRecDepth 100000 in
theorem haspref01_OfDecimal.calls (k : Nat) (a0 : Int) (a1 : Int) (r1 : Int) (r2 : Int) (w : World) (h : haspref01_OfDecimal.f k a0 a1 = some (r1, r2)) :
    Calls Try.prog 31 #[.int .i64 a0, .int .i64 a1] w fun e w' => e = .returned (.tuple #[.int .i64 r1, .int .i64 r2]) ∧ Drawn0 w w' := by
  have H : (if a0 < 0 then (haspref01_OfDecimal.j0 k a0 a1 true) else (if a0 > 999999999999999 then (haspref01_OfDecimal.j0 k a0 a1 true) else (if a1 < 0 then (haspref01_OfDecimal.j0 k a0 a1 true) else (haspref01_OfDecimal.j0 k a0 a1 (decide (a1 > 15)))))) = some (r1, r2) := h
  clear h
  have HC3 := Aside0.mk H
  clear H
  go_enter Try.func31, Try.ntmps31
  go_upto_region 1 with (fail)
  go_cut [24] (fun v24 wc => ∃ (kq : Nat) (x24_2 : Bool), v24 = .bool x24_2 ∧ Aside0 (haspref01_OfDecimal.j0 kq a0 a1 x24_2 = some (r1, r2)) ∧ Aside0 (kq ≤ k) ∧ Drawn0 w wc)
  case first =>
    have H := HC3.out
    clear HC3
    by_cases c4 : a0 < 0
    · rw [if_pos c4] at H
      have c4b0 : decide (a0 < 0) = true := decide_eq_true c4
      clear c4
      (first | rw [c4b0] | (simp only [i64_w, i32_w]; rw [c4b0]) | skip)
      have H' := Aside0.mk H
      clear H
      go_wp2
      go_meet
      case rel => exact ⟨_, (true), (by first | rfl | (simp; done) | (simp [*]; done)), H', ⟨by first | omega | exact Nat.le_refl _⟩, by repeat (first | exact Drawn0.refl _ | apply Drawn0.step)⟩
    · rw [if_neg c4] at H
      have c4b0 : decide (a0 < 0) = false := decide_eq_false c4
      clear c4
      (first | rw [c4b0] | (simp only [i64_w, i32_w]; rw [c4b0]) | skip)
      by_cases c5 : a0 > 999999999999999
      · rw [if_pos c5] at H
        have c5b0 : decide (999999999999999 < a0) = true := decide_eq_true c5
        clear c5
        have H' := Aside0.mk H
        clear H
        go_wp2
        go_meet
        case rel => exact ⟨_, (true), (by first | rfl | (simp; done) | (simp [*]; done)), H', ⟨by first | omega | exact Nat.le_refl _⟩, by repeat (first | exact Drawn0.refl _ | apply Drawn0.step)⟩
      · rw [if_neg c5] at H
        have c5b0 : decide (999999999999999 < a0) = false := decide_eq_false c5
        clear c5
        by_cases c6 : a1 < 0
        · rw [if_pos c6] at H
          have c6b0 : decide (a1 < 0) = true := decide_eq_true c6
          clear c6
          have H' := Aside0.mk H
          clear H
          go_wp2
          go_meet
          case rel => exact ⟨_, (true), (by first | rfl | (simp; done) | (simp [*]; done)), H', ⟨by first | omega | exact Nat.le_refl _⟩, by repeat (first | exact Drawn0.refl _ | apply Drawn0.step)⟩
        · rw [if_neg c6] at H
          have c6b0 : decide (a1 < 0) = false := decide_eq_false c6
          clear c6
          have H' := Aside0.mk H
          clear H
          go_wp2
          go_meet
          case rel => exact ⟨_, (decide (a1 > 15)), (by first | rfl | (simp; done) | (simp [*]; done)), H', ⟨by first | omega | exact Nat.le_refl _⟩, by repeat (first | exact Drawn0.refl _ | apply Drawn0.step)⟩
  case rest =>
    clear HC3
    try clear p2
    try clear c3
    try clear c4
    try clear c4b0
    try clear c5
    try clear c5b0
    try clear c6
    try clear c6b0
    obtain ⟨kq, x24_2, rfl, HA, HJ2, ⟨mc2, rfl⟩⟩ := hcut
    cases kq with
    | zero => exact absurd HA.out (by simp [haspref01_OfDecimal.j0])
    | succ kj2 =>
      have H := HA.out
      clear HA
      simp only [haspref01_OfDecimal.j0] at H
      by_cases c7 : x24_2 = true
      · subst c7
        have H1 : (some (0, 11)) = some (r1, r2) := by rw [if_pos rfl] at H; exact H
        clear H
        have H := H1
        clear H1
        simp only [Option.some.injEq, Prod.mk.injEq] at H
        obtain ⟨rfl, rfl⟩ := H
        go_wp2
        go_ret2
        exact ⟨by first | rfl | (simp; done) | (simp [*]; done), by repeat (first | exact Drawn0.refl _ | apply Drawn0.step)⟩
      · replace c7 := Bool.eq_false_iff.mpr c7
        subst c7
        have H1 : (if a0 = 0 then (some (0, 0)) else ((haspref01_Power.f kj2 a1).bind fun t115 => (haspref01_OfDecimal.l0 kj2 (IntKind.u64.wrap (t115)) (IntKind.u64.wrap (a0)) 0))) = some (r1, r2) := by rw [if_neg (show ¬ (false = true) by decide)] at H; exact H
        clear H
        have H := H1
        clear H1
        by_cases c8 : a0 = 0
        · rw [if_pos c8] at H
          have c8b0 : (a0 == 0) = true := beq_iff_eq.mpr c8
          have c8b1 : (a0 != 0) = false := bne_eq_false_iff_eq.mpr c8
          clear c8
          simp only [Option.some.injEq, Prod.mk.injEq] at H
          obtain ⟨rfl, rfl⟩ := H
          go_wp2
          go_ret2
          exact ⟨by first | rfl | (simp; done) | (simp [*]; done), by repeat (first | exact Drawn0.refl _ | apply Drawn0.step)⟩
        · rw [if_neg c8] at H
          have c8b0 : (a0 == 0) = false := beq_eq_false_iff_ne.mpr c8
          have c8b1 : (a0 != 0) = true := bne_iff_ne.mpr c8
          replace H := Option.bind_eq_some_iff.mp H
          obtain ⟨t115, A90, H⟩ := H
          replace H : (haspref01_OfDecimal.l0 kj2 (IntKind.u64.wrap (t115)) (IntKind.u64.wrap (a0)) 0) = some (r1, r2) := H
          have A9 := Aside0.mk A90
          clear A90
          have H' := Aside0.mk H
          clear H
          go_wp2_with (first | ((with_reducible refine gate_callee (f := 32) rfl ?_); refine goesL_ (some 28) rfl rfl Try.func32 (by kernel_rfl) rfl #[.int .i64 a1] rfl (by (try simp only [List.map_toArray, List.map_cons, List.map_nil]); first | done | rfl | (simp only [List.length_drop, List.length_take]; rfl)) ?_; (with_reducible refine (haspref01_Power.calls kj2 a1 t115 _ A9.out).mono ?_); rintro e w' ⟨rfl, ⟨nd, rfl⟩⟩; refine ⟨_, rfl, ?_⟩))
          go_loopg [6, 8] kj2 (fun kq v6 v8 w' => ∃ (x6_2 : Int) (x8_2 : Int), v6 = .int .u64 x6_2 ∧ v8 = .int .i64 x8_2 ∧ Aside0 (haspref01_OfDecimal.l0 kq x6_2 (IntKind.u64.wrap (a0)) x8_2 = some (r1, r2)) ∧ Aside0 (kq ≤ kj2) ∧ Drawn0 w w')
          case atStart => exact ⟨(IntKind.u64.wrap (t115)), (0), (by first | rfl | (simp; done) | (simp [*]; done)), (by first | rfl | (simp; done) | (simp [*]; done)), H', ⟨Nat.le_refl _⟩, by repeat (first | exact Drawn0.refl _ | apply Drawn0.step)⟩
          case round =>
            clear H'
            try clear c2
            try clear p2
            try clear c3
            try clear c4
            try clear c4b0
            try clear c5
            try clear c5b0
            try clear c6
            try clear c6b0
            try clear c7
            try clear c8
            try clear c8b0
            try clear c8b1
            try clear p2
            obtain ⟨x6_2, x8_2, rfl, rfl, HA, HK2, ⟨m2, rfl⟩⟩ := hrel
            cases gk with
            | zero => exact absurd HA.out (by simp [haspref01_OfDecimal.l0])
            | succ k2 =>
              have H := HA.out
              clear HA
              simp only [haspref01_OfDecimal.l0] at H
              by_cases c10 : (IntKind.u64.wrap (a0)) ≥ (IntKind.u64.wrap (x6_2 * 2))
              · rw [if_pos c10] at H
                have c10b0 : decide ((IntKind.u64.wrap (x6_2 * 2)) ≤ (IntKind.u64.wrap (a0))) = true := decide_eq_true c10
                clear c10
                have H' := Aside0.mk H
                clear H
                go_wp2
                go_roundg k2
                case measure => have := HJ2.out; have := HK2.out; omega
                case rel => exact ⟨(IntKind.u64.wrap (x6_2 * 2)), (wrap64 (x8_2 + 1)), (by first | rfl | (simp; done) | (simp [*]; done)), (by first | rfl | (simp; done) | (simp [*]; done)), H', ⟨by have := HJ2.out; have := HK2.out; omega⟩, by repeat (first | exact Drawn0.refl _ | apply Drawn0.step)⟩
              · rw [if_neg c10] at H
                have c10b0 : decide ((IntKind.u64.wrap (x6_2 * 2)) ≤ (IntKind.u64.wrap (a0))) = false := decide_eq_false c10
                clear c10
                have H' := Aside0.mk H
                clear H
                go_wp2
                go_loopg [7, 8] k2 (fun kq v7 v8 w' => ∃ (x7_3 : Int) (x8_3 : Int), v7 = .int .u64 x7_3 ∧ v8 = .int .i64 x8_3 ∧ Aside0 (haspref01_OfDecimal.l1 kq x6_2 x7_3 x8_3 = some (r1, r2)) ∧ Aside0 (kq ≤ k2) ∧ Drawn0 w w')
                case atStart => exact ⟨((IntKind.u64.wrap (a0))), (x8_2), (by first | rfl | (simp; done) | (simp [*]; done)), (by first | rfl | (simp; done) | (simp [*]; done)), H', ⟨Nat.le_refl _⟩, by repeat (first | exact Drawn0.refl _ | apply Drawn0.step)⟩
                case round =>
                  clear H'
                  try clear c1
                  try clear c2
                  try clear p2
                  try clear c3
                  try clear c4
                  try clear c4b0
                  try clear c5
                  try clear c5b0
                  try clear c6
                  try clear c6b0
                  try clear p6
                  try clear c7
                  try clear c8
                  try clear c8b0
                  try clear c8b1
                  try clear c10
                  try clear c10b0
                  try clear p2
                  obtain ⟨x7_3, x8_3, rfl, rfl, HA, HK3, ⟨m3, rfl⟩⟩ := hrel
                  cases gk with
                  | zero => exact absurd HA.out (by simp [haspref01_OfDecimal.l1])
                  | succ k3 =>
                    have H := HA.out
                    clear HA
                    simp only [haspref01_OfDecimal.l1] at H
                    by_cases c11 : x7_3 < x6_2
                    · rw [if_pos c11] at H
                      have c11b0 : decide (x7_3 < x6_2) = true := decide_eq_true c11
                      clear c11
                      have H' := Aside0.mk H
                      clear H
                      go_wp2
                      go_roundg k3
                      case measure => have := HJ2.out; have := HK2.out; have := HK3.out; omega
                      case rel => exact ⟨(IntKind.u64.wrap (x7_3 * 2)), (wrap64 (x8_3 - 1)), (by first | rfl | (simp; done) | (simp [*]; done)), (by first | rfl | (simp; done) | (simp [*]; done)), H', ⟨by have := HJ2.out; have := HK2.out; have := HK3.out; omega⟩, by repeat (first | exact Drawn0.refl _ | apply Drawn0.step)⟩
                    · rw [if_neg c11] at H
                      have c11b0 : decide (x7_3 < x6_2) = false := decide_eq_false c11
                      clear c11
                      have H' := Aside0.mk H
                      clear H
                      go_wp2
                      go_loopg [7, 9, 10] k3 (fun kq v7 v9 v10 w' => ∃ (x7_4 : Int) (x9_4 : Int) (x10_4 : Int), v7 = .int .u64 x7_4 ∧ v9 = .int .u64 x9_4 ∧ v10 = .int .i64 x10_4 ∧ Aside0 (haspref01_OfDecimal.l2 kq x6_2 x7_4 x8_3 x9_4 x10_4 = some (r1, r2)) ∧ Aside0 (kq ≤ k3) ∧ Drawn0 w w')
                      case atStart => exact ⟨(x7_3), (0), (0), (by first | rfl | (simp; done) | (simp [*]; done)), (by first | rfl | (simp; done) | (simp [*]; done)), (by first | rfl | (simp; done) | (simp [*]; done)), H', ⟨Nat.le_refl _⟩, by repeat (first | exact Drawn0.refl _ | apply Drawn0.step)⟩
                      case round =>
                        clear H'
                        try clear c1
                        try clear c2
                        try clear p2
                        try clear c3
                        try clear c4
                        try clear c4b0
                        try clear c5
                        try clear c5b0
                        try clear c6
                        try clear c6b0
                        try clear p6
                        try clear c7
                        try clear c8
                        try clear c8b0
                        try clear c8b1
                        try clear c10
                        try clear c10b0
                        try clear c11
                        try clear c11b0
                        try clear p2
                        try clear p6
                        obtain ⟨x7_4, x9_4, x10_4, rfl, rfl, rfl, HA, HK4, ⟨m4, rfl⟩⟩ := hrel
                        cases gk with
                        | zero => exact absurd HA.out (by simp [haspref01_OfDecimal.l2])
                        | succ k4 =>
                          have H := HA.out
                          clear HA
                          simp only [haspref01_OfDecimal.l2] at H
                          by_cases c12 : x10_4 < 53
                          · rw [if_pos c12] at H
                            have c12b0 : decide (x10_4 < 53) = true := decide_eq_true c12
                            clear c12
                            by_cases c13 : x7_4 ≥ x6_2
                            · rw [if_pos c13] at H
                              have c13b0 : decide (x6_2 ≤ x7_4) = true := decide_eq_true c13
                              clear c13
                              have H' := Aside0.mk H
                              clear H
                              go_wp2
                              go_roundg k4
                              case measure => have := HJ2.out; have := HK2.out; have := HK3.out; have := HK4.out; omega
                              case rel => exact ⟨(IntKind.u64.wrap ((IntKind.u64.wrap (x7_4 - x6_2)) * 2)), (IntKind.u64.wrap ((IntKind.u64.wrap (x9_4 * 2)) + 1)), (wrap64 (x10_4 + 1)), (by first | rfl | (simp; done) | (simp [*]; done)), (by first | rfl | (simp; done) | (simp [*]; done)), (by first | rfl | (simp; done) | (simp [*]; done)), H', ⟨by have := HJ2.out; have := HK2.out; have := HK3.out; have := HK4.out; omega⟩, by repeat (first | exact Drawn0.refl _ | apply Drawn0.step)⟩
                            · rw [if_neg c13] at H
                              have c13b0 : decide (x6_2 ≤ x7_4) = false := decide_eq_false c13
                              clear c13
                              have H' := Aside0.mk H
                              clear H
                              go_wp2
                              go_roundg k4
                              case measure => have := HJ2.out; have := HK2.out; have := HK3.out; have := HK4.out; omega
                              case rel => exact ⟨(IntKind.u64.wrap (x7_4 * 2)), (IntKind.u64.wrap (x9_4 * 2)), (wrap64 (x10_4 + 1)), (by first | rfl | (simp; done) | (simp [*]; done)), (by first | rfl | (simp; done) | (simp [*]; done)), (by first | rfl | (simp; done) | (simp [*]; done)), H', ⟨by have := HJ2.out; have := HK2.out; have := HK3.out; have := HK4.out; omega⟩, by repeat (first | exact Drawn0.refl _ | apply Drawn0.step)⟩
                          · rw [if_neg c12] at H
                            have c12b0 : decide (x10_4 < 53) = false := decide_eq_false c12
                            clear c12
                            by_cases c14 : x7_4 > x6_2
                            · rw [if_pos c14] at H
                              have c14b0 : decide (x6_2 < x7_4) = true := decide_eq_true c14
                              clear c14
                              simp only [Option.some.injEq, Prod.mk.injEq] at H
                              obtain ⟨rfl, rfl⟩ := H
                              go_wp2
                              go_ret2
                              exact ⟨by first | rfl | (simp; done) | (simp [*]; done), by repeat (first | exact Drawn0.refl _ | apply Drawn0.step)⟩
                            · rw [if_neg c14] at H
                              have c14b0 : decide (x6_2 < x7_4) = false := decide_eq_false c14
                              clear c14
                              by_cases c15 : x7_4 = x6_2
                              · rw [if_pos c15] at H
                                have c15b0 : (x7_4 == x6_2) = true := beq_iff_eq.mpr c15
                                have c15b1 : (x7_4 != x6_2) = false := bne_eq_false_iff_eq.mpr c15
                                clear c15
                                by_cases c16 : (Go.bits .and .u64 x9_4 1) = 1
                                · rw [if_pos c16] at H
                                  have c16b0 : ((Go.bits .and .u64 x9_4 1) == 1) = true := beq_iff_eq.mpr c16
                                  have c16b1 : ((Go.bits .and .u64 x9_4 1) != 1) = false := bne_eq_false_iff_eq.mpr c16
                                  clear c16
                                  simp only [Option.some.injEq, Prod.mk.injEq] at H
                                  obtain ⟨rfl, rfl⟩ := H
                                  go_wp2
                                  go_ret2
                                  exact ⟨by first | rfl | (simp; done) | (simp [*]; done), by repeat (first | exact Drawn0.refl _ | apply Drawn0.step)⟩
                                · rw [if_neg c16] at H
                                  have c16b0 : ((Go.bits .and .u64 x9_4 1) == 1) = false := beq_eq_false_iff_ne.mpr c16
                                  have c16b1 : ((Go.bits .and .u64 x9_4 1) != 1) = true := bne_iff_ne.mpr c16
                                  simp only [Option.some.injEq, Prod.mk.injEq] at H
                                  obtain ⟨rfl, rfl⟩ := H
                                  go_wp2
                                  go_ret2
                                  exact ⟨by first | rfl | (simp; done) | (simp [*]; done), by repeat (first | exact Drawn0.refl _ | apply Drawn0.step)⟩
                              · rw [if_neg c15] at H
                                have c15b0 : (x7_4 == x6_2) = false := beq_eq_false_iff_ne.mpr c15
                                have c15b1 : (x7_4 != x6_2) = true := bne_iff_ne.mpr c15
                                simp only [Option.some.injEq, Prod.mk.injEq] at H
                                obtain ⟨rfl, rfl⟩ := H
                                go_wp2
                                go_ret2
                                exact ⟨by first | rfl | (simp; done) | (simp [*]; done), by repeat (first | exact Drawn0.refl _ | apply Drawn0.step)⟩

end Go.Proofs.Ytjkjdcejojpikaa.R
