import Derived.Test.YtbdengnadgofmaaZdVx0
namespace Go.Proofs.Ytbdengnadgofmaa.V
open Go.RowKit Go.Proofs.YtbdengnadgofmaaW.PrintWords Go.Proofs.YtbdengnadgofmaaW.PrintLast Go.Proofs.YtbdengnadgofmaaW.PrintMore
attribute [local go_sem] max2_int min2_int max_two min_two max_three min_three max_four min_four   -- for this text's walks alone
set_option linter.unusedVariables false
set_option linter.unusedSimpArgs false
/-! ### haspref03_point: function 29 -/
def haspref03_point.f (a0 : Int) (a1 : Int) (a2 : Int) : Option (Int) := if a0 = 7 then ((haspref01_Add.f a1 a2).bind fun t140 => (some t140)) else (if a0 = 8 then ((haspref01_Sub.f a1 a2).bind fun t141 => (some t141)) else (if a0 = 9 then ((haspref01_Mul.f a1 a2).bind fun t142 => (some t142)) else (if a0 = 10 then ((haspref01_Div.f a1 a2).bind fun t143 => (some t143)) else ((haspref01_Neg.f a1).bind fun t144 => (some t144)))))
set_option maxHeartbeats 8000000 in
set_option maxRecDepth 100000 in
theorem haspref03_point.calls (a0 : Int) (a1 : Int) (a2 : Int) (r : Int) (w : World) (h : haspref03_point.f a0 a1 a2 = some r) :
    Calls Try.prog 29 #[.int .i64 a0, .int .i64 a1, .int .i64 a2] w fun e w' => e = .returned (.int .i64 r) ∧ Drawn0 w w' := by
  have H : (if a0 = 7 then ((haspref01_Add.f a1 a2).bind fun t140 => (some t140)) else (if a0 = 8 then ((haspref01_Sub.f a1 a2).bind fun t141 => (some t141)) else (if a0 = 9 then ((haspref01_Mul.f a1 a2).bind fun t142 => (some t142)) else (if a0 = 10 then ((haspref01_Div.f a1 a2).bind fun t143 => (some t143)) else ((haspref01_Neg.f a1).bind fun t144 => (some t144)))))) = some r := h
  clear h
  by_cases c4 : a0 = 7
  · rw [if_pos c4] at H
    have c4b0 : (a0 == 7) = true := beq_iff_eq.mpr c4
    have c4b1 : (a0 != 7) = false := bne_eq_false_iff_eq.mpr c4
    clear c4
    replace H := Option.bind_eq_some_iff.mp H
    obtain ⟨t140, A50, H⟩ := H
    replace H : (some t140) = some r := H
    have A5 := Aside0.mk A50
    clear A50
    obtain rfl := Option.some.inj H
    go_enter Try.func29, Try.ntmps29
    go_wp2_with (first | ((with_reducible refine gate_callee (f := 41) rfl ?_); refine goesL_ (some 12) rfl rfl Try.func41 (by kernel_rfl) rfl #[.int .i64 a1, .int .i64 a2] rfl (by (try simp only [List.map_toArray, List.map_cons, List.map_nil]); first | done | rfl | (simp only [List.length_drop, List.length_take]; rfl)) ?_; (with_reducible refine (haspref01_Add.calls a1 a2 t140 _ A5.out).mono ?_); rintro e w' ⟨rfl, ⟨nd, rfl⟩⟩; refine ⟨_, rfl, ?_⟩))
    go_ret
    exact ⟨by first | rfl | (simp; done) | (simp [*]; done) | (simp; exact isEmpty_bne _) | (simp [*]; exact isEmpty_bne _), by repeat (first | exact Drawn0.refl _ | apply Drawn0.step)⟩
  · rw [if_neg c4] at H
    have c4b0 : (a0 == 7) = false := beq_eq_false_iff_ne.mpr c4
    have c4b1 : (a0 != 7) = true := bne_iff_ne.mpr c4
    by_cases c6 : a0 = 8
    · rw [if_pos c6] at H
      have c6b0 : (a0 == 8) = true := beq_iff_eq.mpr c6
      have c6b1 : (a0 != 8) = false := bne_eq_false_iff_eq.mpr c6
      clear c6
      replace H := Option.bind_eq_some_iff.mp H
      obtain ⟨t141, A70, H⟩ := H
      replace H : (some t141) = some r := H
      have A7 := Aside0.mk A70
      clear A70
      obtain rfl := Option.some.inj H
      go_enter Try.func29, Try.ntmps29
      go_wp2_with (first | ((with_reducible refine gate_callee (f := 42) rfl ?_); refine goesL_ (some 17) rfl rfl Try.func42 (by kernel_rfl) rfl #[.int .i64 a1, .int .i64 a2] rfl (by (try simp only [List.map_toArray, List.map_cons, List.map_nil]); first | done | rfl | (simp only [List.length_drop, List.length_take]; rfl)) ?_; (with_reducible refine (haspref01_Sub.calls a1 a2 t141 _ A7.out).mono ?_); rintro e w' ⟨rfl, ⟨nd, rfl⟩⟩; refine ⟨_, rfl, ?_⟩))
      go_ret
      exact ⟨by first | rfl | (simp; done) | (simp [*]; done) | (simp; exact isEmpty_bne _) | (simp [*]; exact isEmpty_bne _), by repeat (first | exact Drawn0.refl _ | apply Drawn0.step)⟩
    · rw [if_neg c6] at H
      have c6b0 : (a0 == 8) = false := beq_eq_false_iff_ne.mpr c6
      have c6b1 : (a0 != 8) = true := bne_iff_ne.mpr c6
      by_cases c8 : a0 = 9
      · rw [if_pos c8] at H
        have c8b0 : (a0 == 9) = true := beq_iff_eq.mpr c8
        have c8b1 : (a0 != 9) = false := bne_eq_false_iff_eq.mpr c8
        clear c8
        replace H := Option.bind_eq_some_iff.mp H
        obtain ⟨t142, A90, H⟩ := H
        replace H : (some t142) = some r := H
        have A9 := Aside0.mk A90
        clear A90
        obtain rfl := Option.some.inj H
        go_enter Try.func29, Try.ntmps29
        go_wp2_with (first | ((with_reducible refine gate_callee (f := 43) rfl ?_); refine goesL_ (some 22) rfl rfl Try.func43 (by kernel_rfl) rfl #[.int .i64 a1, .int .i64 a2] rfl (by (try simp only [List.map_toArray, List.map_cons, List.map_nil]); first | done | rfl | (simp only [List.length_drop, List.length_take]; rfl)) ?_; (with_reducible refine (haspref01_Mul.calls a1 a2 t142 _ A9.out).mono ?_); rintro e w' ⟨rfl, ⟨nd, rfl⟩⟩; refine ⟨_, rfl, ?_⟩))
        go_ret
        exact ⟨by first | rfl | (simp; done) | (simp [*]; done) | (simp; exact isEmpty_bne _) | (simp [*]; exact isEmpty_bne _), by repeat (first | exact Drawn0.refl _ | apply Drawn0.step)⟩
      · rw [if_neg c8] at H
        have c8b0 : (a0 == 9) = false := beq_eq_false_iff_ne.mpr c8
        have c8b1 : (a0 != 9) = true := bne_iff_ne.mpr c8
        by_cases c10 : a0 = 10
        · rw [if_pos c10] at H
          have c10b0 : (a0 == 10) = true := beq_iff_eq.mpr c10
          have c10b1 : (a0 != 10) = false := bne_eq_false_iff_eq.mpr c10
          clear c10
          replace H := Option.bind_eq_some_iff.mp H
          obtain ⟨t143, A110, H⟩ := H
          replace H : (some t143) = some r := H
          have A11 := Aside0.mk A110
          clear A110
          obtain rfl := Option.some.inj H
          go_enter Try.func29, Try.ntmps29
          go_wp2_with (first | ((with_reducible refine gate_callee (f := 44) rfl ?_); refine goesL_ (some 27) rfl rfl Try.func44 (by kernel_rfl) rfl #[.int .i64 a1, .int .i64 a2] rfl (by (try simp only [List.map_toArray, List.map_cons, List.map_nil]); first | done | rfl | (simp only [List.length_drop, List.length_take]; rfl)) ?_; (with_reducible refine (haspref01_Div.calls a1 a2 t143 _ A11.out).mono ?_); rintro e w' ⟨rfl, ⟨nd, rfl⟩⟩; refine ⟨_, rfl, ?_⟩))
          go_ret
          exact ⟨by first | rfl | (simp; done) | (simp [*]; done) | (simp; exact isEmpty_bne _) | (simp [*]; exact isEmpty_bne _), by repeat (first | exact Drawn0.refl _ | apply Drawn0.step)⟩
        · rw [if_neg c10] at H
          have c10b0 : (a0 == 10) = false := beq_eq_false_iff_ne.mpr c10
          have c10b1 : (a0 != 10) = true := bne_iff_ne.mpr c10
          replace H := Option.bind_eq_some_iff.mp H
          obtain ⟨t144, A120, H⟩ := H
          replace H : (some t144) = some r := H
          have A12 := Aside0.mk A120
          clear A120
          obtain rfl := Option.some.inj H
          go_enter Try.func29, Try.ntmps29
          go_wp2_with (first | ((with_reducible refine gate_callee (f := 45) rfl ?_); refine goesL_ (some 29) rfl rfl Try.func45 (by kernel_rfl) rfl #[.int .i64 a1] rfl (by (try simp only [List.map_toArray, List.map_cons, List.map_nil]); first | done | rfl | (simp only [List.length_drop, List.length_take]; rfl)) ?_; (with_reducible refine (haspref01_Neg.calls a1 t144 _ A12.out).mono ?_); rintro e w' ⟨rfl, ⟨nd, rfl⟩⟩; refine ⟨_, rfl, ?_⟩))
          go_ret
          exact ⟨by first | rfl | (simp; done) | (simp [*]; done) | (simp; exact isEmpty_bne _) | (simp [*]; exact isEmpty_bne _), by repeat (first | exact Drawn0.refl _ | apply Drawn0.step)⟩
end Go.Proofs.Ytbdengnadgofmaa.V
