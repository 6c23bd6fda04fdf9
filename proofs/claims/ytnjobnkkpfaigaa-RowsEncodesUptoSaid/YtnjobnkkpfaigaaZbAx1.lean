import Derived.Test.YtnjobnkkpfaigaaZbAx0
namespace Go.Proofs.Ytnjobnkkpfaigaa.A
open Go.RowKit Go.Proofs.YtnjobnkkpfaigaaW.PrintWords Go.Proofs.YtnjobnkkpfaigaaW.PrintLast Go.Proofs.YtnjobnkkpfaigaaW.PrintMore
attribute [local go_sem] max2_int min2_int max_two min_two max_three min_three max_four min_four   -- for this text's walks alone
set_option linter.unusedVariables false
set_option linter.unusedSimpArgs false
/-! ### haspref06_bit: function 25 -/
def haspref06_bit.f (l0 : List Int) (a1 : Int) : Option (Bool) := if 0 ≤ (wrap64 (Int.tdiv a1 8)) then (if (wrap64 (Int.tdiv a1 8)) < (l0.length : Int) then (if 0 ≤ (IntKind.u64.wrap (Int.tmod a1 8)) then (some ((Int.tmod (shr .i64 (wrap64 (rd l0 (wrap64 (Int.tdiv a1 8)))) (IntKind.u64.wrap (Int.tmod a1 8))) 2) == 1)) else (none)) else (none)) else (none)
/-! ### haspref01_Parts: function 33 -/
def haspref01_Parts.f (a0 : Int) : Option (Int × Int × Int) := some (wrap64 ((IntKind.u64.wrap (a0)) / 9223372036854775808), wrap64 (Go.bits .and .u64 ((IntKind.u64.wrap (a0)) / 4503599627370496) 2047), wrap64 (Go.bits .and .u64 (IntKind.u64.wrap (a0)) 4503599627370495))
set_option maxHeartbeats 8000000 in
set_option maxRecDepth 100000 in
theorem haspref01_Parts.calls (a0 : Int) (r1 : Int) (r2 : Int) (r3 : Int) (w : World) (h : haspref01_Parts.f a0 = some (r1, r2, r3)) :
    Calls Try.prog 33 #[.int .i64 a0] w fun e w' => e = .returned (.tuple #[.int .i64 r1, .int .i64 r2, .int .i64 r3]) ∧ Drawn0 w w' := by
  have H : (some (wrap64 ((IntKind.u64.wrap (a0)) / 9223372036854775808), wrap64 (Go.bits .and .u64 ((IntKind.u64.wrap (a0)) / 4503599627370496) 2047), wrap64 (Go.bits .and .u64 (IntKind.u64.wrap (a0)) 4503599627370495))) = some (r1, r2, r3) := h
  clear h
  simp only [Option.some.injEq, Prod.mk.injEq] at H
  obtain ⟨rfl, rfl, rfl⟩ := H
  go_enter Try.func33, Try.ntmps33
  go_wp2
  go_ret3
  exact ⟨by first | rfl | (simp; done) | (simp [*]; done), by repeat (first | exact Drawn0.refl _ | apply Drawn0.step)⟩
/-! ### haspref01_IsNaN: function 28 -/
def haspref01_IsNaN.f (a0 : Int) : Option (Bool) := (haspref01_Parts.f a0).bind fun bt102 => (if bt102.2.1 = 2047 then (some (bt102.2.2 != 0)) else (some false))
set_option maxHeartbeats 8000000 in
set_option maxRecDepth 100000 in
theorem haspref01_IsNaN.calls (a0 : Int) (r : Bool) (w : World) (h : haspref01_IsNaN.f a0 = some r) :
    Calls Try.prog 28 #[.int .i64 a0] w fun e w' => e = .returned (.bool r) ∧ Drawn0 w w' := by
  have H : ((haspref01_Parts.f a0).bind fun bt102 => (if bt102.2.1 = 2047 then (some (bt102.2.2 != 0)) else (some false))) = some r := h
  clear h
  replace H := Option.bind_eq_some_iff.mp H
  obtain ⟨⟨t102, t103, t104⟩, A20, H⟩ := H
  replace H : (if t103 = 2047 then (some (t104 != 0)) else (some false)) = some r := H
  have A2 := Aside0.mk A20
  clear A20
  by_cases c3 : t103 = 2047
  · rw [if_pos c3] at H
    have c3b0 : (t103 == 2047) = true := beq_iff_eq.mpr c3
    have c3b1 : (t103 != 2047) = false := bne_eq_false_iff_eq.mpr c3
    clear c3
    obtain rfl := Option.some.inj H
    go_enter Try.func28, Try.ntmps28
    go_wp2_with (first | ((with_reducible refine gate_callee (f := 33) rfl ?_); refine goesL_ (some 8) rfl rfl Try.func33 (by kernel_rfl) rfl #[.int .i64 a0] rfl (by (try simp only [List.map_toArray, List.map_cons, List.map_nil]); first | done | rfl | (simp only [List.length_drop, List.length_take]; rfl)) ?_; (with_reducible refine (haspref01_Parts.calls a0 t102 t103 t104 _ A2.out).mono ?_); rintro e w' ⟨rfl, ⟨nd, rfl⟩⟩; refine ⟨_, rfl, ?_⟩))
    go_ret
    exact ⟨by first | rfl | (simp; done) | (simp [*]; done), by repeat (first | exact Drawn0.refl _ | apply Drawn0.step)⟩
  · rw [if_neg c3] at H
    have c3b0 : (t103 == 2047) = false := beq_eq_false_iff_ne.mpr c3
    have c3b1 : (t103 != 2047) = true := bne_iff_ne.mpr c3
    obtain rfl := Option.some.inj H
    go_enter Try.func28, Try.ntmps28
    go_wp2_with (first | ((with_reducible refine gate_callee (f := 33) rfl ?_); refine goesL_ (some 8) rfl rfl Try.func33 (by kernel_rfl) rfl #[.int .i64 a0] rfl (by (try simp only [List.map_toArray, List.map_cons, List.map_nil]); first | done | rfl | (simp only [List.length_drop, List.length_take]; rfl)) ?_; (with_reducible refine (haspref01_Parts.calls a0 t102 t103 t104 _ A2.out).mono ?_); rintro e w' ⟨rfl, ⟨nd, rfl⟩⟩; refine ⟨_, rfl, ?_⟩))
    go_ret
    exact ⟨by first | rfl | (simp; done) | (simp [*]; done), by repeat (first | exact Drawn0.refl _ | apply Drawn0.step)⟩
/-! ### haspref01_Canon: function 30 -/
def haspref01_Canon.f (a0 : Int) : Option (Int) := (haspref01_IsNaN.f a0).bind fun t105 => (if t105 = true then (some 9221120237041090560) else (some a0))
end Go.Proofs.Ytnjobnkkpfaigaa.A
