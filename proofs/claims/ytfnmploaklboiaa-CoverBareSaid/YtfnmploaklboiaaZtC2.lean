import Derived.Test.YtfnmploaklboiaaZtC1
import Derived.Deep.LoopGhost
import Derived.Deep.QuietTactic
import Derived.BigQuiet
/- cover: the small functions: perhaps, the closures on one instruction. -/
namespace Go.Proofs.Ytfnmploaklboiaa
open Go.RowKit Go.Proofs.YtfnmploaklboiaaW.PrintWords A
set_option linter.unusedSimpArgs false
set_option linter.unusedVariables false
/-- An instruction's cells. -/
abbrev iv (x : S33) (A7 A8 A11 A13 : Option Addr) (c7 c8 c11 c13 : Nat) : Array Value := #[.int .i64 x.f0, .int .i64 x.f1, .int .i64 x.f2, .int .i64 x.f3, .int .i64 x.f4, .string x.f5, .int .i64 x.f6, .slice A7 x.f7.length c7, .slice A8 x.f8.length c8, .bool x.f9, .bool x.f10, .slice A11 x.f11.length c11, .int .i64 x.f12, .slice A13 x.f13.length c13]
def IVals (x : S33) (vs : Array Value) : Prop := ∃ A7 A8 A11 A13 c7 c8 c11 c13, vs = iv x A7 A8 A11 A13 c7 c8 c11 c13
theorem perhaps_calls (m : Int) (w : World) : Calls Try.prog 18 #[.int .i64 m] w fun e w' => e = .returned (.bool (isKnown m)) ∧ w = w' := by
  by_cases h : m = 0
  · subst h
    go_enter Try.func18, Try.ntmps18
    go_wp2
    go_ret
    exact ⟨rfl, rfl⟩
  · have hb : (m == 0) = false := by simpa using h
    have hk : isMode m = isKnown m := by unfold isMode isKnown; rw [Bool.eq_iff_iff]; simp; omega
    have Hk := Lib.hid hk
    clear hk h
    go_enter Try.func18, Try.ntmps18
    go_wp2_with (first | (go_at_call 32; (with_reducible refine (right_calls _ _).mono ?_); rintro e w' ⟨rfl, rfl⟩))
    go_ret
    exact ⟨ret_bool Hk.out, rfl⟩
theorem ch1_calls (x : S33) (vs : Array Value) (hv : IVals x vs) (w : World) : Calls Try.prog 25 #[.agg vs] w fun e w' => e = .returned (.bool (x.f0 == 9)) ∧ Below w.heap.size w w' := by
  obtain ⟨A7, A8, A11, A13, c7, c8, c11, c13, rfl⟩ := hv
  go_enter Try.func25, Try.ntmps25
  go_wp2
  go_ret
  exact ⟨rfl, (Below.refl _ _).alloc (Nat.le_refl _) _⟩
theorem ch2_calls (x : S33) (vs : Array Value) (hv : IVals x vs) (w : World) : Calls Try.prog 27 #[.agg vs] w fun e w' => e = .returned (.bool (x.f0 == 6 || x.f0 == 7)) ∧ Below w.heap.size w w' := by
  obtain ⟨A7, A8, A11, A13, c7, c8, c11, c13, rfl⟩ := hv
  cases h : (x.f0 == 6)
  · go_enter Try.func27, Try.ntmps27
    go_wp2
    go_ret
    exact ⟨rfl, (Below.refl _ _).alloc (Nat.le_refl _) _⟩
  · go_enter Try.func27, Try.ntmps27
    go_wp2
    go_ret
    exact ⟨rfl, (Below.refl _ _).alloc (Nat.le_refl _) _⟩
theorem ch3_calls (x : S33) (vs : Array Value) (hv : IVals x vs) (w : World) : Calls Try.prog 28 #[.agg vs] w fun e w' => e = .returned (.bool (x.f1 != 0 || cov x.f4 5)) ∧ Below w.heap.size w w' := by
  obtain ⟨A7, A8, A11, A13, c7, c8, c11, c13, rfl⟩ := hv
  cases h : (x.f1 != 0)
  · go_enter Try.func28, Try.ntmps28
    go_wp2_with (first | (go_at_call 20; (with_reducible refine (covers_calls _ _ _).mono ?_); rintro e w' ⟨rfl, rfl⟩))
    go_ret
    exact ⟨rfl, (Below.refl _ _).alloc (Nat.le_refl _) _⟩
  · go_enter Try.func28, Try.ntmps28
    go_wp2_with (first | (go_at_call 20; (with_reducible refine (covers_calls _ _ _).mono ?_); rintro e w' ⟨rfl, rfl⟩))
    go_ret
    exact ⟨rfl, (Below.refl _ _).alloc (Nat.le_refl _) _⟩
end Go.Proofs.Ytfnmploaklboiaa
