import Derived.Test.YtbdengnadgofmaaZdB4
import Derived.Test.YtbdengnadgofmaaZdFl3
/- What ToInt of package real answers: the walk. -/
namespace Go.Proofs.Ytbdengnadgofmaa
open Go.RowKit Go.Proofs.YtbdengnadgofmaaW.PrintWords Fl
/-- The whole part of a real, and the error's number. -/
def inI (x : Nat) : Bool := !nanB x && (decide (rung x < 4890909195324358656) || (negB x && decide (rung x = 4890909195324358656)))
def wholeI (x : Nat) : Int := if negB x then -(flr (rung x) : Int) else flr (rung x)
theorem trunc_calls (x : Nat) (w : World) (hr : nanB x = false) :
    Calls Try.prog 46 #[.float .f64 x] w fun e w' => e = .returned (.float .f64 (truncW x)) ∧ w = w' := by
  have h1 := arch_run x hr
  clear hr
  go_enter Try.func46, Try.ntmps46
  go_wp2
  go_ret
  exact ⟨rfl, rfl⟩
theorem trunc_nan (x : Nat) (w : World) (hr : nanB x = true) :
    Calls Try.prog 46 #[.float .f64 x] w fun e w' => ∃ z, nanB z = true ∧ e = .returned (.float .f64 z) ∧ Drawn0 w w' := by
  obtain ⟨z, k, hz, h1⟩ := arch_nan x hr w
  have HZ := Lib.hid hz
  clear hr hz
  go_enter Try.func46, Try.ntmps46
  go_wp2
  go_ret
  exact ⟨z, HZ.out, rfl, ⟨⟨k, rfl⟩⟩⟩
theorem truncW_eq (x : Nat) (h64 : x < 18446744073709551616) (h : nanB x = false) : truncW x = Ieee.double.word (negB x) (if rung x = Ir then Ir else flrRung (rung x)) := by
  have hn : ¬ Ir < rung x := by simpa [nanB, rung] using h
  unfold truncW
  by_cases c : rung x = Ir
  · rw [if_pos c]
    have : Ieee.double.read x = .infinity (negB x) := by
      rw [read_eq, if_neg (by rw [c]; decide), if_neg (by rw [c]; decide), if_pos c]
    rw [this]
    show Ieee.double.word (negB x) Ieee.double.infRung = _
    rw [ir_eq]
  · rw [if_neg c]
    have hw := word_self x h64
    have := trunc_word (negB x) (rung x) (by omega)
    rw [hw] at this
    exact this
theorem order_big (x : Nat) (hx : nanB x = false) : (FloatKind.f64.format.order x 14114281232179134464 == some .gt || FloatKind.f64.format.order x 14114281232179134464 == some .eq) = decide (-4890909195324358656 ≤ plcR x) := by
  rw [order_plc x _ hx (by decide +kernel)]
  have e : plcR 14114281232179134464 = -4890909195324358656 := by decide +kernel
  rw [e]
  rcases Int.lt_trichotomy (plcR x) (-4890909195324358656) with h | h | h
  · rw [cmp_lt h]; simp; omega
  · rw [cmp_eq h]; simp; omega
  · rw [cmp_gt h]; simp; omega
theorem order_small (x : Nat) (hx : nanB x = false) : (FloatKind.f64.format.order x 4890909195324358656 == some .lt) = decide (plcR x < 4890909195324358656) := by
  rw [order_plc x _ hx (by decide +kernel)]
  have e : plcR 4890909195324358656 = 4890909195324358656 := by decide +kernel
  rw [e]
  rcases Int.lt_trichotomy (plcR x) (4890909195324358656) with h | h | h
  · rw [cmp_lt h]; simp; omega
  · rw [cmp_eq h]; simp; omega
  · rw [cmp_gt h]; simp; omega
theorem order_nan (x y : Nat) (hx : nanB x = true) (o : Ordering) : (FloatKind.f64.format.order x y == some o) = false := by
  rw [order_nan_left x y hx]; rfl
/-- What ToInt meets: the word of the whole part, whether it is within the bounds, and what it is as a whole number. -/
theorem trunc_facts (x : Nat) (h64 : x < 18446744073709551616) (h : nanB x = false) :
    nanB (truncW x) = false ∧ (decide (-4890909195324358656 ≤ plcR (truncW x)) && decide (plcR (truncW x) < 4890909195324358656)) = inI x ∧
    (inI x = true → floatToIntVal .f64 (truncW x) .i64 = some (wholeI x)) := by
  have hn : ¬ Ir < rung x := by simpa [nanB, rung] using h
  have eI : Ir = 9218868437227405312 := rfl
  have eS : Sw = 9223372036854775808 := rfl
  have hle := flrRung_le (rung x)
  rw [truncW_eq x h64 h]
  have hq : (if rung x = Ir then Ir else flrRung (rung x)) ≤ Ir := by split <;> omega
  have hw := neg_word (negB x) (if rung x = Ir then Ir else flrRung (rung x)) (by omega)
  refine ⟨?_, ?_, ?_⟩
  · show decide (Ir < rung _) = false
    rw [hw.2.1]; simp; exact hq
  · unfold plcR
    rw [hw.1, hw.2.1]
    unfold inI
    rw [h]
    by_cases c : rung x = Ir
    · rw [if_pos c, c]
      cases negB x <;> decide
    · rw [if_neg c]
      by_cases g : rung x < 4890909195324358656
      · cases negB x
        · simp [g]; omega
        · simp [g]; omega
      · have := flrRung_great (rung x) (by omega)
        rw [this]
        cases negB x
        · simp [g]; omega
        · simp only [if_true, decide_eq_false g, Bool.not_false, Bool.true_and, Bool.false_or]
          rw [Bool.eq_iff_iff]; simp; omega
  · intro hin
    unfold inI at hin
    rw [h] at hin
    simp only [Bool.not_false, Bool.true_and, Bool.or_eq_true, decide_eq_true_eq, Bool.and_eq_true] at hin
    have c : ¬ rung x = Ir := by omega
    rw [if_neg c]
    unfold floatToIntVal
    have ht := toInt_word (negB x) (flrRung (rung x)) (by omega)
    have e : FloatKind.f64.decode (Ieee.double.word (negB x) (flrRung (rung x))) = Ieee.double.read (Ieee.double.word (negB x) (flrRung (rung x))) := rfl
    rw [e, ht, flr_idem']
    have hmin : IntKind.i64.min = -9223372036854775808 := by decide
    have hmax : IntKind.i64.max = 9223372036854775807 := by decide
    simp only [hmin, hmax]
    unfold wholeI
    rcases hin with g | ⟨hs, g⟩
    · have := flr_lt (rung x) g
      rw [if_pos]
      split <;> omega
    · rw [hs, g, flr_top]
      simp
theorem toint_calls (a : Int) (w : World) :
    Calls Try.prog 32 #[.int .i64 a] w fun e w' => e = .returned (.tuple #[.int .i64 (if inI (ub a) then wholeI (ub a) else 0), .int .i64 (if inI (ub a) then 0 else 10)]) ∧ Drawn0 w w' := by
  cases hx : nanB (ub a)
  · obtain ⟨t1, t2, t3⟩ := trunc_facts (ub a) (ub_lt a) hx
    have T1 := Lib.hid t1
    have HX := Lib.hid hx
    have o1 := order_big (truncW (ub a)) t1
    have o2 := order_small (truncW (ub a)) t1
    cases hin : inI (ub a)
    · rw [hin] at t2
      have HIN := Lib.hid hin
      clear t3
      cases q1 : decide (-4890909195324358656 ≤ plcR (truncW (ub a)))
      · rw [q1] at o1
        clear hx t1 t2 q1 o2 hin
        go_enter Try.func32, Try.ntmps32
        go_wp2_with fail
        refine (of_calls a _).mono ?_
        rintro e w1 ⟨rfl, rfl⟩
        go_wp2_with fail
        refine (trunc_calls _ _ HX.out).mono ?_
        rintro e w1 ⟨rfl, rfl⟩
        go_wp2
        go_ret2
        exact ⟨rfl, Drawn0.refl _⟩
      · rw [q1] at o1
        rw [q1, Bool.true_and] at t2
        rw [t2] at o2
        clear hx t1 t2 q1 hin
        go_enter Try.func32, Try.ntmps32
        go_wp2_with fail
        refine (of_calls a _).mono ?_
        rintro e w1 ⟨rfl, rfl⟩
        go_wp2_with fail
        refine (trunc_calls _ _ HX.out).mono ?_
        rintro e w1 ⟨rfl, rfl⟩
        go_wp2
        go_ret2
        exact ⟨rfl, Drawn0.refl _⟩
    · rw [hin] at t2
      have HIN := Lib.hid hin
      rw [Bool.and_eq_true] at t2
      rw [t2.1] at o1
      rw [t2.2] at o2
      have hc := fun w => run_convert_float_int (P := Try.prog) w 64 2 .f64 .i64 (truncW (ub a)) (wholeI (ub a)) (by kernel_rfl) (by kernel_rfl) (t3 hin)
      clear hx t1 t2 t3 hin
      go_enter Try.func32, Try.ntmps32
      go_wp2_with fail
      refine (of_calls a _).mono ?_
      rintro e w1 ⟨rfl, rfl⟩
      go_wp2_with fail
      refine (trunc_calls _ _ HX.out).mono ?_
      rintro e w1 ⟨rfl, rfl⟩
      go_wp2
      go_ret2
      exact ⟨rfl, Drawn0.refl _⟩
  · have HX := Lib.hid hx
    have hin : inI (ub a) = false := by unfold inI; rw [hx]; rfl
    have HIN := Lib.hid hin
    rw [hin]
    clear hx hin
    go_enter Try.func32, Try.ntmps32
    go_wp2_with fail
    refine (of_calls a _).mono ?_
    rintro e w1 ⟨rfl, rfl⟩
    go_wp2_with fail
    refine (trunc_nan _ _ HX.out).mono ?_
    rintro e w1 ⟨z, hz, rfl, ⟨nd, rfl⟩⟩
    have g1 := order_nan z 14114281232179134464 hz .gt
    have g2 := order_nan z 14114281232179134464 hz .eq
    clear hz
    go_wp2
    go_ret2
    exact ⟨rfl, by first | exact Drawn0.refl _ | exact (Drawn0.refl _).step _⟩
end Go.Proofs.Ytbdengnadgofmaa
