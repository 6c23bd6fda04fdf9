/- What the functions of package real answer: the walks. -/
import Derived.Test.YtjbaeibclcifmaaProg
import Derived.Test.YtjbaeibclcifmaaFl
import Derived.Test.YtjbaeibclcifmaaWWords
import Derived.WalkKit
import Derived.RowKit3
import Derived.KernelRfl
import Derived.Below
import Derived.Lib.Hide
import Derived.WalkLawsBesides
namespace Go.Proofs.Ytjbaeibclcifmaa
open Go.RowKit Go.Proofs.YtjbaeibclcifmaaW.PrintWords Fl

theorem ret_int {k : IntKind} {a b : Int} (h : a = b) : Ending.returned (.int k a) = .returned (.int k b) := by rw [h]
theorem ret_bool {a b : Bool} (h : a = b) : Ending.returned (.bool a) = .returned (.bool b) := by rw [h]
theorem ret_float {a b : Nat} (h : a = b) : Ending.returned (.float .f64 a) = .returned (.float .f64 b) := by rw [h]
theorem frombits (n : Int) (w : World) : (callFunc 45 #[.int .u64 n]).run Try.prog w = .ok (.value (.float .f64 n.toNat)) w := by kernel_rfl

theorem of_calls (a : Int) (w : World) :
    Calls Try.prog 38 #[.int .i64 a] w fun e w' => e = .returned (.float .f64 (ub a)) ∧ w = w' := by
  have h1 := frombits
  go_enter Try.func38, Try.ntmps38
  go_wp2
  go_ret
  exact ⟨rfl, rfl⟩
theorem isnan_calls (x : Nat) (w : World) :
    Calls Try.prog 37 #[.float .f64 x] w fun e w' => e = .returned (.bool (nanB x)) ∧ w = w' := by
  go_enter Try.func37, Try.ntmps37
  go_wp2
  go_ret
  exact ⟨ret_bool (order_self x), rfl⟩
theorem cisnan_calls (x : Nat) (w : World) :
    Calls Try.prog 46 #[.float .f64 x] w fun e w' => e = .returned (.bool (nanB x)) ∧ w = w' := by
  go_enter Try.func46, Try.ntmps46
  go_wp2
  go_ret
  exact ⟨ret_bool (order_self x), rfl⟩
theorem canon_calls (a : Int) (w : World) :
    Calls Try.prog 27 #[.int .i64 a] w fun e w' => e = .returned (.int .i64 (canonI a)) ∧ w = w' := by
  cases hx : nanB (ub a)
  all_goals
    have H := Lib.hid hx; clear hx
    go_enter Try.func27, Try.ntmps27
    go_wp2_with (first | (go_at_call 38; (with_reducible refine (of_calls a _).mono ?_); rintro e w' ⟨rfl, rfl⟩) | (go_at_call 37; (with_reducible refine (isnan_calls _ _).mono ?_); rintro e w' ⟨rfl, rfl⟩; rw [H.out]))
    go_ret
    exact ⟨ret_int (by simp [canonI, H.out, theNaN]), rfl⟩
theorem compare_calls (x y : Nat) (w : World) :
    Calls Try.prog 41 #[.float .f64 x, .float .f64 y] w fun e w' => e = .returned (.int .i64 (cmpF x y)) ∧ w = w' := by
  cases hx : nanB x <;> cases hy : nanB y
  · cases hl : ltB x y
    · cases hg : gtB x y
      all_goals
        have HX := Lib.hid hx; clear hx
        have HY := Lib.hid hy; clear hy
        have HL := Lib.hid hl
        have HG := Lib.hid hg
        unfold ltB at hl
        unfold gtB at hg
        go_enter Try.func41, Try.ntmps41
        go_wp2_with (first | (go_at_call 46; (with_reducible refine (cisnan_calls x _).mono ?_); rintro e w' ⟨rfl, rfl⟩; rw [HX.out]) | (go_at_call 46; (with_reducible refine (cisnan_calls y _).mono ?_); rintro e w' ⟨rfl, rfl⟩; rw [HY.out]))
        go_ret
        exact ⟨ret_int (by simp [cmpF, HX.out, HY.out, HL.out, HG.out]), rfl⟩
    · have HX := Lib.hid hx; clear hx
      have HY := Lib.hid hy; clear hy
      have HL := Lib.hid hl
      unfold ltB at hl
      go_enter Try.func41, Try.ntmps41
      go_wp2_with (first | (go_at_call 46; (with_reducible refine (cisnan_calls x _).mono ?_); rintro e w' ⟨rfl, rfl⟩; rw [HX.out]) | (go_at_call 46; (with_reducible refine (cisnan_calls y _).mono ?_); rintro e w' ⟨rfl, rfl⟩; rw [HY.out]))
      go_ret
      exact ⟨ret_int (by simp [cmpF, HX.out, HY.out, HL.out]), rfl⟩
  all_goals
    have HX := Lib.hid hx; clear hx
    have HY := Lib.hid hy; clear hy
    go_enter Try.func41, Try.ntmps41
    go_wp2_with fail
    refine (cisnan_calls x _).mono ?_
    rintro e w' ⟨rfl, rfl⟩
    rw [HX.out]
    go_wp2_with fail
    refine (cisnan_calls y _).mono ?_
    rintro e w' ⟨rfl, rfl⟩
    rw [HY.out]
    go_wp2
    go_ret
    exact ⟨ret_int (by simp [cmpF, HX.out, HY.out]), rfl⟩
theorem order_calls (a b : Int) (w : World) :
    Calls Try.prog 30 #[.int .i64 a, .int .i64 b] w fun e w' => e = .returned (.int .i64 (ordI a b)) ∧ w = w' := by
  have hc : -1 ≤ cmpF (ub a) (ub b) ∧ cmpF (ub a) (ub b) ≤ 1 := by unfold cmpF; (repeat' split) <;> decide
  obtain ⟨hc0, hc1⟩ := hc
  cases hx : nanB (ub a)
  · cases hy : nanB (ub b)
    all_goals
      have HX := Lib.hid hx; clear hx
      have HY := Lib.hid hy; clear hy
      go_enter Try.func30, Try.ntmps30
      go_wp2_with fail
      refine (of_calls a _).mono ?_
      rintro e w' ⟨rfl, rfl⟩
      go_wp2_with fail
      refine (of_calls b _).mono ?_
      rintro e w' ⟨rfl, rfl⟩
      go_wp2_with fail
      refine (isnan_calls _ _).mono ?_
      rintro e w' ⟨rfl, rfl⟩
      rw [HX.out]
      go_wp2_with fail
      refine (isnan_calls _ _).mono ?_
      rintro e w' ⟨rfl, rfl⟩
      rw [HY.out]
      go_wp2_with fail
      refine (compare_calls _ _ _).mono ?_
      rintro e w' ⟨rfl, rfl⟩
      go_wp2
      go_ret
      exact ⟨ret_int (by first | exact cmpF_plain _ _ HX.out HY.out | exact cmpF_nan _ _ (by simp [HX.out, HY.out])), rfl⟩
  · have HX := Lib.hid hx; clear hx
    go_enter Try.func30, Try.ntmps30
    go_wp2_with fail
    refine (of_calls a _).mono ?_
    rintro e w' ⟨rfl, rfl⟩
    go_wp2_with fail
    refine (of_calls b _).mono ?_
    rintro e w' ⟨rfl, rfl⟩
    go_wp2_with fail
    refine (isnan_calls _ _).mono ?_
    rintro e w' ⟨rfl, rfl⟩
    rw [HX.out]
    go_wp2_with fail
    refine (compare_calls _ _ _).mono ?_
    rintro e w' ⟨rfl, rfl⟩
    go_wp2
    go_ret
    exact ⟨ret_int (cmpF_nan _ _ (by simp [HX.out])), rfl⟩
end Go.Proofs.Ytjbaeibclcifmaa
