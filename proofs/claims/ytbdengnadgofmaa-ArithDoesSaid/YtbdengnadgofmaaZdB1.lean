import Derived.Test.YtbdengnadgofmaaProg
import Derived.Test.YtbdengnadgofmaaZdFl
import Derived.Test.YtbdengnadgofmaaZdWWords
import Derived.WalkKit
import Derived.RowKit3
import Derived.KernelRfl
import Derived.Below
import Derived.Lib.Hide
import Derived.WalkLawsBesides
/- What the functions of package real answer: the walks. -/
namespace Go.Proofs.Ytbdengnadgofmaa
open Go.RowKit Go.Proofs.YtbdengnadgofmaaW.PrintWords Fl
theorem ret_int {k : IntKind} {a b : Int} (h : a = b) : Ending.returned (.int k a) = .returned (.int k b) := by rw [h]
theorem ret_bool {a b : Bool} (h : a = b) : Ending.returned (.bool a) = .returned (.bool b) := by rw [h]
theorem frombits (n : Int) (w : World) : (callFunc 53 #[.int .u64 n]).run Try.prog w = .ok (.value (.float .f64 n.toNat)) w := by kernel_rfl
theorem tobits (n : Nat) (w : World) : (callFunc 55 #[.float .f64 n]).run Try.prog w = .ok (.value (.int .u64 n)) w := by kernel_rfl
theorem of_calls (a : Int) (w : World) :
    Calls Try.prog 47 #[.int .i64 a] w fun e w' => e = .returned (.float .f64 (ub a)) ∧ w = w' := by
  have h1 := frombits
  go_enter Try.func47, Try.ntmps47
  go_wp2
  go_ret
  exact ⟨rfl, rfl⟩
theorem isnan_calls (x : Nat) (w : World) :
    Calls Try.prog 54 #[.float .f64 x] w fun e w' => e = .returned (.bool (nanB x)) ∧ w = w' := by
  go_enter Try.func54, Try.ntmps54
  go_wp2
  go_ret
  exact ⟨ret_bool (order_self x), rfl⟩
theorem bits_calls (x : Nat) (w : World) :
    Calls Try.prog 48 #[.float .f64 x] w fun e w' => e = .returned (.int .i64 (canonN x)) ∧ w = w' := by
  have h1 := tobits
  cases hx : nanB x
  all_goals
    have H := Lib.hid hx; clear hx
    go_enter Try.func48, Try.ntmps48
    go_wp2_with (first | (go_at_call 54; (with_reducible refine (isnan_calls x _).mono ?_); rintro e w' ⟨rfl, rfl⟩; rw [H.out]))
    go_ret
    exact ⟨ret_int (by simp [canonN, H.out, theNaN]), rfl⟩
end Go.Proofs.Ytbdengnadgofmaa
