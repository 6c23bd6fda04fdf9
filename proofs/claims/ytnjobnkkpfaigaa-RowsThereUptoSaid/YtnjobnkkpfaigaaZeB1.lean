import Derived.Test.YtnjobnkkpfaigaaProg
import Derived.Test.YtnjobnkkpfaigaaZeFl
import Derived.Test.YtnjobnkkpfaigaaZeWWords
import Derived.WalkKit
import Derived.RowKit3
import Derived.KernelRfl
import Derived.Below
import Derived.Lib.Hide
import Derived.WalkLawsBesides
/- What the functions of package real answer: the walks. -/
namespace Go.Proofs.Ytnjobnkkpfaigaa
open Go.RowKit Go.Proofs.YtnjobnkkpfaigaaW.PrintWords Fl
theorem ret_int {k : IntKind} {a b : Int} (h : a = b) : Ending.returned (.int k a) = .returned (.int k b) := by rw [h]
theorem ret_bool {a b : Bool} (h : a = b) : Ending.returned (.bool a) = .returned (.bool b) := by rw [h]
theorem frombits (n : Int) (w : World) : (callFunc 35 #[.int .u64 n]).run Try.prog w = .ok (.value (.float .f64 n.toNat)) w := by kernel_rfl
theorem of_calls (a : Int) (w : World) :
    Calls Try.prog 32 #[.int .i64 a] w fun e w' => e = .returned (.float .f64 (ub a)) ∧ w = w' := by
  have h1 := frombits
  go_enter Try.func32, Try.ntmps32
  go_wp2
  go_ret
  exact ⟨rfl, rfl⟩
theorem isnan_calls (x : Nat) (w : World) :
    Calls Try.prog 31 #[.float .f64 x] w fun e w' => e = .returned (.bool (nanB x)) ∧ w = w' := by
  go_enter Try.func31, Try.ntmps31
  go_wp2
  go_ret
  exact ⟨ret_bool (order_self x), rfl⟩
theorem canon_calls (a : Int) (w : World) :
    Calls Try.prog 27 #[.int .i64 a] w fun e w' => e = .returned (.int .i64 (canonI a)) ∧ w = w' := by
  cases hx : nanB (ub a)
  all_goals
    have H := Lib.hid hx; clear hx
    go_enter Try.func27, Try.ntmps27
    go_wp2_with (first | (go_at_call 32; (with_reducible refine (of_calls a _).mono ?_); rintro e w' ⟨rfl, rfl⟩) | (go_at_call 31; (with_reducible refine (isnan_calls _ _).mono ?_); rintro e w' ⟨rfl, rfl⟩; rw [H.out]))
    go_ret
    exact ⟨ret_int (by simp [canonI, H.out, theNaN]), rfl⟩
end Go.Proofs.Ytnjobnkkpfaigaa
