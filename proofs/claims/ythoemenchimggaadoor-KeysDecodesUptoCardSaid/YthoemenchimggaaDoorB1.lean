/- What the functions of package real answer: the walks. -/
import Derived.Test.YthoemenchimggaaDoorProg
import Derived.Test.YthoemenchimggaaDoorFl
import Derived.Test.YthoemenchimggaaDoorWWords
import Derived.WalkKit
import Derived.RowKit3
import Derived.KernelRfl
import Derived.Below
import Derived.Lib.Hide
import Derived.WalkLawsBesides
namespace Go.Proofs.YthoemenchimggaaDoor
open Go.RowKit Go.Proofs.YthoemenchimggaaDoorW.PrintWords Fl

theorem ret_int {k : IntKind} {a b : Int} (h : a = b) : Ending.returned (.int k a) = .returned (.int k b) := by rw [h]
theorem ret_bool {a b : Bool} (h : a = b) : Ending.returned (.bool a) = .returned (.bool b) := by rw [h]
theorem ret_float {a b : Nat} (h : a = b) : Ending.returned (.float .f64 a) = .returned (.float .f64 b) := by rw [h]
theorem frombits (n : Int) (w : World) : (callFunc 60 #[.int .u64 n]).run Tryd.prog w = .ok (.value (.float .f64 n.toNat)) w := by kernel_rfl

theorem of_calls (a : Int) (w : World) :
    Calls Tryd.prog 50 #[.int .i64 a] w fun e w' => e = .returned (.float .f64 (ub a)) ∧ w = w' := by
  have h1 := frombits
  go_enter Tryd.func50, Tryd.ntmps50
  go_wp2
  go_ret
  exact ⟨rfl, rfl⟩
theorem isnan_calls (x : Nat) (w : World) :
    Calls Tryd.prog 49 #[.float .f64 x] w fun e w' => e = .returned (.bool (nanB x)) ∧ w = w' := by
  go_enter Tryd.func49, Tryd.ntmps49
  go_wp2
  go_ret
  exact ⟨ret_bool (order_self x), rfl⟩
theorem canon_calls (a : Int) (w : World) :
    Calls Tryd.prog 41 #[.int .i64 a] w fun e w' => e = .returned (.int .i64 (canonI a)) ∧ w = w' := by
  cases hx : nanB (ub a)
  all_goals
    have H := Lib.hid hx; clear hx
    go_enter Tryd.func41, Tryd.ntmps41
    go_wp2_with (first | (go_at_call 50; (with_reducible refine (of_calls a _).mono ?_); rintro e w' ⟨rfl, rfl⟩) | (go_at_call 49; (with_reducible refine (isnan_calls _ _).mono ?_); rintro e w' ⟨rfl, rfl⟩; rw [H.out]))
    go_ret
    exact ⟨ret_int (by simp [canonI, H.out, theNaN]), rfl⟩
end Go.Proofs.YthoemenchimggaaDoor
