import Derived.Test.YtkilhdbfhbmjgaaProg
import Derived.WalkKit
import Derived.RowKit3
import Derived.KernelRfl
import Derived.Below
import Derived.Lib.Hide
namespace Go.Proofs.Ytkilhdbfhbmjgaa
open Go.RowKit

theorem ret_int {k : IntKind} {a b : Int} (h : a = b) : Ending.returned (.int k a) = .returned (.int k b) := by rw [h]
theorem ret_bool {a b : Bool} (h : a = b) : Ending.returned (.bool a) = .returned (.bool b) := by rw [h]

def isMode (m : Int) : Bool := decide (1 ≤ m) && decide (m ≤ 6)
def isKnown (m : Int) : Bool := decide (0 ≤ m) && decide (m ≤ 6)
def rightsOf (m : Int) : Int := if m = 1 then 1 else if m = 2 then 3 else if m = 3 then 5 else if m = 4 then 7 else if m = 5 then 13 else if m = 6 then 31 else 0
def chg (x y : Int) : Bool := (Go.bits .and .i64 x 2 != 0 && Go.bits .and .i64 y 12 != 0) || Go.bits .and .i64 x 16 != 0

theorem right_calls (m : Int) (w : World) :
    Calls Try.prog 7 #[.int .i64 m] w fun e w' => e = .returned (.bool (isMode m)) ∧ w = w' := by
  go_enter Try.func7, Try.ntmps7
  go_wp2
  all_goals (go_ret; refine ⟨ret_bool ?_, rfl⟩; unfold isMode; rw [Bool.eq_iff_iff]; simp; omega)
theorem refRight_calls (m : Int) (w : World) :
    Calls Try.prog 8 #[.int .i64 m] w fun e w' => e = .returned (.bool (isMode m)) ∧ w = w' := by
  go_enter Try.func8, Try.ntmps8
  go_wp2
  all_goals (go_ret; refine ⟨ret_bool ?_, rfl⟩; unfold isMode; rw [Bool.eq_iff_iff]; simp; omega)
theorem known_calls (m : Int) (w : World) :
    Calls Try.prog 15 #[.int .i64 m] w fun e w' => e = .returned (.bool (isKnown m)) ∧ w = w' := by
  go_enter Try.func15, Try.ntmps15
  go_wp2
  all_goals (go_ret; refine ⟨ret_bool ?_, rfl⟩; unfold isKnown; rw [Bool.eq_iff_iff]; simp; omega)
theorem rights_calls (m : Int) (w : World) :
    Calls Try.prog 16 #[.int .i64 m] w fun e w' => e = .returned (.int .i64 (rightsOf m)) ∧ w = w' := by
  go_enter Try.func16, Try.ntmps16
  go_wp2
  all_goals (go_ret; refine ⟨ret_int ?_, rfl⟩; (try simp only [beq_iff_eq, beq_eq_false_iff_ne, ne_eq] at *); unfold rightsOf; repeat' split; all_goals omega)
theorem chg_calls (x y : Int) (w : World) :
    Calls Try.prog 17 #[.int .i64 x, .int .i64 y] w fun e w' => e = .returned (.bool (chg x y)) ∧ w = w' := by
  go_enter Try.func17, Try.ntmps17
  go_wp2
  all_goals (go_ret; refine ⟨ret_bool ?_, rfl⟩; simp [chg, *])

def tog (a b : Int) : Bool := isKnown a && isKnown b &&
       (rightsOf a == 0 || rightsOf b == 0 || (!chg (rightsOf a) (rightsOf b) && !chg (rightsOf b) (rightsOf a) && Go.bits .and .i64 (Go.bits .and .i64 (rightsOf a) (rightsOf b)) 8 == 0))
theorem together_calls (a b : Int) (w : World) :
    Calls Try.prog 9 #[.int .i64 a, .int .i64 b] w fun e w' => e = .returned (.bool (tog a b)) ∧ w = w' := by
  cases ka : isKnown a
  · have Hka := Lib.hid ka; clear ka
    go_enter Try.func9, Try.ntmps9
    go_wp2_with (first | (go_at_call 15; (with_reducible refine (known_calls a _).mono ?_); rintro e w' ⟨rfl, rfl⟩; rw [Hka.out]))
    all_goals (go_ret; refine ⟨ret_bool ?_, rfl⟩; simp [tog, Hka.out])
  · have Hka := Lib.hid ka; clear ka
    cases kb : isKnown b
    · have Hkb := Lib.hid kb; clear kb
      go_enter Try.func9, Try.ntmps9
      go_wp2_with (first | (go_at_call 15; (with_reducible refine (known_calls a _).mono ?_); rintro e w' ⟨rfl, rfl⟩; rw [Hka.out]) | (go_at_call 15; (with_reducible refine (known_calls b _).mono ?_); rintro e w' ⟨rfl, rfl⟩; rw [Hkb.out]))
      all_goals (go_ret; refine ⟨ret_bool ?_, rfl⟩; simp [tog, Hka.out, Hkb.out])
    · have Hkb := Lib.hid kb; clear kb
      go_enter Try.func9, Try.ntmps9
      go_wp2_with (first | (go_at_call 15; (with_reducible refine (known_calls a _).mono ?_); rintro e w' ⟨rfl, rfl⟩; rw [Hka.out]) | (go_at_call 15; (with_reducible refine (known_calls b _).mono ?_); rintro e w' ⟨rfl, rfl⟩; rw [Hkb.out]) | (go_at_call 16; (with_reducible refine (rights_calls a _).mono ?_); rintro e w' ⟨rfl, rfl⟩) | (go_at_call 16; (with_reducible refine (rights_calls b _).mono ?_); rintro e w' ⟨rfl, rfl⟩) | (go_at_call 17; (with_reducible refine (chg_calls (rightsOf a) (rightsOf b) _).mono ?_); rintro e w' ⟨rfl, rfl⟩) | (go_at_call 17; (with_reducible refine (chg_calls (rightsOf b) (rightsOf a) _).mono ?_); rintro e w' ⟨rfl, rfl⟩))
      all_goals (go_ret; refine ⟨ret_bool ?_, rfl⟩; unfold tog; rw [Hka.out, Hkb.out]; first | (simp [*]; done) | (clear Hka Hkb; grind))
end Go.Proofs.Ytkilhdbfhbmjgaa
