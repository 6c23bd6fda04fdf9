/- The contracts of package real, in the form in which the printed texts take them. -/
import Derived.Test.YtjbaeibclcifmaaB1
namespace Go.Proofs.Ytjbaeibclcifmaa
open Go.RowKit Go.Proofs.YtjbaeibclcifmaaW.PrintWords Fl

theorem isEmpty_bne (l : List UInt8) : l.isEmpty = !(l != []) := by cases l <;> rfl
def cmpS (a b : ByteArray) : Int := if Op.bytesLess a.toList b.toList then -1 else if a.toList == b.toList then 0 else 1
theorem isnanstr_calls (a : ByteArray) (w : World) :
    Calls Try.prog 42 #[.string a] w fun e w' => e = .returned (.bool false) ∧ w = w' := by
  go_enter Try.func42, Try.ntmps42
  go_wp2
  all_goals (go_ret; exact ⟨by simp, rfl⟩)
theorem cmpstr_calls (a b : ByteArray) (w : World) :
    Calls Try.prog 31 #[.string a, .string b] w fun e w' => e = .returned (.int .i64 (cmpS a b)) ∧ w = w' := by
  cases h1 : Op.bytesLess a.toList b.toList
  · cases h2 : (a.toList == b.toList)
    all_goals
      have H1 := Lib.hid h1
      have H2 := Lib.hid h2
      go_enter Try.func31, Try.ntmps31
      go_wp2_with fail
      refine (isnanstr_calls a _).mono ?_
      rintro e w1 ⟨rfl, rfl⟩
      go_wp2_with fail
      refine (isnanstr_calls b _).mono ?_
      rintro e w1 ⟨rfl, rfl⟩
      go_wp2
      go_ret
      exact ⟨ret_int (by simp [cmpS, H1.out, H2.out]), rfl⟩
  · have H1 := Lib.hid h1
    go_enter Try.func31, Try.ntmps31
    go_wp2_with fail
    refine (isnanstr_calls a _).mono ?_
    rintro e w1 ⟨rfl, rfl⟩
    go_wp2_with fail
    refine (isnanstr_calls b _).mono ?_
    rintro e w1 ⟨rfl, rfl⟩
    go_wp2
    go_ret
    exact ⟨ret_int (by simp [cmpS, H1.out]), rfl⟩
def cmp_Compare_string.f (a0 a1 : ByteArray) : Option Int := some (cmpS a0 a1)
theorem cmp_Compare_string.calls (a0 a1 : ByteArray) (r : Int) (w : World) (h : cmp_Compare_string.f a0 a1 = some r) :
    Calls Try.prog 31 #[.string a0, .string a1] w fun e w' => e = .returned (.int .i64 r) ∧ Drawn0 w w' := by
  obtain rfl := Option.some.inj h
  exact (cmpstr_calls a0 a1 w).mono fun _ _ ⟨he, hw⟩ => ⟨he, hw ▸ Drawn0.refl _⟩
def real_Order.f (a0 a1 : Int) : Option Int := some (ordI a0 a1)
theorem real_Order.calls (a0 a1 : Int) (r : Int) (w : World) (h : real_Order.f a0 a1 = some r) :
    Calls Try.prog 30 #[.int .i64 a0, .int .i64 a1] w fun e w' => e = .returned (.int .i64 r) ∧ Drawn0 w w' := by
  obtain rfl := Option.some.inj h
  exact (order_calls a0 a1 w).mono fun _ _ ⟨he, hw⟩ => ⟨he, hw ▸ Drawn0.refl _⟩
def real_Canon.f (a0 : Int) : Option Int := some (canonI a0)
theorem real_Canon.calls (a0 : Int) (r : Int) (w : World) (h : real_Canon.f a0 = some r) :
    Calls Try.prog 27 #[.int .i64 a0] w fun e w' => e = .returned (.int .i64 r) ∧ Drawn0 w w' := by
  obtain rfl := Option.some.inj h
  exact (canon_calls a0 w).mono fun _ _ ⟨he, hw⟩ => ⟨he, hw ▸ Drawn0.refl _⟩
end Go.Proofs.Ytjbaeibclcifmaa
