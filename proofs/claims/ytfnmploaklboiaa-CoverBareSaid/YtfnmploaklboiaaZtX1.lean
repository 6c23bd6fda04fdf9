import Derived.Test.YtfnmploaklboiaaZtC11
/- The contracts of cover.Check and of the document's Join, in the form in which the printed texts take them. -/
namespace Go.Proofs.Ytfnmploaklboiaa
open Go.RowKit Go.Proofs.YtfnmploaklboiaaW.PrintWords A
set_option linter.unusedVariables false
def insB (l : List S33) : Bool := l.all fun x => decide (x.f5.size ≤ maxLen) && (decide (-9223372036854775808 ≤ x.f1) && decide (x.f1 < 9223372036854775808))
theorem insB_iff {l : List S33} (h : insB l = true) : ∀ x ∈ l, x.f5.size ≤ maxLen ∧ -9223372036854775808 ≤ x.f1 ∧ x.f1 < 9223372036854775808 := by
  intro x hx
  have := List.all_eq_true.1 h x hx
  simpa using this
def cover_Check.f (a0_0 : ByteArray) (l0_1 : List S33) : Option Int := if (decide (l0_1.length ≤ 100000000000000) && (decide (a0_0.size ≤ maxLen) && insB l0_1)) = true then some (if ckB a0_0 l0_1 = true then 0 else 240) else none
theorem cover_Check.calls (a0_0 : ByteArray) (A0_1 : Option Addr) (c0_1 : Nat) (l0_1 : List (S33)) (r : Int) (w : World) (hr0_1 : Kd.C k33 w A0_1 l0_1.length l0_1) (hc0_1 : l0_1.length ≤ c0_1) (h : cover_Check.f a0_0 l0_1 = some r) :
    Calls Try.prog 8 #[.agg #[.string a0_0, .slice A0_1 l0_1.length c0_1]] w fun e w' => e = .returned (.int .i64 r) ∧ Below w.heap.size w w' := by
  unfold cover_Check.f at h
  split at h
  · rename_i hb
    rw [Bool.and_eq_true, Bool.and_eq_true] at hb
    obtain rfl := Option.some.inj h
    exact check_calls w a0_0 A0_1 l0_1 c0_1 hr0_1 hc0_1 (of_decide_eq_true hb.1) (of_decide_eq_true hb.2.1) (insB_iff hb.2.2)
  · cases h
def haspref09_Join.f (a0 a1 : Int) : Option Int := some (joinT a0 a1)
end Go.Proofs.Ytfnmploaklboiaa
