import Derived.Test.YtnjobnkkpfaigaaZeB1
/- The contracts of package real, in the form in which the printed texts take them. -/
namespace Go.Proofs.Ytnjobnkkpfaigaa
open Go.RowKit Go.Proofs.YtnjobnkkpfaigaaW.PrintWords Fl
theorem isEmpty_bne (l : List UInt8) : l.isEmpty = !(l != []) := by cases l <;> rfl
def real_Canon.f (a0 : Int) : Option Int := some (canonI a0)
theorem real_Canon.calls (a0 : Int) (r : Int) (w : World) (h : real_Canon.f a0 = some r) :
    Calls Try.prog 27 #[.int .i64 a0] w fun e w' => e = .returned (.int .i64 r) ∧ Drawn0 w w' := by
  obtain rfl := Option.some.inj h
  exact (canon_calls a0 w).mono fun _ _ ⟨he, hw⟩ => ⟨he, hw ▸ Drawn0.refl _⟩
end Go.Proofs.Ytnjobnkkpfaigaa
