/- From what a row's argument reads as to the values' own types of the printed texts: an argument of whatever type, opened by its parts. -/
import Derived.Test.YtbdengnadgofmaaZwWWords
import Derived.Lib.SmallJoins
import Derived.SizedLaws
import Derived.Carry
import Derived.ChangeOld
namespace Go.Proofs.Ytbdengnadgofmaa.Rd
open Go.ChangeShapes Go.WideShapes Go.RowKit Go.Deep Go.Joins Go.Proofs.YtbdengnadgofmaaW.PrintWords
/-- What a reading of type t says: cells of the kind k. Q: what the reading says beside. -/
def Rds {α : Type} (P : Program) (w : World) (t : TypeId) (k : Kd α) (Q : α → Prop) : Prop :=
  ∀ {H : Type} {enc : TypeId × Value → H} {fuel : Nat} {cs : List Value} {x : DataW H × List MemPlace}, DataW.trod enc P w 0 (fun _ => true) true fuel t cs = some x → ∃ a, k.K w a cs ∧ Q a
section
variable {P : Program} {w : World} {t e : TypeId} {α β γ : Type}
theorem rds_int {k : IntKind} (ht : P.underlying t = some (.int k)) : Rds P w t (Kd.int k) (fun n => (Lit.int k n).wf = true) := by
  intro H enc fuel cs x h
  obtain ⟨n, rfl, _, hw⟩ := DataW.trod_int ht h
  exact ⟨n, rfl, hw⟩
end
end Go.Proofs.Ytbdengnadgofmaa.Rd
