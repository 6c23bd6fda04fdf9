import Derived.Test.YtfnmploaklboiaaZtVx3
/- Layer 22: the plain law, second part: the document's Mode, Opened. -/
namespace Go.Proofs.Ytfnmploaklboiaa
open Go.RowKit Go.Proofs.YtfnmploaklboiaaW.PrintWords V A
set_option linter.unusedSimpArgs false
set_option linter.unusedVariables false
theorem bytes_iff {a b : ByteArray} : a.toList = b.toList ↔ a = b := by
  refine ⟨fun h => ?_, fun h => by rw [h]⟩
  simpa [ByteArray.toList_eq, ByteArray.ext_iff, Array.toList_inj] using h
/-- The place of a cursor's first InOpen. -/
def openP (c : Int) (x : S33) : Bool := x.f0 == 2 && x.f1 == c
end Go.Proofs.Ytfnmploaklboiaa
