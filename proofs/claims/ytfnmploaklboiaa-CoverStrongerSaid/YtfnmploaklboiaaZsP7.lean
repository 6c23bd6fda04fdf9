import Derived.Test.YtfnmploaklboiaaZsP5
import Derived.Test.YtfnmploaklboiaaZsVx6
/- Layer 22: the plain law, eighth part: the end of the document's changes. -/
namespace Go.Proofs.Ytfnmploaklboiaa
open Go.RowKit Go.Proofs.YtfnmploaklboiaaW.PrintWords V A
set_option linter.unusedSimpArgs false
set_option linter.unusedVariables false
/-- May an InNext stand in a plan that writes? -/
def wrB (x : S33) : Bool := !(x.f0 == 3 && !(x.f1 != 0 || cov x.f4 5))
/-- What a plan that writes is asked at its end. -/
def tailB (t : ByteArray) (l : List S33) (em : Int) : Bool := em == 0 || (match l.find? (openP 0) with
  | none => false
  | some z => l.all wrB && (z.f5.toList == t.toList))
end Go.Proofs.Ytfnmploaklboiaa
