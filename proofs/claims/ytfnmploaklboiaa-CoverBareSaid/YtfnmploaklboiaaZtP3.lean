import Derived.Test.YtfnmploaklboiaaZtP1
import Derived.Test.YtfnmploaklboiaaZtVx2
import Derived.Test.YtfnmploaklboiaaZtVx4
/- Layer 22: the plain law, fourth part: what the document's read answers. -/
namespace Go.Proofs.Ytfnmploaklboiaa
open Go.RowKit Go.Proofs.YtfnmploaklboiaaW.PrintWords V A
set_option linter.unusedSimpArgs false
set_option linter.unusedVariables false
/-- What the document's read answers. -/
def readR (l : List S33) (x : S33) : Bool :=
  if x.f0 = 2 then (match l.find? (openP x.f1) with
    | none => false
    | some z => (z.f5.toList == x.f5.toList && z.f6 == x.f6) && (cov (modeF l x.f5) 3 || (decide (x.f6 ≥ 0) && cov (modeF l x.f5) 1)))
  else if x.f0 = 3 then (match l.find? (openP x.f1) with
    | none => false
    | some z => decide (z.f6 < 0) || (cov x.f3 3 && cov x.f4 3))
  else true
end Go.Proofs.Ytfnmploaklboiaa
