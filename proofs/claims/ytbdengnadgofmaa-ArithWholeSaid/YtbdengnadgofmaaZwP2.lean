/- The types of answers: the plain law of layer 3, third part. -/
import Derived.Test.YtbdengnadgofmaaZwVx13
namespace Go.Proofs.Ytbdengnadgofmaa
open Go.RowKit Go.Proofs.YtbdengnadgofmaaW.PrintWords V
set_option linter.unusedSimpArgs false
set_option linter.unusedVariables false
def ansV (op t : Int) : Int :=
  if op = 14 then (if 1 ≤ t ∧ t ≤ 3 then 2 else 0) else if op = 15 then (if t = 2 ∨ t = 3 then 3 else 0) else if op = 12 then (if t = 4 then 4 else 0)
  else if op = 11 then (if t = 2 then 2 else 0) else if t = 2 ∨ t = 3 then t else 0
def alV (op : Int) : Int := if op = 12 then 4 else if op = 11 ∨ op = 14 then 2 else if op = 15 then 3 else 0
/-- The type of an operator's answer to operands of one type or Null. -/
def tyV (op t : Int) : Int × Bool := if t = 0 then (alV op, alV op != 0) else (ansV op t, ansV op t != 0)
def two (op x y : Int) : Int × Bool := if x = 0 then tyV op y else if y = 0 then tyV op x else if x = y then tyV op x else (0, false)
end Go.Proofs.Ytbdengnadgofmaa
