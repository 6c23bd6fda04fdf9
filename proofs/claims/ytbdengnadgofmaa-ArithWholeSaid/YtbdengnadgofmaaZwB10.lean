/- The reference's whole parts and whole numbers, in the words of Fl. -/
import Derived.Test.YtbdengnadgofmaaZwB5
import Derived.Test.YtbdengnadgofmaaZwRx1
namespace Go.Proofs.Ytbdengnadgofmaa
open Go.RowKit Go.Proofs.YtbdengnadgofmaaW.PrintWords Go.Proofs.YtbdengnadgofmaaW.PrintMore Fl R
set_option linter.unusedSimpArgs false
def toIv (x : Nat) : Int := if inI x then wholeI x else 0
def toIe (x : Nat) : Int := if inI x then 0 else 10
end Go.Proofs.Ytbdengnadgofmaa
