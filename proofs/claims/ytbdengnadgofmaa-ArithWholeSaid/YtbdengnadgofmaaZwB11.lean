/- The reference's whole numbers as reals, in the words of Fl. -/
import Derived.Test.YtbdengnadgofmaaZwB10
namespace Go.Proofs.Ytbdengnadgofmaa
open Go.RowKit Go.Proofs.YtbdengnadgofmaaW.PrintWords Go.Proofs.YtbdengnadgofmaaW.PrintMore Fl R
/-- A whole number as a real. -/
def ofIntI (n : Int) : Int := canonN (FloatKind.f64.nearest n)
end Go.Proofs.Ytbdengnadgofmaa
