import Derived.Test.YtbdengnadgofmaaZwWInv
import Derived.Test.YtbdengnadgofmaaZwWFootNe
namespace Go.Proofs.YtbdengnadgofmaaW.PrintWords
open Go.RowKit
end Go.Proofs.YtbdengnadgofmaaW.PrintWords
namespace Go.Proofs.YtbdengnadgofmaaW.PrintLast
section
variable {ops : Array Oper} {a : Act} {o og : Oper} {g : Nat} {t : Tmp} {u : Bool}
end
end Go.Proofs.YtbdengnadgofmaaW.PrintLast
