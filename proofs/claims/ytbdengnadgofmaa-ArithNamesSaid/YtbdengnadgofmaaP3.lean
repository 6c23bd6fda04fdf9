/- The names' law. -/
import Derived.Test.YtbdengnadgofmaaVx6
namespace Go.Proofs.Ytbdengnadgofmaa
open V
theorem NamesPure : hasplaw03_ArithNames.f = some true := rfl
end Go.Proofs.Ytbdengnadgofmaa
