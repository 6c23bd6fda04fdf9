/- What the references answer, in the words of Fl. -/
import Derived.Test.YtbdengnadgofmaaZwRx1
import Derived.Test.YtbdengnadgofmaaZwFl
import Derived.Laws.BitsLemmas
import Derived.Laws.Bits64
namespace Go.Proofs.Ytbdengnadgofmaa
open Go.RowKit Go.Proofs.YtbdengnadgofmaaW.PrintWords Fl R
theorem u64w (n : Int) : IntKind.u64.wrap n = n % 18446744073709551616 := by simp [IntKind.wrap, IntKind.bits, IntKind.signed]
theorem ub_cast (a : Int) : ((ub a : Nat) : Int) = IntKind.u64.wrap a := by unfold ub; rw [u64w]; omega
theorem ub_lt (a : Int) : ub a < 18446744073709551616 := by have := ub_cast a; rw [u64w] at this; omega
def rnegI (a : Int) : Int := if nanB (ub a) then theNaN else Go.bits .xor .i64 a (-9223372036854775808)
end Go.Proofs.Ytbdengnadgofmaa
