import Derived.Test.YtnjobnkkpfaigaaZeVx0
namespace Go.Proofs.Ytnjobnkkpfaigaa.V
open Go.RowKit Go.Proofs.YtnjobnkkpfaigaaW.PrintWords Go.Proofs.YtnjobnkkpfaigaaW.PrintLast Go.Proofs.YtnjobnkkpfaigaaW.PrintMore Go.Proofs.Ytnjobnkkpfaigaa.A
attribute [local go_sem] max2_int min2_int max_two min_two max_three min_three max_four min_four   -- for this text's walks alone
set_option linter.unusedVariables false
set_option linter.unusedSimpArgs false
/-! ### haspref01_IsNaN: function 28 -/
def haspref01_IsNaN.f (a0 : Int) : Option (Bool) := (haspref01_Parts.f a0).bind fun bt147 => (if bt147.2.1 = 2047 then (some (bt147.2.2 != 0)) else (some false))
end Go.Proofs.Ytnjobnkkpfaigaa.V
