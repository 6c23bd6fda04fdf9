import Derived.Test.YtnjobnkkpfaigaaZfAx0
import Derived.Test.YtnjobnkkpfaigaaZfAx1
import Derived.Test.YtnjobnkkpfaigaaZfAx2
import Derived.Test.YtnjobnkkpfaigaaZfAx3
namespace Go.Proofs.Ytnjobnkkpfaigaa.A
open Go.RowKit Go.Proofs.YtnjobnkkpfaigaaW.PrintWords Go.Proofs.YtnjobnkkpfaigaaW.PrintLast Go.Proofs.YtnjobnkkpfaigaaW.PrintMore
attribute [local go_sem] max2_int min2_int max_two min_two max_three min_three max_four min_four   -- for this text's walks alone
set_option linter.unusedVariables false
set_option linter.unusedSimpArgs false
end Go.Proofs.Ytnjobnkkpfaigaa.A
