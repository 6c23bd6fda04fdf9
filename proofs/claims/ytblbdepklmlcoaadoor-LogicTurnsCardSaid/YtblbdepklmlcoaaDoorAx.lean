-- Printed by the kit's print.py for functions that this session names.
import Derived.Test.YtblbdepklmlcoaaDoorAx0
import Derived.Test.YtblbdepklmlcoaaDoorAx1
namespace Go.Proofs.YtblbdepklmlcoaaDoor.A
open Go.RowKit Go.Proofs.YtblbdepklmlcoaaDoorW.PrintWords Go.Proofs.YtblbdepklmlcoaaDoorW.PrintLast Go.Proofs.YtblbdepklmlcoaaDoorW.PrintMore
attribute [local go_sem] max2_int min2_int max_two min_two max_three min_three max_four min_four   -- for this text's walks alone
set_option linter.unusedVariables false
set_option linter.unusedSimpArgs false

end Go.Proofs.YtblbdepklmlcoaaDoor.A
