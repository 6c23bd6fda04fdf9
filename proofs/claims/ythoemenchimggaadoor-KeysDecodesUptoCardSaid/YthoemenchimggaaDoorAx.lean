-- Printed by the kit's print.py for functions that this session names.
import Derived.Test.YthoemenchimggaaDoorAx0
import Derived.Test.YthoemenchimggaaDoorAx1
namespace Go.Proofs.YthoemenchimggaaDoor.A
open Go.RowKit Go.Proofs.YthoemenchimggaaDoorW.PrintWords Go.Proofs.YthoemenchimggaaDoorW.PrintLast Go.Proofs.YthoemenchimggaaDoorW.PrintMore
attribute [local go_sem] max2_int min2_int max_two min_two max_three min_three max_four min_four   -- for this text's walks alone
set_option linter.unusedVariables false
set_option linter.unusedSimpArgs false

end Go.Proofs.YthoemenchimggaaDoor.A
