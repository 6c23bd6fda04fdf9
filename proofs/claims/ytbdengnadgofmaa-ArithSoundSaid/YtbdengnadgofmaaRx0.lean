-- Printed by the kit's print.py for functions that this session names.
import Derived.Test.YtbdengnadgofmaaProg
import Derived.Below
import Derived.Deep.Draws
import Derived.Deep.AppendLies
import Derived.Maps.AppendAt
import Derived.OwnWalk
import Derived.Laws.BytesArg
import Derived.Laws.MakeOwn
import Derived.Laws.OwnMore
import Derived.Deep.OwnRows
import Derived.Tactics
import Derived.Lib.ConvBytes
import Derived.Laws.Slices
import Derived.WalkKit
import Derived.KernelRfl
import Derived.RowKit3
import Derived.Deep.LoopGhost
import Derived.Deep.QuietTactic
import Derived.BigQuiet
import Derived.WideLaws
import Derived.Deep.DeepCutAuto
import Derived.Deep.CutBlock
import Derived.Deep.RegionHeld3
import Derived.Laws.Rows
import Derived.Lib.AppendStr
import Derived.ArgAppend
import Derived.Laws.IdiomCopy
import Derived.OrdersHeld
import Derived.Laws.BitsLemmas
import Derived.RowKit
import Derived.Test.YtbdengnadgofmaaWWords
import Derived.Test.YtbdengnadgofmaaWLast
import Derived.Test.YtbdengnadgofmaaWTab
import Derived.Test.YtbdengnadgofmaaWFour
import Derived.Test.YtbdengnadgofmaaWQPut
import Derived.Test.YtbdengnadgofmaaWApart
import Derived.Test.YtbdengnadgofmaaWArr
import Derived.Test.YtbdengnadgofmaaWZeros
import Derived.Test.YtbdengnadgofmaaWFoot
import Derived.Test.YtbdengnadgofmaaWKept
import Derived.Test.YtbdengnadgofmaaWShare
import Derived.Test.YtbdengnadgofmaaWN
import Derived.Test.YtbdengnadgofmaaWFootNe
import Derived.Test.YtbdengnadgofmaaWAt
import Derived.Test.YtbdengnadgofmaaWEqStruct
import Derived.Test.YtbdengnadgofmaaWRepsOne
import Derived.Test.YtbdengnadgofmaaWInv
import Derived.Test.YtbdengnadgofmaaWInvWords
import Derived.Test.YtbdengnadgofmaaWGuard
import Derived.Test.YtbdengnadgofmaaWNEv
import Derived.Test.YtbdengnadgofmaaWMore
namespace Go.Proofs.Ytbdengnadgofmaa.R
open Go.RowKit Go.Proofs.YtbdengnadgofmaaW.PrintWords Go.Proofs.YtbdengnadgofmaaW.PrintLast Go.Proofs.YtbdengnadgofmaaW.PrintMore
attribute [local go_sem] max2_int min2_int max_two min_two max_three min_three max_four min_four   -- for this text's walks alone
set_option linter.unusedVariables false
set_option linter.unusedSimpArgs false



def errW : Option Int → Value
  | none => .nilIface
  | some c => .iface 0 (.int .i64 c)
theorem errW_none : errW none = .nilIface := rfl
theorem errW_some (c : Int) : errW (some c) = .iface 0 (.int .i64 c) := rfl

-- the values' own types

end Go.Proofs.Ytbdengnadgofmaa.R
