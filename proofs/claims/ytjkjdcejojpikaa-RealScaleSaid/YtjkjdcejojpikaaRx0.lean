-- Printed by the kit's print.py for functions that this session names.
import Derived.Test.YtjkjdcejojpikaaProg
import Derived.Below
import Derived.Deep.Draws
import Derived.Deep.AppendLies
import Derived.Maps.AppendAt
import Derived.OwnWalk
import Derived.Laws.BytesArg
import Derived.Laws.MakeOwn
import Derived.Laws.OwnMore
import Derived.Deep.OwnRows
import Derived.Tactics
import Derived.Lib.ConvBytes
import Derived.Laws.Slices
import Derived.WalkKit
import Derived.KernelRfl
import Derived.RowKit3
import Derived.Deep.LoopGhost
import Derived.Deep.QuietTactic
import Derived.BigQuiet
import Derived.WideLaws
import Derived.Deep.DeepCutAuto
import Derived.Deep.CutBlock
import Derived.Deep.RegionHeld3
import Derived.Laws.Rows
import Derived.Lib.AppendStr
import Derived.ArgAppend
import Derived.Laws.IdiomCopy
import Derived.OrdersHeld
import Derived.Laws.BitsLemmas
import Derived.RowKit
import Derived.Test.YtjkjdcejojpikaaWWords
import Derived.Test.YtjkjdcejojpikaaWLast
import Derived.Test.YtjkjdcejojpikaaWTab
import Derived.Test.YtjkjdcejojpikaaWFour
import Derived.Test.YtjkjdcejojpikaaWQPut
import Derived.Test.YtjkjdcejojpikaaWApart
import Derived.Test.YtjkjdcejojpikaaWArr
import Derived.Test.YtjkjdcejojpikaaWZeros
import Derived.Test.YtjkjdcejojpikaaWFoot
import Derived.Test.YtjkjdcejojpikaaWKept
import Derived.Test.YtjkjdcejojpikaaWShare
import Derived.Test.YtjkjdcejojpikaaWN
import Derived.Test.YtjkjdcejojpikaaWFootNe
import Derived.Test.YtjkjdcejojpikaaWAt
import Derived.Test.YtjkjdcejojpikaaWEqStruct
import Derived.Test.YtjkjdcejojpikaaWRepsOne
import Derived.Test.YtjkjdcejojpikaaWInv
import Derived.Test.YtjkjdcejojpikaaWInvWords
import Derived.Test.YtjkjdcejojpikaaWGuard
import Derived.Test.YtjkjdcejojpikaaWNEv
import Derived.Test.YtjkjdcejojpikaaWMore
namespace Go.Proofs.Ytjkjdcejojpikaa.R
open Go.RowKit Go.Proofs.YtjkjdcejojpikaaW.PrintWords Go.Proofs.YtjkjdcejojpikaaW.PrintLast Go.Proofs.YtjkjdcejojpikaaW.PrintMore
attribute [local go_sem] max2_int min2_int max_two min_two max_three min_three max_four min_four   -- for this text's walks alone
set_option linter.unusedVariables false
set_option linter.unusedSimpArgs false



def errW : Option Int → Value
  | none => .nilIface
  | some c => .iface 0 (.int .i64 c)
theorem errW_none : errW none = .nilIface := rfl
theorem errW_some (c : Int) : errW (some c) = .iface 0 (.int .i64 c) := rfl

-- the values' own types

end Go.Proofs.Ytjkjdcejojpikaa.R
