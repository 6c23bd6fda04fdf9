import Derived.Test.YtgbjilcfgpbcgaaProg
import Derived.Below
import Derived.Deep.Draws
import Derived.Deep.AppendLies
import Derived.Maps.AppendAt
import Derived.OwnWalk
import Derived.Laws.BytesArg
import Derived.Laws.MakeOwn
import Derived.Laws.OwnMore
import Derived.Deep.OwnRows
import Derived.Tactics
import Derived.Lib.ConvBytes
import Derived.Laws.Slices
import Derived.WalkKit
import Derived.KernelRfl
import Derived.RowKit3
import Derived.Deep.LoopGhost
import Derived.Deep.QuietTactic
import Derived.BigQuiet
import Derived.WideLaws
import Derived.Deep.DeepCutAuto
import Derived.Deep.CutBlock
import Derived.Deep.RegionHeld3
import Derived.Laws.Rows
import Derived.Lib.AppendStr
import Derived.ArgAppend
import Derived.Laws.IdiomCopy
import Derived.OrdersHeld
import Derived.Laws.BitsLemmas
import Derived.RowKit
import Derived.Test.YtgbjilcfgpbcgaaZwWWords
import Derived.Test.YtgbjilcfgpbcgaaZwWLast
import Derived.Test.YtgbjilcfgpbcgaaZwWApart
import Derived.Test.YtgbjilcfgpbcgaaZwWFoot
import Derived.Test.YtgbjilcfgpbcgaaZwWKept
import Derived.Test.YtgbjilcfgpbcgaaZwWShare
import Derived.Test.YtgbjilcfgpbcgaaZwWN
import Derived.Laws.StructEq
import Derived.Test.YtgbjilcfgpbcgaaZwWRepsOne
import Derived.Test.YtgbjilcfgpbcgaaZwWGuard
import Derived.Test.YtgbjilcfgpbcgaaZwWMore
namespace Go.Proofs.Ytgbjilcfgpbcgaa.A
open Go.RowKit Go.Proofs.YtgbjilcfgpbcgaaW.PrintWords Go.Proofs.YtgbjilcfgpbcgaaW.PrintLast Go.Proofs.YtgbjilcfgpbcgaaW.PrintMore
attribute [local go_sem] max2_int min2_int max_two min_two max_three min_three max_four min_four   -- for this text's walks alone
set_option linter.unusedVariables false
set_option linter.unusedSimpArgs false
end Go.Proofs.Ytgbjilcfgpbcgaa.A
