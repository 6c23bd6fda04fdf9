import Derived.Test.YtfnmploaklboiaaProg
import Derived.Below
import Derived.Deep.Draws
import Derived.Deep.AppendLies
import Derived.Maps.AppendAt
import Derived.OwnWalk
import Derived.Laws.BytesArg
import Derived.Laws.MakeOwn
import Derived.Laws.OwnMore
import Derived.Deep.OwnRows
import Derived.Tactics
import Derived.Lib.ConvBytes
import Derived.Laws.Slices
import Derived.WalkKit
import Derived.KernelRfl
import Derived.RowKit3
import Derived.Deep.LoopGhost
import Derived.Deep.QuietTactic
import Derived.BigQuiet
import Derived.WideLaws
import Derived.Deep.DeepCutAuto
import Derived.Deep.CutBlock
import Derived.Deep.RegionHeld3
import Derived.Laws.Rows
import Derived.Lib.AppendStr
import Derived.ArgAppend
import Derived.Laws.IdiomCopy
import Derived.OrdersHeld
import Derived.Laws.BitsLemmas
import Derived.RowKit
import Derived.Test.YtfnmploaklboiaaZtX1
import Derived.Lib.Hide
import Derived.LoopTactic
import Derived.Test.YtfnmploaklboiaaZtWWords
import Derived.Test.YtfnmploaklboiaaZtWLast
import Derived.Test.YtfnmploaklboiaaZtWTab
import Derived.Test.YtfnmploaklboiaaZtWApart
import Derived.Test.YtfnmploaklboiaaZtWFoot
import Derived.Test.YtfnmploaklboiaaZtWKept
import Derived.Test.YtfnmploaklboiaaZtWShare
import Derived.Test.YtfnmploaklboiaaZtWN
import Derived.Laws.StructEq
import Derived.Test.YtfnmploaklboiaaZtWRepsOne
import Derived.Test.YtfnmploaklboiaaZtWMore
namespace Go.Proofs.Ytfnmploaklboiaa.V
open Go.RowKit Go.Proofs.YtfnmploaklboiaaW.PrintWords Go.Proofs.YtfnmploaklboiaaW.PrintLast Go.Proofs.YtfnmploaklboiaaW.PrintMore Go.Proofs.Ytfnmploaklboiaa.A
attribute [local go_sem] max2_int min2_int max_two min_two max_three min_three max_four min_four   -- for this text's walks alone
set_option linter.unusedVariables false
set_option linter.unusedSimpArgs false
theorem info33 : (Try.prog.info? 33).map (fun i => (i.zero, i.size, i.bytes)) = some (some (.agg #[(.int .i64 0), (.int .i64 0), (.int .i64 0), (.int .i64 0), (.int .i64 0), (.string ⟨#[]⟩), (.int .i64 0), (.slice none 0 0), (.slice none 0 0), (.bool false), (.bool false), (.slice none 0 0), (.int .i64 0), (.slice none 0 0)]), 14, 176) := by kernel_rfl
/-! #### struct type 79 -/
/-! #### struct type 81, nested in itself -/
/-! #### struct type 33 -/
/-! #### struct type 25 -/
structure S25 where
  f0 : ByteArray
  f1 : (List S33)
end Go.Proofs.Ytfnmploaklboiaa.V
