-- Printed by the kit's print.py for functions that this session names.
import Derived.Test.YtblbdepklmlcoaaDoorProg
import Derived.Below
import Derived.Deep.Draws
import Derived.Deep.AppendLies
import Derived.Maps.AppendAt
import Derived.OwnWalk
import Derived.Laws.BytesArg
import Derived.Laws.MakeOwn
import Derived.Laws.OwnMore
import Derived.Deep.OwnRows
import Derived.Tactics
import Derived.Lib.ConvBytes
import Derived.Laws.Slices
import Derived.WalkKit
import Derived.KernelRfl
import Derived.RowKit3
import Derived.Deep.LoopGhost
import Derived.Deep.QuietTactic
import Derived.BigQuiet
import Derived.WideLaws
import Derived.Deep.DeepCutAuto
import Derived.Deep.CutBlock
import Derived.Deep.RegionHeld3
import Derived.Laws.Rows
import Derived.Lib.AppendStr
import Derived.ArgAppend
import Derived.Laws.IdiomCopy
import Derived.OrdersHeld
import Derived.Laws.BitsLemmas
import Derived.RowKit
import Derived.Test.YtblbdepklmlcoaaDoorX1
import Derived.Lib.Hide
import Derived.LoopTactic
import Derived.Test.YtblbdepklmlcoaaDoorWWords
import Derived.Test.YtblbdepklmlcoaaDoorWLast
import Derived.Test.YtblbdepklmlcoaaDoorWTab
import Derived.Test.YtblbdepklmlcoaaDoorWFour
import Derived.Test.YtblbdepklmlcoaaDoorWQPut
import Derived.Test.YtblbdepklmlcoaaDoorWApart
import Derived.Test.YtblbdepklmlcoaaDoorWArr
import Derived.Test.YtblbdepklmlcoaaDoorWZeros
import Derived.Test.YtblbdepklmlcoaaDoorWFoot
import Derived.Test.YtblbdepklmlcoaaDoorWKept
import Derived.Test.YtblbdepklmlcoaaDoorWShare
import Derived.Test.YtblbdepklmlcoaaDoorWN
import Derived.Test.YtblbdepklmlcoaaDoorWFootNe
import Derived.Test.YtblbdepklmlcoaaDoorWAt
import Derived.Test.YtblbdepklmlcoaaDoorWEqStruct
import Derived.Test.YtblbdepklmlcoaaDoorWRepsOne
import Derived.Test.YtblbdepklmlcoaaDoorWInv
import Derived.Test.YtblbdepklmlcoaaDoorWInvWords
import Derived.Test.YtblbdepklmlcoaaDoorWGuard
import Derived.Test.YtblbdepklmlcoaaDoorWNEv
import Derived.Test.YtblbdepklmlcoaaDoorWMore
namespace Go.Proofs.YtblbdepklmlcoaaDoor.V
open Go.RowKit Go.Proofs.YtblbdepklmlcoaaDoorW.PrintWords Go.Proofs.YtblbdepklmlcoaaDoorW.PrintLast Go.Proofs.YtblbdepklmlcoaaDoorW.PrintMore Go.Proofs.YtblbdepklmlcoaaDoor.A
attribute [local go_sem] max2_int min2_int max_two min_two max_three min_three max_four min_four   -- for this text's walks alone
set_option linter.unusedVariables false
set_option linter.unusedSimpArgs false



theorem field24_0 (x y : Int) (w : World) : (Instr.field 24 (.agg #[.int .i64 x, .int .i64 y]) 0).run Tryd.prog w = .ok (.int .i64 x) w := by kernel_rfl
theorem field24_1 (x y : Int) (w : World) : (Instr.field 24 (.agg #[.int .i64 x, .int .i64 y]) 1).run Tryd.prog w = .ok (.int .i64 y) w := by kernel_rfl
theorem info24 : (Tryd.prog.info? 24).map (fun i => (i.zero, i.size, i.bytes)) = some (some (.agg #[(.int .i64 0), (.int .i64 0)]), 2, 16) := by kernel_rfl
def rd_L2 (xs : List (List S24)) (i : Int) : (List S24) := xs.getD i.toNat ([] : List S24)
theorem at_L2 {w : World} {A : Option Addr} {n : Nat} {xs : List (List S24)} (h : Kd.C (Kd.slice 24 k24) w A n xs) (i : Int) (h0 : 0 ≤ i) (h1 : i < n) : ∃ ad A0 c0, A = some ad ∧ w.cell? (ad.add i.toNat) = some (.slice A0 (rd_L2 xs i).length c0) ∧ (rd_L2 xs i).length ≤ c0 ∧ k24.C w A0 (rd_L2 xs i).length (rd_L2 xs i) := by
  obtain ⟨ad, c, e, _, hK, hc0⟩ := Kd.C_get h ([] : List S24) i h0 h1
  have hc : ∀ j u, c[j]? = some u → w.cell? (ad.add (i.toNat * 1 + j)) = some u := hc0
  obtain ⟨A0, c0, rfl, l0, g0⟩ := hK
  exact ⟨ad, A0, c0, e, by have hq := hc 0 _ rfl; rwa [Nat.mul_one, Nat.add_zero] at hq, l0, g0⟩

end Go.Proofs.YtblbdepklmlcoaaDoor.V
