-- Printed by the kit's print.py for functions that this session names.
import Derived.Test.YthoemenchimggaaDoorProg
import Derived.Below
import Derived.Deep.Draws
import Derived.Deep.AppendLies
import Derived.Maps.AppendAt
import Derived.OwnWalk
import Derived.Laws.BytesArg
import Derived.Laws.MakeOwn
import Derived.Laws.OwnMore
import Derived.Deep.OwnRows
import Derived.Tactics
import Derived.Lib.ConvBytes
import Derived.Laws.Slices
import Derived.WalkKit
import Derived.KernelRfl
import Derived.RowKit3
import Derived.Deep.LoopGhost
import Derived.Deep.QuietTactic
import Derived.BigQuiet
import Derived.WideLaws
import Derived.Deep.DeepCutAuto
import Derived.Deep.CutBlock
import Derived.Deep.RegionHeld3
import Derived.Laws.Rows
import Derived.Lib.AppendStr
import Derived.ArgAppend
import Derived.Laws.IdiomCopy
import Derived.OrdersHeld
import Derived.Laws.BitsLemmas
import Derived.RowKit
import Derived.Test.YthoemenchimggaaDoorX1
import Derived.Lib.Hide
import Derived.LoopTactic
import Derived.Test.YthoemenchimggaaDoorWWords
import Derived.Test.YthoemenchimggaaDoorWLast
import Derived.Test.YthoemenchimggaaDoorWTab
import Derived.Test.YthoemenchimggaaDoorWFour
import Derived.Test.YthoemenchimggaaDoorWQPut
import Derived.Test.YthoemenchimggaaDoorWApart
import Derived.Test.YthoemenchimggaaDoorWArr
import Derived.Test.YthoemenchimggaaDoorWZeros
import Derived.Test.YthoemenchimggaaDoorWFoot
import Derived.Test.YthoemenchimggaaDoorWKept
import Derived.Test.YthoemenchimggaaDoorWShare
import Derived.Test.YthoemenchimggaaDoorWN
import Derived.Test.YthoemenchimggaaDoorWFootNe
import Derived.Test.YthoemenchimggaaDoorWAt
import Derived.Test.YthoemenchimggaaDoorWEqStruct
import Derived.Test.YthoemenchimggaaDoorWRepsOne
import Derived.Test.YthoemenchimggaaDoorWInv
import Derived.Test.YthoemenchimggaaDoorWInvWords
import Derived.Test.YthoemenchimggaaDoorWGuard
import Derived.Test.YthoemenchimggaaDoorWNEv
import Derived.Test.YthoemenchimggaaDoorWMore
namespace Go.Proofs.YthoemenchimggaaDoor.V
open Go.RowKit Go.Proofs.YthoemenchimggaaDoorW.PrintWords Go.Proofs.YthoemenchimggaaDoorW.PrintLast Go.Proofs.YthoemenchimggaaDoorW.PrintMore Go.Proofs.YthoemenchimggaaDoor.A
attribute [local go_sem] max2_int min2_int max_two min_two max_three min_three max_four min_four   -- for this text's walks alone
set_option linter.unusedVariables false
set_option linter.unusedSimpArgs false



theorem info5 : (Tryd.prog.info? 5).map (fun i => (i.zero, i.size, i.bytes)) = some (some (.int .u8 0), 1, 1) := by kernel_rfl
def rd_L3 (xs : List (List S35)) (i : Int) : (List S35) := xs.getD i.toNat ([] : List S35)
theorem at_L3 {w : World} {A : Option Addr} {n : Nat} {xs : List (List S35)} (h : Kd.C (Kd.slice 35 k35) w A n xs) (i : Int) (h0 : 0 ≤ i) (h1 : i < n) : ∃ ad A0 c0, A = some ad ∧ w.cell? (ad.add i.toNat) = some (.slice A0 (rd_L3 xs i).length c0) ∧ (rd_L3 xs i).length ≤ c0 ∧ k35.C w A0 (rd_L3 xs i).length (rd_L3 xs i) := by
  obtain ⟨ad, c, e, _, hK, hc0⟩ := Kd.C_get h ([] : List S35) i h0 h1
  have hc : ∀ j u, c[j]? = some u → w.cell? (ad.add (i.toNat * 1 + j)) = some u := hc0
  obtain ⟨A0, c0, rfl, l0, g0⟩ := hK
  exact ⟨ad, A0, c0, e, by have hq := hc 0 _ rfl; rwa [Nat.mul_one, Nat.add_zero] at hq, l0, g0⟩

def rd_L5 (xs : List (List Int)) (i : Int) : (List Int) := xs.getD i.toNat ([] : List Int)
theorem at_L5 {w : World} {A : Option Addr} {n : Nat} {xs : List (List Int)} (h : Kd.C (Kd.slice 5 (Kd.int .u8)) w A n xs) (i : Int) (h0 : 0 ≤ i) (h1 : i < n) : ∃ ad A0 c0, A = some ad ∧ w.cell? (ad.add i.toNat) = some (.slice A0 (rd_L5 xs i).length c0) ∧ (rd_L5 xs i).length ≤ c0 ∧ (Kd.int .u8).C w A0 (rd_L5 xs i).length (rd_L5 xs i) := by
  obtain ⟨ad, c, e, _, hK, hc0⟩ := Kd.C_get h ([] : List Int) i h0 h1
  have hc : ∀ j u, c[j]? = some u → w.cell? (ad.add (i.toNat * 1 + j)) = some u := hc0
  obtain ⟨A0, c0, rfl, l0, g0⟩ := hK
  exact ⟨ad, A0, c0, e, by have hq := hc 0 _ rfl; rwa [Nat.mul_one, Nat.add_zero] at hq, l0, g0⟩

end Go.Proofs.YthoemenchimggaaDoor.V
