/- The law ArithTypes: for every input the call returns true. By a program of this session. -/
import Derived.Test.YtbdengnadgofmaaRows
import Derived.Test.YtbdengnadgofmaaP2
import Derived.Test.YtbdengnadgofmaaRd
import Derived.WalkKit
import Derived.ProofKit
import Derived.OpenShut
import Derived.ShutString
import Derived.ChangeOld
import Derived.Below
import Derived.SizedLaws
import Derived.Carry
namespace Go.Proofs.Ytbdengnadgofmaa.arithTypes
open Go.ChangeShapes Go.WideShapes Go.ChangeAt Go.RowKit Go.Proofs.Ytbdengnadgofmaa.Rd Go.Proofs.YtbdengnadgofmaaW.PrintWords
open Go.ChangeMaps (open_string shut_string)
set_option linter.unusedVariables false
set_option linter.unusedSimpArgs false
theorem own : ownKnob Try.prog.godebug = none := by kernel_rfl
theorem laidOut : laidOutB Try.prog = true := by kernel_rfl
def Q3 (a : Int) : Prop := (Lit.int .i64 a).wf = true
theorem rd3 (w : World) : Rds Try.prog w 3 (Kd.int .i64) Q3 := rds_int Try.underlying3
def Q35 (a : (List Int)) : Prop := ∀ y ∈ a, Q3 y
theorem rd35 (w : World) : Rds Try.prog w 35 (Kd.slice 3 (Kd.int .i64)) Q35 := rds_slice Try.underlying35 (by kernel_rfl) (rd3 w)
set_option maxRecDepth 100000 in
theorem lifted (os : Os) (started : os.Started) (H : Type) (enc : TypeId × Value → H) :
    ReturnsInHanded {} Try.checked os 5 .any (Rows.arithTypesSpec.pre6 enc Try.prog Try.f5 Rows.arithTypesRow.domain false) (Rows.arithTypesSpec.post enc Try.prog Try.f5 false true false false) := by
  refine returnsInHanded_of_change_sized (C := Try.checked) own started (by kernel_rfl) Try.func5
    (ChangeSpec.witness6 (enc := enc) (C := Try.checked) false ⟨#[], #[.int .i64 0, .slice none 0 0], []⟩ 8 (by kernel_rfl) (by kernel_rfl) (by kernel_rfl) (by kernel_rfl)) ?_
  intro W base args ds gs before hval0 hW hcnd hsz0 _
  have hsz : (DataW.weightsEach Try.prog (Try.f5.params.toList ++ Rows.arithTypesSpec.plain.varTypes Try.prog) (ds ++ gs)).all (· ≤ reachBytes) = true := hsz0
  have hval : ∀ (j : Nat) t v, Try.f5.params[j]? = some t → args[j]? = some v → Value.okWide Try.prog W .any base t v := hval0
  have hW' := hW
  obtain ⟨p, q, hA0, hV, rfl, hfz, hnd⟩ := hW
  have hA : DataW.TrodAll enc Try.prog W 0 (fun _ => true) true Try.f5.params.toList args.toList ds p := hA0
  rw [Try.params5] at hA hval hsz
  obtain ⟨v0, vs0, d0, ds0, p0, q0, hargs, rfl, rfl, h0, r0⟩ := trodAll_cons hA
  obtain ⟨v1, vs1, d1, ds1, p1, q1, rfl, rfl, rfl, h1, r1⟩ := trodAll_cons r0
  obtain ⟨rfl, rfl, rfl⟩ := trodAll_nil r1
  obtain rfl : args = #[v0, v1] := by cases args; simp_all
  obtain ⟨rfl, rfl⟩ := trodVars_none hV
  obtain ⟨a0, rfl, rfl, rfl, w0⟩ := open_int Try.underlying3 (hval 0 3 v0 rfl rfl) h0
  obtain ⟨A1, n1, c1, rfl⟩ := okWide_slice Try.underlying35 (hval 1 35 v1 rfl rfl)
  have lt1 := places_lt h1
  obtain ⟨l1, rfl, hc1, hr1, qs1⟩ := open_sl (rd35 W) h1
  have hz1 := sized hsz (j := 1) rfl rfl Try.underlying35 (B := Try.prog.bytesOf 3) rfl h1
  rw [show Try.prog.bytesOf 3 = 8 from by kernel_rfl] at hz1
  clear hA0 hval0 hsz0
  obtain ⟨k, hP⟩ := TypesPure a0 l1 hz1
  refine (V.hasplaw03_ArithTypes.calls k a0 A1 c1 l1 true W hr1 hc1 hP).mono fun e W' ⟨he, bel0⟩ => ?_
  have bel : Below W.heap.size W W' := bel0
  subst he
  exact ⟨_, rfl, _, _, _, [], _, [], hW', trodAll_mk1 (shut_bool Try.underlying4 _), (trodAll_cons_mk (shut_int Try.underlying3 w0) (trodAll_cons_mk (Below.trod laidOut (by kernel_rfl) (of_decide_eq_true (by kernel_rfl)) h1 bel lt1) trodAll_mk0)), rfl, bel.frame _, fun h => by cases h⟩
theorem over : Rows.arithTypesRow.holds Try.pinned (OpenSpec.ofChange Rows.arithTypesSpec) :=
  OpenClaim.holds_of_wide 5 Try.f5 rfl rfl rfl rfl rfl rfl rfl ⟨rfl, rfl, rfl, rfl, rfl⟩ rfl rfl rfl rfl rfl (by kernel_rfl) Try.func5 (by kernel_rfl)
    (of_decide_eq_true (by kernel_rfl)) (by unfold Func.isWrapper; first | (rw [if_pos (by decide +kernel)]; kernel_rfl) | (rw [if_neg (by decide +kernel)]; exact ⟨rfl, rfl⟩))
    (fun os started H enc _ => lifted os started H enc)
theorem proved : Rows.ArithTypesSaid := over
#print axioms proved
end Go.Proofs.Ytbdengnadgofmaa.arithTypes
namespace Go.Proofs.Ytbdengnadgofmaa
/-- The row, under a short name, for the claim. -/
theorem arithTypes_holds : Rows.ArithTypesSaid := arithTypes.proved
end Go.Proofs.Ytbdengnadgofmaa
