/- The law ValueChecks: for every input the call returns true. By a program of this session. -/
import Derived.Test.YtjbaeibclcifmaaRows
import Derived.Test.YtjbaeibclcifmaaP2c
import Derived.Test.YtjbaeibclcifmaaRd
import Derived.WalkKit
import Derived.ProofKit
import Derived.OpenShut
import Derived.ShutString
import Derived.ChangeOld
import Derived.Below
import Derived.SizedLaws
import Derived.Carry
namespace Go.Proofs.Ytjbaeibclcifmaa.valueChecks
open Go.ChangeShapes Go.WideShapes Go.ChangeAt Go.RowKit Go.Proofs.Ytjbaeibclcifmaa.Rd Go.Proofs.YtjbaeibclcifmaaW.PrintWords
open Go.ChangeMaps (open_string shut_string)
set_option linter.unusedVariables false
set_option linter.unusedSimpArgs false
theorem own : ownKnob Try.prog.godebug = none := by kernel_rfl
theorem laidOut : laidOutB Try.prog = true := by kernel_rfl
def Q3 (a : Int) : Prop := (Lit.int .i64 a).wf = true
theorem rd3 (w : World) : Rds Try.prog w 3 (Kd.int .i64) Q3 := rds_int Try.underlying3
def Q2 (a : Int) : Prop := (Lit.int .i64 a).wf = true
theorem rd2 (w : World) : Rds Try.prog w 2 (Kd.int .i64) Q2 := rds_int Try.underlying2
def Q9 (a : ByteArray) : Prop := a.size ≤ maxLen
theorem rd9 (w : World) : Rds Try.prog w 9 Kd.string Q9 := rds_string Try.underlying9
def Q24 (a : V.S24) : Prop := Q3 a.f0 ∧ Q2 a.f1 ∧ Q9 a.f2
theorem rd24 (w : World) : Rds Try.prog w 24 V.k24 Q24 :=
  rds_iso (Q := fun p => Q3 p.1 ∧ Q2 p.2.1 ∧ Q9 p.2.2) (fun x : V.S24 => (x.f0, x.f1, x.f2)) (fun p => ⟨p.1, p.2.1, p.2.2⟩) (fun _ => rfl) (rds_struct3 Try.underlying24 (by kernel_rfl) (by kernel_rfl) (by kernel_rfl) (by kernel_rfl) (rd3 w) (rd2 w) (rd9 w))
set_option maxRecDepth 100000 in
theorem lifted (os : Os) (started : os.Started) (H : Type) (enc : TypeId × Value → H) :
    ReturnsInHanded {} Try.checked os 4 .any (Rows.valueChecksSpec.pre6 enc Try.prog Try.f4 Rows.valueChecksRow.domain false) (Rows.valueChecksSpec.post enc Try.prog Try.f4 false true false false) := by
  refine returnsInHanded_of_change_sized (C := Try.checked) own started (by kernel_rfl) Try.func4
    (ChangeSpec.witness6 (enc := enc) (C := Try.checked) false ⟨#[], #[.agg #[.int .i64 0, .int .i64 0, .string ByteArray.empty]], []⟩ 8 (by kernel_rfl) (by kernel_rfl) (by kernel_rfl) (by kernel_rfl)) ?_
  intro W base args ds gs before hval0 hW hcnd hsz0 _
  have hsz : (DataW.weightsEach Try.prog (Try.f4.params.toList ++ Rows.valueChecksSpec.plain.varTypes Try.prog) (ds ++ gs)).all (· ≤ reachBytes) = true := hsz0
  have hval : ∀ (j : Nat) t v, Try.f4.params[j]? = some t → args[j]? = some v → Value.okWide Try.prog W .any base t v := hval0
  have hW' := hW
  obtain ⟨p, q, hA0, hV, rfl, hfz, hnd⟩ := hW
  have hA : DataW.TrodAll enc Try.prog W 0 (fun _ => true) true Try.f4.params.toList args.toList ds p := hA0
  rw [Try.params4] at hA hval hsz
  obtain ⟨v0, vs0, d0, ds0, p0, q0, hargs, rfl, rfl, h0, r0⟩ := trodAll_cons hA
  obtain ⟨rfl, rfl, rfl⟩ := trodAll_nil r0
  obtain rfl : args = #[v0] := by cases args; simp_all
  obtain ⟨rfl, rfl⟩ := trodVars_none hV
  obtain ⟨cs0, rfl, _⟩ := okWide_struct Try.underlying24 (hval 0 24 v0 rfl rfl)
  have lt0 := places_lt h0
  obtain ⟨⟨a0_0, a0_1, a0_2⟩, hk0, qs0⟩ := open_ag (rd24 W) h0
  have hk0' := V.k24_open hk0
  obtain rfl : cs0 = #[.int .i64 a0_0, .int .i64 a0_1, .string a0_2] := by cases cs0; simp_all
  clear hA0 hval0 hsz0
  obtain ⟨k, hP⟩ := ChecksPure a0_0 a0_1 a0_2
  refine (V.hasplaw02_ValueChecks.calls k a0_0 a0_1 a0_2 true W  hP).mono fun e W' ⟨he, bel0⟩ => ?_
  have bel : Below W.heap.size W W' := bel0
  subst he
  exact ⟨_, rfl, _, _, _, [], _, [], hW', trodAll_mk1 (shut_bool Try.underlying4 _), (trodAll_cons_mk (Below.trod laidOut (by kernel_rfl) (of_decide_eq_true (by kernel_rfl)) h0 bel lt0) trodAll_mk0), rfl, bel.frame _, fun h => by cases h⟩
theorem over : Rows.valueChecksRow.holds Try.pinned (OpenSpec.ofChange Rows.valueChecksSpec) :=
  OpenClaim.holds_of_wide 4 Try.f4 rfl rfl rfl rfl rfl rfl rfl ⟨rfl, rfl, rfl, rfl, rfl⟩ rfl rfl rfl rfl rfl (by kernel_rfl) Try.func4 (by kernel_rfl)
    (of_decide_eq_true (by kernel_rfl)) (by unfold Func.isWrapper; first | (rw [if_pos (by decide +kernel)]; kernel_rfl) | (rw [if_neg (by decide +kernel)]; exact ⟨rfl, rfl⟩))
    (fun os started H enc _ => lifted os started H enc)
theorem proved : Rows.ValueChecksSaid := over
#print axioms proved
end Go.Proofs.Ytjbaeibclcifmaa.valueChecks
namespace Go.Proofs.Ytjbaeibclcifmaa
/-- The row, under a short name, for the claim. -/
theorem valueChecks_holds : Rows.ValueChecksSaid := valueChecks.proved
end Go.Proofs.Ytjbaeibclcifmaa
