import Derived.Test.YtbdengnadgofmaaRows
import Derived.Test.YtbdengnadgofmaaZdP7
import Derived.Test.YtbdengnadgofmaaZdRd
import Derived.WalkKit
import Derived.ProofKit
import Derived.OpenShut
import Derived.ShutString
import Derived.ChangeOld
import Derived.Below
import Derived.SizedLaws
import Derived.Carry
/- The law ArithDoes: for every input the call returns true. By a program of this session. -/
namespace Go.Proofs.Ytbdengnadgofmaa.arithDoes
open Go.ChangeShapes Go.WideShapes Go.ChangeAt Go.RowKit Go.Proofs.Ytbdengnadgofmaa.Rd Go.Proofs.YtbdengnadgofmaaW.PrintWords
open Go.ChangeMaps (open_string shut_string)
set_option linter.unusedVariables false
set_option linter.unusedSimpArgs false
theorem own : ownKnob Try.prog.godebug = none := by kernel_rfl
theorem laidOut : laidOutB Try.prog = true := by kernel_rfl
def Q3 (a : Int) : Prop := (Lit.int .i64 a).wf = true
theorem rd3 (w : World) : Rds Try.prog w 3 (Kd.int .i64) Q3 := rds_int Try.underlying3
def Q2 (a : Int) : Prop := (Lit.int .i64 a).wf = true
theorem rd2 (w : World) : Rds Try.prog w 2 (Kd.int .i64) Q2 := rds_int Try.underlying2
def Q9 (a : ByteArray) : Prop := a.size ≤ maxLen
theorem rd9 (w : World) : Rds Try.prog w 9 Kd.string Q9 := rds_string Try.underlying9
def Q25 (a : V.S25) : Prop := Q3 a.f0 ∧ Q2 a.f1 ∧ Q9 a.f2
theorem rd25 (w : World) : Rds Try.prog w 25 V.k25 Q25 :=
  rds_iso (Q := fun p => Q3 p.1 ∧ Q2 p.2.1 ∧ Q9 p.2.2) (fun x : V.S25 => (x.f0, x.f1, x.f2)) (fun p => ⟨p.1, p.2.1, p.2.2⟩) (fun _ => rfl) (rds_struct3 Try.underlying25 (by kernel_rfl) (by kernel_rfl) (by kernel_rfl) (by kernel_rfl) (rd3 w) (rd2 w) (rd9 w))
def Q23 (a : (List V.S25)) : Prop := ∀ y ∈ a, Q25 y
theorem rd23 (w : World) : Rds Try.prog w 23 (Kd.slice 25 V.k25) Q23 := rds_slice Try.underlying23 (by kernel_rfl) (rd25 w)
set_option maxRecDepth 100000 in
theorem lifted (os : Os) (started : os.Started) (H : Type) (enc : TypeId × Value → H) :
    ReturnsInHanded {} Try.checked os 4 .any (Rows.arithDoesSpec.pre6 enc Try.prog Try.f4 Rows.arithDoesRow.domain false) (Rows.arithDoesSpec.post enc Try.prog Try.f4 false true false false) := by
  refine returnsInHanded_of_change_sized (C := Try.checked) own started (by kernel_rfl) Try.func4
    (ChangeSpec.witness6 (enc := enc) (C := Try.checked) false ⟨#[], #[.int .i64 0, .slice none 0 0], []⟩ 8 (by kernel_rfl) (by kernel_rfl) (by kernel_rfl) (by kernel_rfl)) ?_
  intro W base args ds gs before hval0 hW hcnd hsz0 _
  have hsz : (DataW.weightsEach Try.prog (Try.f4.params.toList ++ Rows.arithDoesSpec.plain.varTypes Try.prog) (ds ++ gs)).all (· ≤ reachBytes) = true := hsz0
  have hval : ∀ (j : Nat) t v, Try.f4.params[j]? = some t → args[j]? = some v → Value.okWide Try.prog W .any base t v := hval0
  have hW' := hW
  obtain ⟨p, q, hA0, hV, rfl, hfz, hnd⟩ := hW
  have hA : DataW.TrodAll enc Try.prog W 0 (fun _ => true) true Try.f4.params.toList args.toList ds p := hA0
  rw [Try.params4] at hA hval hsz
  obtain ⟨v0, vs0, d0, ds0, p0, q0, hargs, rfl, rfl, h0, r0⟩ := trodAll_cons hA
  obtain ⟨v1, vs1, d1, ds1, p1, q1, rfl, rfl, rfl, h1, r1⟩ := trodAll_cons r0
  obtain ⟨rfl, rfl, rfl⟩ := trodAll_nil r1
  obtain rfl : args = #[v0, v1] := by cases args; simp_all
  obtain ⟨rfl, rfl⟩ := trodVars_none hV
  obtain ⟨a0, rfl, rfl, rfl, w0⟩ := open_int Try.underlying3 (hval 0 3 v0 rfl rfl) h0
  obtain ⟨A1, n1, c1, rfl⟩ := okWide_slice Try.underlying23 (hval 1 23 v1 rfl rfl)
  have lt1 := places_lt h1
  obtain ⟨l1, rfl, hc1, hr1, qs1⟩ := open_sl (rd23 W) h1
  have hz1 := sized hsz (j := 1) rfl rfl Try.underlying23 (B := Try.prog.bytesOf 25) rfl h1
  rw [show Try.prog.bytesOf 25 = 32 from by kernel_rfl] at hz1
  clear hA0 hval0 hsz0
  obtain ⟨k, hP⟩ := DoesPure a0 w0 l1 hz1 qs1
  refine (V.hasplaw03_ArithDoes.calls k a0 A1 c1 l1 true W hr1 hc1 hP).mono fun e W' ⟨he, bel0⟩ => ?_
  have bel : Below W.heap.size W W' := bel0
  subst he
  exact ⟨_, rfl, _, _, _, [], _, [], hW', trodAll_mk1 (shut_bool Try.underlying4 _), (trodAll_cons_mk (shut_int Try.underlying3 w0) (trodAll_cons_mk (Below.trod laidOut (by kernel_rfl) (of_decide_eq_true (by kernel_rfl)) h1 bel lt1) trodAll_mk0)), rfl, bel.frame _, fun h => by cases h⟩
theorem over : Rows.arithDoesRow.holds Try.pinned (OpenSpec.ofChange Rows.arithDoesSpec) :=
  OpenClaim.holds_of_wide 4 Try.f4 rfl rfl rfl rfl rfl rfl rfl ⟨rfl, rfl, rfl, rfl, rfl⟩ rfl rfl rfl rfl rfl (by kernel_rfl) Try.func4 (by kernel_rfl)
    (of_decide_eq_true (by kernel_rfl)) (by unfold Func.isWrapper; first | (rw [if_pos (by decide +kernel)]; kernel_rfl) | (rw [if_neg (by decide +kernel)]; exact ⟨rfl, rfl⟩))
    (fun os started H enc _ => lifted os started H enc)
theorem proved : Rows.ArithDoesSaid := over
#print axioms proved
end Go.Proofs.Ytbdengnadgofmaa.arithDoes
namespace Go.Proofs.Ytbdengnadgofmaa
/-- The row, under a short name, for the claim. -/
theorem arithDoes_holds : Rows.ArithDoesSaid := arithDoes.proved
end Go.Proofs.Ytbdengnadgofmaa
