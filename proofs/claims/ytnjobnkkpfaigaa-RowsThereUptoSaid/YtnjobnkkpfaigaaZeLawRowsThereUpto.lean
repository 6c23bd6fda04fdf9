import Derived.Test.YtnjobnkkpfaigaaRows
import Derived.Test.YtnjobnkkpfaigaaZeP15
import Derived.Test.YtnjobnkkpfaigaaZeRd
import Derived.WalkKit
import Derived.Deep.CondSized
import Derived.Test.YtnjobnkkpfaigaaZeBulk
import Derived.ProofKit
import Derived.OpenShut
import Derived.ShutString
import Derived.ChangeOld
import Derived.Below
import Derived.SizedLaws
import Derived.Carry
/- The law RowsThere: for every input the call returns true. By a program of this session. -/
namespace Go.Proofs.Ytnjobnkkpfaigaa.rowsThere
open Go.ChangeShapes Go.WideShapes Go.ChangeAt Go.RowKit Go.Proofs.Ytnjobnkkpfaigaa.Rd Go.Proofs.YtnjobnkkpfaigaaW.PrintWords
open Go.ChangeMaps (open_string shut_string)
set_option linter.unusedVariables false
set_option linter.unusedSimpArgs false
theorem own : ownKnob Try.prog.godebug = none := by kernel_rfl
theorem laidOut : laidOutB Try.prog = true := by kernel_rfl
def Q9 (a : ByteArray) : Prop := a.size ≤ maxLen
theorem rd9 (w : World) : Rds Try.prog w 9 Kd.string Q9 := rds_string Try.underlying9
def Q3 (a : Int) : Prop := (Lit.int .i64 a).wf = true
theorem rd3 (w : World) : Rds Try.prog w 3 (Kd.int .i64) Q3 := rds_int Try.underlying3
def Q4 (a : Bool) : Prop := True
theorem rd4 (w : World) : Rds Try.prog w 4 Kd.bool Q4 := rds_bool Try.underlying4
def Q47 (a : A.S47) : Prop := Q9 a.f0 ∧ Q3 a.f1 ∧ Q4 a.f2
theorem rd47 (w : World) : Rds Try.prog w 47 A.k47 Q47 :=
  rds_iso (Q := fun p => Q9 p.1 ∧ Q3 p.2.1 ∧ Q4 p.2.2) (fun x : A.S47 => (x.f0, x.f1, x.f2)) (fun p => ⟨p.1, p.2.1, p.2.2⟩) (fun _ => rfl) (rds_struct3 Try.underlying47 (by kernel_rfl) (by kernel_rfl) (by kernel_rfl) (by kernel_rfl) (rd9 w) (rd3 w) (rd4 w))
def Q22 (a : (List A.S47)) : Prop := ∀ y ∈ a, Q47 y
theorem rd22 (w : World) : Rds Try.prog w 22 (Kd.slice 47 A.k47) Q22 := rds_slice Try.underlying22 (by kernel_rfl) (rd47 w)
def Q2 (a : Int) : Prop := (Lit.int .i64 a).wf = true
theorem rd2 (w : World) : Rds Try.prog w 2 (Kd.int .i64) Q2 := rds_int Try.underlying2
def Q43 (a : A.S43) : Prop := Q3 a.f0 ∧ Q2 a.f1 ∧ Q9 a.f2
theorem rd43 (w : World) : Rds Try.prog w 43 A.k43 Q43 :=
  rds_iso (Q := fun p => Q3 p.1 ∧ Q2 p.2.1 ∧ Q9 p.2.2) (fun x : A.S43 => (x.f0, x.f1, x.f2)) (fun p => ⟨p.1, p.2.1, p.2.2⟩) (fun _ => rfl) (rds_struct3 Try.underlying43 (by kernel_rfl) (by kernel_rfl) (by kernel_rfl) (by kernel_rfl) (rd3 w) (rd2 w) (rd9 w))
def Q23 (a : (List A.S43)) : Prop := ∀ y ∈ a, Q43 y
theorem rd23 (w : World) : Rds Try.prog w 23 (Kd.slice 43 A.k43) Q23 := rds_slice Try.underlying23 (by kernel_rfl) (rd43 w)
def Q5 (a : Int) : Prop := (Lit.int .u8 a).wf = true
theorem rd5 (w : World) : Rds Try.prog w 5 (Kd.int .u8) Q5 := rds_int Try.underlying5
set_option maxRecDepth 100000 in
theorem lifted (os : Os) (started : os.Started) (H : Type) (enc : TypeId × Value → H) (F : Stop.Interp) :
    ReturnsInHanded {} Try.checked os 5 .any ((Rows.OpenSpec.upto Rows.rowsThereSpec).pre6 enc Try.prog Try.f5 Rows.rowsThereUptoRow.domain false) (((Rows.OpenSpec.upto Rows.rowsThereSpec).at F).post enc Try.prog Try.f5 false true false false) := by
  refine returnsInHanded_of_cond_sized (C := Try.checked) (s := (Rows.OpenSpec.upto Rows.rowsThereSpec)) (k := Rows.uptoSmall) rfl own started (by kernel_rfl) Try.func5
    (OpenSpec.witness (enc := enc) (C := Try.checked) (s := (Rows.OpenSpec.upto Rows.rowsThereSpec)) (k := Rows.uptoSmall) rfl false ⟨#[], #[.slice none 0 0, .slice none 0 0, .int .u8 0], []⟩ 8 (by kernel_rfl) (by kernel_rfl) (by kernel_rfl) (x := ([.nil, .nil, .lit (.int .u8 0)], [], [])) (by kernel_rfl) rfl (by kernel_rfl)) ?_
  intro W base args ds gs before hval0 hW hcnd hk hsz0 _
  have hsz : (DataW.weightsEach Try.prog (Try.f5.params.toList ++ (Rows.OpenSpec.upto Rows.rowsThereSpec).bare.plain.varTypes Try.prog) (ds ++ gs)).all (· ≤ reachBytes) = true := hsz0
  have hval : ∀ (j : Nat) t v, Try.f5.params[j]? = some t → args[j]? = some v → Value.okWide Try.prog W .any base t v := hval0
  have hW' := hW
  obtain ⟨p, q, hA0, hV, rfl, hfz, hnd⟩ := hW
  have hA : DataW.TrodAll enc Try.prog W 0 (fun _ => true) true Try.f5.params.toList args.toList ds p := hA0
  rw [Try.params5] at hA hval hsz
  obtain ⟨v0, vs0, d0, ds0, p0, q0, hargs, rfl, rfl, h0, r0⟩ := trodAll_cons hA
  obtain ⟨v1, vs1, d1, ds1, p1, q1, rfl, rfl, rfl, h1, r1⟩ := trodAll_cons r0
  obtain ⟨v2, vs2, d2, ds2, p2, q2, rfl, rfl, rfl, h2, r2⟩ := trodAll_cons r1
  obtain ⟨rfl, rfl, rfl⟩ := trodAll_nil r2
  obtain rfl : args = #[v0, v1, v2] := by cases args; simp_all
  obtain ⟨rfl, rfl⟩ := trodVars_none hV
  obtain ⟨A0, n0, c0, rfl⟩ := okWide_slice Try.underlying22 (hval 0 22 v0 rfl rfl)
  have lt0 := places_lt h0
  obtain ⟨l0, rfl, hc0, hr0, qs0⟩ := open_sl (rd22 W) h0
  have hz0 := sized hsz (j := 0) rfl rfl Try.underlying22 (B := Try.prog.bytesOf 47) rfl h0
  rw [show Try.prog.bytesOf 47 = 32 from by kernel_rfl] at hz0
  obtain ⟨A1, n1, c1, rfl⟩ := okWide_slice Try.underlying23 (hval 1 23 v1 rfl rfl)
  have lt1 := places_lt h1
  obtain ⟨l1, rfl, hc1, hr1, qs1⟩ := open_sl (rd23 W) h1
  have hz1 := sized hsz (j := 1) rfl rfl Try.underlying23 (B := Try.prog.bytesOf 43) rfl h1
  rw [show Try.prog.bytesOf 43 = 32 from by kernel_rfl] at hz1
  obtain ⟨a2, rfl, rfl, rfl, w2⟩ := open_int Try.underlying5 (hval 2 5 v2 rfl rfl) h2
  have hk0 : Rows.uptoBulkAll _ ≤ 1048576 := of_decide_eq_true hk
  simp only [List.cons_append, List.nil_append, List.append_nil, Rows.uptoBulkAll] at hk0
  clear hA0 hval0 hsz0
  have hb1 := Bulks.bulk_len Try.underlying23 h1
  obtain ⟨k, hP⟩ := TherePure l0 l1 a2 (by have := hz0; unfold reachBytes at this; omega) (by omega) (fun v hv => by have h := (qs1 v hv).2.1; unfold Q2 Lit.wf at h; simp [IntKind.min, IntKind.max, IntKind.bits, IntKind.signed] at h; exact ⟨by omega, by omega⟩) (by have h := w2; unfold Lit.wf at h; simp [IntKind.min, IntKind.max, IntKind.bits, IntKind.signed] at h; omega)
  refine (V.hasplaw06_RowsThere.calls k A0 c0 l0 A1 c1 l1 a2 true W hr0 hc0 hr1 hc1 hP).mono fun e W' ⟨he, bel0⟩ => ?_
  have bel : Below W.heap.size W W' := bel0
  subst he
  exact ⟨_, rfl, _, _, _, [], _, [], hW', trodAll_mk1 (shut_bool Try.underlying4 _), (trodAll_cons_mk (Below.trod laidOut (by kernel_rfl) (of_decide_eq_true (by kernel_rfl)) h0 bel lt0) (trodAll_cons_mk (Below.trod laidOut (by kernel_rfl) (of_decide_eq_true (by kernel_rfl)) h1 bel lt1) (trodAll_cons_mk (shut_int Try.underlying5 w2) trodAll_mk0))), rfl, bel.frame _, fun h => by cases h⟩
theorem over : Rows.rowsThereUptoRow.holds Try.pinned (Rows.OpenSpec.upto Rows.rowsThereSpec) :=
  OpenClaim.holds_of_cond 5 Try.f5 rfl rfl rfl rfl rfl rfl rfl ⟨rfl, rfl, rfl, rfl, rfl⟩ rfl rfl rfl rfl rfl (by kernel_rfl) Try.func5 (by kernel_rfl)
    (of_decide_eq_true (by kernel_rfl)) (by unfold Func.isWrapper; first | (rw [if_pos (by decide +kernel)]; kernel_rfl) | (rw [if_neg (by decide +kernel)]; exact ⟨rfl, rfl⟩))
    (fun os started H enc _ F => lifted os started H enc F)
theorem proved : Rows.RowsThereUptoSaid := over
#print axioms proved
end Go.Proofs.Ytnjobnkkpfaigaa.rowsThere
namespace Go.Proofs.Ytnjobnkkpfaigaa
/-- The row, under a short name, for the claim. -/
theorem rowsThere_holds : Rows.RowsThereUptoSaid := rowsThere.proved
end Go.Proofs.Ytnjobnkkpfaigaa
