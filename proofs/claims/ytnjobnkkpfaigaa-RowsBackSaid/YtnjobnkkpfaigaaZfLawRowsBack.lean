import Derived.Test.YtnjobnkkpfaigaaRows
import Derived.Test.YtnjobnkkpfaigaaZfP16
import Derived.Test.YtnjobnkkpfaigaaZfRd
import Derived.WalkKit
import Derived.ProofKit
import Derived.OpenShut
import Derived.ShutString
import Derived.ChangeOld
import Derived.Below
import Derived.SizedLaws
import Derived.Carry
/- The law RowsBack: for every input the call returns true. By a program of this session. -/
namespace Go.Proofs.Ytnjobnkkpfaigaa.rowsBack
open Go.ChangeShapes Go.WideShapes Go.ChangeAt Go.RowKit Go.Proofs.Ytnjobnkkpfaigaa.Rd Go.Proofs.YtnjobnkkpfaigaaW.PrintWords
open Go.ChangeMaps (open_string shut_string)
set_option linter.unusedVariables false
set_option linter.unusedSimpArgs false
theorem own : ownKnob Try.prog.godebug = none := by kernel_rfl
theorem laidOut : laidOutB Try.prog = true := by kernel_rfl
def Q9 (a : ByteArray) : Prop := a.size ≤ maxLen
theorem rd9 (w : World) : Rds Try.prog w 9 Kd.string Q9 := rds_string Try.underlying9
def Q3 (a : Int) : Prop := (Lit.int .i64 a).wf = true
theorem rd3 (w : World) : Rds Try.prog w 3 (Kd.int .i64) Q3 := rds_int Try.underlying3
def Q4 (a : Bool) : Prop := True
theorem rd4 (w : World) : Rds Try.prog w 4 Kd.bool Q4 := rds_bool Try.underlying4
def Q47 (a : A.S47) : Prop := Q9 a.f0 ∧ Q3 a.f1 ∧ Q4 a.f2
theorem rd47 (w : World) : Rds Try.prog w 47 A.k47 Q47 :=
  rds_iso (Q := fun p => Q9 p.1 ∧ Q3 p.2.1 ∧ Q4 p.2.2) (fun x : A.S47 => (x.f0, x.f1, x.f2)) (fun p => ⟨p.1, p.2.1, p.2.2⟩) (fun _ => rfl) (rds_struct3 Try.underlying47 (by kernel_rfl) (by kernel_rfl) (by kernel_rfl) (by kernel_rfl) (rd9 w) (rd3 w) (rd4 w))
def Q22 (a : (List A.S47)) : Prop := ∀ y ∈ a, Q47 y
theorem rd22 (w : World) : Rds Try.prog w 22 (Kd.slice 47 A.k47) Q22 := rds_slice Try.underlying22 (by kernel_rfl) (rd47 w)
def Q5 (a : Int) : Prop := (Lit.int .u8 a).wf = true
theorem rd5 (w : World) : Rds Try.prog w 5 (Kd.int .u8) Q5 := rds_int Try.underlying5
def Q27 (a : (List Int)) : Prop := ∀ y ∈ a, Q5 y
theorem rd27 (w : World) : Rds Try.prog w 27 (Kd.slice 5 (Kd.int .u8)) Q27 := rds_slice Try.underlying27 (by kernel_rfl) (rd5 w)
set_option maxRecDepth 100000 in
theorem lifted (os : Os) (started : os.Started) (H : Type) (enc : TypeId × Value → H) :
    ReturnsInHanded {} Try.checked os 6 .any (Rows.rowsBackSpec.pre6 enc Try.prog Try.f6 Rows.rowsBackRow.domain false) (Rows.rowsBackSpec.post enc Try.prog Try.f6 false true false false) := by
  refine returnsInHanded_of_change_sized (C := Try.checked) own started (by kernel_rfl) Try.func6
    (ChangeSpec.witness6 (enc := enc) (C := Try.checked) false ⟨#[], #[.slice none 0 0, .slice none 0 0], []⟩ 8 (by kernel_rfl) (by kernel_rfl) (by kernel_rfl) (by kernel_rfl)) ?_
  intro W base args ds gs before hval0 hW hcnd hsz0 _
  have hsz : (DataW.weightsEach Try.prog (Try.f6.params.toList ++ Rows.rowsBackSpec.plain.varTypes Try.prog) (ds ++ gs)).all (· ≤ reachBytes) = true := hsz0
  have hval : ∀ (j : Nat) t v, Try.f6.params[j]? = some t → args[j]? = some v → Value.okWide Try.prog W .any base t v := hval0
  have hW' := hW
  obtain ⟨p, q, hA0, hV, rfl, hfz, hnd⟩ := hW
  have hA : DataW.TrodAll enc Try.prog W 0 (fun _ => true) true Try.f6.params.toList args.toList ds p := hA0
  rw [Try.params6] at hA hval hsz
  obtain ⟨v0, vs0, d0, ds0, p0, q0, hargs, rfl, rfl, h0, r0⟩ := trodAll_cons hA
  obtain ⟨v1, vs1, d1, ds1, p1, q1, rfl, rfl, rfl, h1, r1⟩ := trodAll_cons r0
  obtain ⟨rfl, rfl, rfl⟩ := trodAll_nil r1
  obtain rfl : args = #[v0, v1] := by cases args; simp_all
  obtain ⟨rfl, rfl⟩ := trodVars_none hV
  obtain ⟨A0, n0, c0, rfl⟩ := okWide_slice Try.underlying22 (hval 0 22 v0 rfl rfl)
  have lt0 := places_lt h0
  obtain ⟨l0, rfl, hc0, hr0, qs0⟩ := open_sl (rd22 W) h0
  have hz0 := sized hsz (j := 0) rfl rfl Try.underlying22 (B := Try.prog.bytesOf 47) rfl h0
  rw [show Try.prog.bytesOf 47 = 32 from by kernel_rfl] at hz0
  obtain ⟨A1, n1, c1, rfl⟩ := okWide_slice Try.underlying27 (hval 1 27 v1 rfl rfl)
  have lt1 := places_lt h1
  obtain ⟨l1, rfl, hc1, hr1, qs1⟩ := open_sl (rd27 W) h1
  have hz1 := sized hsz (j := 1) rfl rfl Try.underlying27 (B := Try.prog.bytesOf 5) rfl h1
  rw [show Try.prog.bytesOf 5 = 1 from by kernel_rfl] at hz1
  clear hA0 hval0 hsz0
  obtain ⟨k, hP⟩ := BackPure l0 l1 (by have := hz0; unfold reachBytes at this; omega) (by have := hz1; unfold reachBytes at this; omega) (fun x hx => by have h := qs1 x hx; unfold Q5 Lit.wf at h; simp [IntKind.min, IntKind.max, IntKind.bits, IntKind.signed] at h; omega)
  refine (V.hasplaw06_RowsBack.calls k A0 c0 l0 A1 c1 l1 true W hr0 hc0 hr1 hc1 hP).mono fun e W' ⟨he, bel0⟩ => ?_
  have bel : Below W.heap.size W W' := bel0
  subst he
  exact ⟨_, rfl, _, _, _, [], _, [], hW', trodAll_mk1 (shut_bool Try.underlying4 _), (trodAll_cons_mk (Below.trod laidOut (by kernel_rfl) (of_decide_eq_true (by kernel_rfl)) h0 bel lt0) (trodAll_cons_mk (Below.trod laidOut (by kernel_rfl) (of_decide_eq_true (by kernel_rfl)) h1 bel lt1) trodAll_mk0)), rfl, bel.frame _, fun h => by cases h⟩
theorem over : Rows.rowsBackRow.holds Try.pinned (OpenSpec.ofChange Rows.rowsBackSpec) :=
  OpenClaim.holds_of_wide 6 Try.f6 rfl rfl rfl rfl rfl rfl rfl ⟨rfl, rfl, rfl, rfl, rfl⟩ rfl rfl rfl rfl rfl (by kernel_rfl) Try.func6 (by kernel_rfl)
    (of_decide_eq_true (by kernel_rfl)) (by unfold Func.isWrapper; first | (rw [if_pos (by decide +kernel)]; kernel_rfl) | (rw [if_neg (by decide +kernel)]; exact ⟨rfl, rfl⟩))
    (fun os started H enc _ => lifted os started H enc)
theorem proved : Rows.RowsBackSaid := over
#print axioms proved
end Go.Proofs.Ytnjobnkkpfaigaa.rowsBack
namespace Go.Proofs.Ytnjobnkkpfaigaa
/-- The row, under a short name, for the claim. -/
theorem rowsBack_holds : Rows.RowsBackSaid := rowsBack.proved
end Go.Proofs.Ytnjobnkkpfaigaa
