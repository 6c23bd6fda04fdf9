import Derived.Test.YtfnmploaklboiaaRows
import Derived.Test.YtfnmploaklboiaaZtD6
import Derived.Test.YtfnmploaklboiaaZtRd
import Derived.WalkKit
import Derived.ProofKit
import Derived.OpenShut
import Derived.ShutString
import Derived.ChangeOld
import Derived.Below
import Derived.SizedLaws
import Derived.Carry
/- The law CoverBare: a covered plan that opens a table is not covered any more without its locks: for every plan the call returns true. -/
namespace Go.Proofs.Ytfnmploaklboiaa.coverBare
open Go.ChangeShapes Go.WideShapes Go.ChangeAt Go.RowKit Go.Proofs.Ytfnmploaklboiaa.Rd Go.Proofs.YtfnmploaklboiaaW.PrintWords
open Go.ChangeMaps (open_string shut_string)
set_option linter.unusedVariables false
set_option linter.unusedSimpArgs false
theorem own : ownKnob Try.prog.godebug = none := by kernel_rfl
theorem laidOut : laidOutB Try.prog = true := by kernel_rfl
theorem right (W : World) (t : ByteArray) (Ad : Option Addr) (l : List A.S33) (c : Nat) (hC : Kd.C A.k33 W Ad l.length l) (hc : l.length ≤ c) (ht : t.size ≤ maxLen) (hl : l.length * 176 ≤ 140737488351232) (hq : ∀ x ∈ l, Q33 x) :
    Calls Try.prog 6 #[.agg #[.string t, .slice Ad l.length c]] W fun e w' => e = .returned (.bool true) ∧ Below W.heap.size W w' := by
  have hs : ∀ x ∈ l, x.f5.size ≤ maxLen ∧ -9223372036854775808 ≤ x.f1 ∧ x.f1 < 9223372036854775808 := by
    intro x hx
    obtain ⟨_, h1, _, _, _, h5, _⟩ := hq x hx
    refine ⟨h5, ?_⟩
    have e : IntKind.i64.min = -9223372036854775808 := by decide
    simp [Lit.wf] at h1
    omega
  exact bare_calls W t Ad l c hC hc hl ht hs fun xs hk ho => bare_no t l xs hk ho
set_option maxRecDepth 100000 in
theorem lifted (os : Os) (started : os.Started) (H : Type) (enc : TypeId × Value → H) :
    ReturnsInHanded {} Try.checked os 6 .any (Rows.coverBareSpec.pre6 enc Try.prog Try.f6 Rows.coverBareRow.domain false) (Rows.coverBareSpec.post enc Try.prog Try.f6 false true false false) := by
  refine returnsInHanded_of_change_sized (C := Try.checked) own started (by kernel_rfl) Try.func6
    (ChangeSpec.witness6 (enc := enc) (C := Try.checked) false ⟨#[], #[.agg #[.string ByteArray.empty, .slice none 0 0]], []⟩ 8 (by kernel_rfl) (by kernel_rfl) (by kernel_rfl) (by kernel_rfl)) ?_
  intro W base args ds gs before hval0 hW hcnd hsz0 _
  have hsz : (DataW.weightsEach Try.prog (Try.f6.params.toList ++ Rows.coverBareSpec.plain.varTypes Try.prog) (ds ++ gs)).all (· ≤ reachBytes) = true := hsz0
  have hval : ∀ (j : Nat) t v, Try.f6.params[j]? = some t → args[j]? = some v → Value.okWide Try.prog W .any base t v := hval0
  have hW' := hW
  obtain ⟨p, q, hA0, hV, rfl, hfz, hnd⟩ := hW
  have hA : DataW.TrodAll enc Try.prog W 0 (fun _ => true) true Try.f6.params.toList args.toList ds p := hA0
  rw [Try.params6] at hA hval hsz
  obtain ⟨v0, vs0, d0, ds0, p0, q0, hargs, rfl, rfl, h0, r0⟩ := trodAll_cons hA
  obtain ⟨rfl, rfl, rfl⟩ := trodAll_nil r0
  obtain rfl : args = #[v0] := by cases args; simp_all
  obtain ⟨rfl, rfl⟩ := trodVars_none hV
  obtain ⟨cs0, rfl, _⟩ := okWide_struct Try.underlying25 (hval 0 25 v0 rfl rfl)
  have lt0 := places_lt h0
  obtain ⟨t0, A0, l0, c0, rfl, ht0, hc0, hr0, hq0, hl0⟩ := open_plan hsz (j := 0) rfl rfl h0
  clear hA0 hval0 hsz0
  refine (right W t0 A0 l0 c0 hr0 hc0 ht0 hl0 hq0).mono fun e W' ⟨he, bel0⟩ => ?_
  have bel : Below W.heap.size W W' := bel0
  subst he
  exact ⟨_, rfl, _, _, _, [], _, [], hW', trodAll_mk1 (shut_bool Try.underlying4 _), (trodAll_cons_mk (Below.trod laidOut (by kernel_rfl) (of_decide_eq_true (by kernel_rfl)) h0 bel lt0) trodAll_mk0), rfl, bel.frame _, fun h => by cases h⟩
theorem over : Rows.coverBareRow.holds Try.pinned (OpenSpec.ofChange Rows.coverBareSpec) :=
  OpenClaim.holds_of_wide 6 Try.f6 rfl rfl rfl rfl rfl rfl rfl ⟨rfl, rfl, rfl, rfl, rfl⟩ rfl rfl rfl rfl rfl (by kernel_rfl) Try.func6 (by kernel_rfl)
    (of_decide_eq_true (by kernel_rfl)) (by unfold Func.isWrapper; first | (rw [if_pos (by decide +kernel)]; kernel_rfl) | (rw [if_neg (by decide +kernel)]; exact ⟨rfl, rfl⟩))
    (fun os started H enc _ => lifted os started H enc)
theorem proved : Rows.CoverBareSaid := over
#print axioms proved
end Go.Proofs.Ytfnmploaklboiaa.coverBare
namespace Go.Proofs.Ytfnmploaklboiaa
/-- The row, under a short name, for the claim. -/
theorem coverBare_holds : Rows.CoverBareSaid := coverBare.proved
end Go.Proofs.Ytfnmploaklboiaa
