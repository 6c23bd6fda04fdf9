import Derived.Test.YtgbjilcfgpbcgaaRows
import Derived.Test.YtgbjilcfgpbcgaaZpH35
import Derived.Test.YtgbjilcfgpbcgaaZpRw
import Derived.WalkKit
import Derived.ProofKit
import Derived.OpenShut
import Derived.ShutString
import Derived.ChangeOld
import Derived.Below
import Derived.SizedLaws
import Derived.Carry
/- The law HeapPlays: for every input the call returns true. -/
namespace Go.Proofs.Ytgbjilcfgpbcgaa.heapPlays
open Go.ChangeShapes Go.WideShapes Go.ChangeAt Go.RowKit Go.Proofs.Ytgbjilcfgpbcgaa.Rd Go.Proofs.YtgbjilcfgpbcgaaW.PrintWords
open Go.ChangeMaps (open_string shut_string)
set_option linter.unusedVariables false
set_option linter.unusedSimpArgs false
theorem own : ownKnob Try.prog.godebug = none := by kernel_rfl
theorem laidOut : laidOutB Try.prog = true := by kernel_rfl
theorem i64_of {x : Int} (h : (Lit.int .i64 x).wf = true) : I64 x := by
  simp [Lit.wf, IntKind.min, IntKind.max, IntKind.bits, IntKind.signed] at h
  exact ⟨by omega, by omega⟩
theorem rd38 (w : World) : RdsW Try.prog w 38 k38 (fun x => (Lit.int .i64 x.f0).wf = true ∧ (Lit.int .i64 x.f1).wf = true ∧ (x.f2.length * Try.prog.bytesOf 5 ≤ reachBytes ∧ ∀ a ∈ x.f2, (Lit.int .u8 a).wf = true)) :=
  rdsW_iso (Q := fun p => (Lit.int .i64 p.1).wf = true ∧ (Lit.int .i64 p.2.1).wf = true ∧ (p.2.2.length * Try.prog.bytesOf 5 ≤ reachBytes ∧ ∀ a ∈ p.2.2, (Lit.int .u8 a).wf = true)) (fun x : S38 => (x.f0, x.f1, x.f2)) (fun p => ⟨p.1, p.2.1, p.2.2⟩) (fun _ => rfl)
    (rdsW_struct (tot := 3) Try.underlying38 (by kernel_rfl) (fldsW_cons rfl (by kernel_rfl : 1 = _) (rdsW_int Try.underlying3) (fldsW_cons rfl (by kernel_rfl : 2 = _) (rdsW_int Try.underlying3) (fldsW_one rfl (by kernel_rfl) (rdsW_slice Try.underlying27 (by kernel_rfl) (rdsW_int Try.underlying5))))))
theorem rd36 (w : World) : RdsW Try.prog w 36 (Kd.slice 38 k38) (fun l => l.length * Try.prog.bytesOf 38 ≤ reachBytes ∧ ∀ x ∈ l, (Lit.int .i64 x.f0).wf = true ∧ (Lit.int .i64 x.f1).wf = true ∧ (x.f2.length * Try.prog.bytesOf 5 ≤ reachBytes ∧ ∀ a ∈ x.f2, (Lit.int .u8 a).wf = true)) := rdsW_slice Try.underlying36 (by kernel_rfl) (rd38 w)
set_option maxRecDepth 100000 in
theorem lifted (os : Os) (started : os.Started) (H : Type) (enc : TypeId × Value → H) :
    ReturnsInHanded {} Try.checked os 5 .any (Rows.heapPlaysSpec.pre6 enc Try.prog Try.f5 Rows.heapPlaysRow.domain false) (Rows.heapPlaysSpec.post enc Try.prog Try.f5 false true false false) := by
  refine returnsInHanded_of_change_sized (C := Try.checked) own started (by kernel_rfl) Try.func5
    (ChangeSpec.witness6 (enc := enc) (C := Try.checked) false ⟨#[], #[.slice none 0 0], []⟩ 8 (by kernel_rfl) (by kernel_rfl) (by kernel_rfl) (by kernel_rfl)) ?_
  intro W base args ds gs before hval0 hW hcnd hsz0 _
  have hsz : (DataW.weightsEach Try.prog (Try.f5.params.toList ++ Rows.heapPlaysSpec.plain.varTypes Try.prog) (ds ++ gs)).all (· ≤ reachBytes) = true := hsz0
  have hval : ∀ (j : Nat) t v, Try.f5.params[j]? = some t → args[j]? = some v → Value.okWide Try.prog W .any base t v := hval0
  have hW' := hW
  obtain ⟨p, q, hA0, hV, rfl, hfz, hnd⟩ := hW
  have hA : DataW.TrodAll enc Try.prog W 0 (fun _ => true) true Try.f5.params.toList args.toList ds p := hA0
  rw [Try.params5] at hA hval hsz
  obtain ⟨v0, vs0, d0, ds0, p0, q0, hargs, rfl, rfl, h0, r0⟩ := trodAll_cons hA
  obtain ⟨rfl, rfl, rfl⟩ := trodAll_nil r0
  obtain rfl : args = #[v0] := by cases args; simp_all
  obtain ⟨rfl, rfl⟩ := trodVars_none hV
  obtain ⟨A0, n0, c0, rfl⟩ := okWide_slice Try.underlying36 (hval 0 36 v0 rfl rfl)
  have lt0 := places_lt h0
  obtain ⟨l0, hl0, hc0, hr0, hz0, hq0⟩ := open_slW (rd36 W) hsz (j := 0) rfl rfl h0
  rw [show Try.prog.bytesOf 38 = 40 from by kernel_rfl] at hz0
  have hn0 : n0 ≤ 3600000000000 := by unfold reachBytes at hz0; omega
  have hx0 : ∀ x ∈ l0, Q38 x := fun x hx => by
    obtain ⟨a, b, hc, _⟩ := hq0 x hx
    rw [show Try.prog.bytesOf 5 = 1 from by kernel_rfl] at hc
    exact ⟨i64_of a, i64_of b, by unfold reachBytes at hc; omega⟩
  clear hA0 hval0 hsz0
  refine (plays_calls W A0 l0 n0 c0 hr0 hl0 hc0 hn0 hx0).mono fun e W' ⟨he, bel0⟩ => ?_
  have bel : Below W.heap.size W W' := bel0
  subst he
  exact ⟨_, rfl, _, _, _, [], _, [], hW', trodAll_mk1 (shut_bool Try.underlying4 _), (trodAll_cons_mk (Below.trod laidOut (by kernel_rfl) (of_decide_eq_true (by kernel_rfl)) h0 bel lt0) trodAll_mk0), rfl, bel.frame _, fun h => by cases h⟩
theorem over : Rows.heapPlaysRow.holds Try.pinned (OpenSpec.ofChange Rows.heapPlaysSpec) :=
  OpenClaim.holds_of_wide 5 Try.f5 rfl rfl rfl rfl rfl rfl rfl ⟨rfl, rfl, rfl, rfl, rfl⟩ rfl rfl rfl rfl rfl (by kernel_rfl) Try.func5 (by kernel_rfl)
    (of_decide_eq_true (by kernel_rfl)) (by unfold Func.isWrapper; first | (rw [if_pos (by decide +kernel)]; kernel_rfl) | (rw [if_neg (by decide +kernel)]; exact ⟨rfl, rfl⟩))
    (fun os started H enc _ => lifted os started H enc)
theorem proved : Rows.HeapPlaysSaid := over
#print axioms proved
end Go.Proofs.Ytgbjilcfgpbcgaa.heapPlays
namespace Go.Proofs.Ytgbjilcfgpbcgaa
/-- The row, under a short name, for the claim. -/
theorem heapPlays_holds : Rows.HeapPlaysSaid := heapPlays.proved
end Go.Proofs.Ytgbjilcfgpbcgaa
