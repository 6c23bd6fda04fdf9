/- The law KeysDecodes: for every input the call returns true. By a program of this session. -/
import Derived.Test.YthoemenchimggaaDoorRows
import Derived.Test.YthoemenchimggaaDoorPu
import Derived.Test.YthoemenchimggaaDoorRd
import Derived.Test.YthoemenchimggaaDoorCards
import Derived.Test.YthoemenchimggaaDoorTie
import Derived.LaidMore
import Derived.LaidLaws
import Derived.SevenTiedAt
import Derived.Stop.Joined
import Derived.WalkKit
import Derived.Deep.CondSized
import Derived.Lay
import Derived.MakeChecks
import Derived.Test.YthoemenchimggaaDoorBulk
import Derived.Test.YthoemenchimggaaDoorCl
import Derived.ProofKit
import Derived.OpenShut
import Derived.ShutString
import Derived.ChangeOld
import Derived.Below
import Derived.SizedLaws
import Derived.Carry
namespace Go.Proofs.YthoemenchimggaaDoor.keysDecodes
open Go.ChangeShapes Go.WideShapes Go.ChangeAt Go.RowKit Go.Proofs.YthoemenchimggaaDoor.Rd Go.Proofs.YthoemenchimggaaDoorW.PrintWords
open Go.ChangeMaps (open_string shut_string)
set_option linter.unusedVariables false
set_option linter.unusedSimpArgs false
theorem own : ownKnob Tryd.prog.godebug = none := by kernel_rfl
theorem laidOut : laidOutB Tryd.prog = true := by kernel_rfl
def Q5 (a : Int) : Prop := (Lit.int .u8 a).wf = true
theorem rd5 (w : World) : Rds Tryd.prog w 5 (Kd.int .u8) Q5 := rds_int Tryd.underlying5
def Q25 (a : (List Int)) : Prop := ∀ y ∈ a, Q5 y
theorem rd25 (w : World) : Rds Tryd.prog w 25 (Kd.slice 5 (Kd.int .u8)) Q25 := rds_slice Tryd.underlying25 (by kernel_rfl) (rd5 w)
abbrev laidL : List (String × DataW Unit) := [("unicode/utf8.acceptRanges", Rows.laid_unicode_utf8_acceptRanges), ("unicode/utf8.first", Rows.laid_unicode_utf8_first)]
set_option maxRecDepth 100000 in
theorem lifted (os : Os) (started : os.Started) (H : Type) (enc : TypeId × Value → H) (F : Stop.Interp) :
    ReturnsInHanded {} Tryd.checked os 4 .any (fun w args => ((Rows.OpenSpec.upto Rows.keysDecodesSpec).pre enc Tryd.prog Tryd.f4 [] false w args ∧ laidMetH Tryd.prog laidL w) ∧ sizedMet enc Tryd.prog Tryd.f4 (Rows.OpenSpec.upto Rows.keysDecodesSpec) false w args) (((Rows.OpenSpec.upto Rows.keysDecodesSpec).at F).post enc Tryd.prog Tryd.f4 false true false false) := by
  refine Cl.returns_cond_laid (C := Tryd.checked) (s := (Rows.OpenSpec.upto Rows.keysDecodesSpec)) (k := Rows.uptoSmall) rfl (X := fun w => laidMetH Tryd.prog laidL w) own started (by kernel_rfl) Tryd.func4
    (Cl.witness_laid (enc := enc) (C := Tryd.checked) (os := os) (s := (Rows.OpenSpec.upto Rows.keysDecodesSpec)) (k := Rows.uptoSmall) rfl (X := fun w => laidMetH Tryd.prog laidL w) false (World.laidAll Tryd.prog os laidL) #[.slice none 0 0] 8 (World.laidAll_os _ _ _) (World.shaped_of_ZipB (by kernel_rfl) (by kernel_rfl)) (by kernel_rfl) (x := ([.nil], [], [])) (by kernel_rfl) rfl (by kernel_rfl) (by kernel_rfl) (by show laidMetH Tryd.prog laidL _; rw [MakeChecks.laidMetH_plain _ _ _ (by kernel_rfl)]; exact laidMet_laidAll _ (by kernel_rfl) (by kernel_rfl))) ?_
  intro W base args ds gs before hval0 hW hcnd hk hsz0 _
  have hsz : (DataW.weightsEach Tryd.prog (Tryd.f4.params.toList ++ (Rows.OpenSpec.upto Rows.keysDecodesSpec).bare.plain.varTypes Tryd.prog) (ds ++ gs)).all (· ≤ reachBytes) = true := hsz0
  have hval : ∀ (j : Nat) t v, Tryd.f4.params[j]? = some t → args[j]? = some v → Value.okWide Tryd.prog W .any base t v := hval0
  have hW' := hW
  obtain ⟨p, q, hA0, hV, rfl, hfz, hnd⟩ := hW
  have hA : DataW.TrodAll enc Tryd.prog W 0 (fun _ => true) true Tryd.f4.params.toList args.toList ds p := hA0
  rw [Tryd.params4] at hA hval hsz
  obtain ⟨v0, vs0, d0, ds0, p0, q0, hargs, rfl, rfl, h0, r0⟩ := trodAll_cons hA
  obtain ⟨rfl, rfl, rfl⟩ := trodAll_nil r0
  obtain rfl : args = #[v0] := by cases args; simp_all
  obtain ⟨rfl, rfl⟩ := trodVars_none hV
  obtain ⟨A0, n0, c0, rfl⟩ := okWide_slice Tryd.underlying25 (hval 0 25 v0 rfl rfl)
  have lt0 := places_lt h0
  obtain ⟨l0, rfl, hc0, hr0, qs0⟩ := open_sl (rd25 W) h0
  have hz0 := sized hsz (j := 0) rfl rfl Tryd.underlying25 (B := Tryd.prog.bytesOf 5) rfl h0
  rw [show Tryd.prog.bytesOf 5 = 1 from by kernel_rfl] at hz0
  have hk0 : Rows.uptoBulkAll _ ≤ 1048576 := of_decide_eq_true hk
  simp only [List.cons_append, List.nil_append, List.append_nil, Rows.uptoBulkAll] at hk0
  have hb0 := Bulks.bulk_len Tryd.underlying25 h0
  clear hA0 hval0 hsz0
  obtain ⟨k, hP⟩ := DecodesPure l0 (by omega) (fun v hv => by have h := qs0 v hv; unfold Q5 Lit.wf at h; simp [IntKind.min, IntKind.max, IntKind.bits, IntKind.signed] at h; exact ⟨by omega, by omega⟩)
  refine (V.hasplaw05_KeysDecodes.calls k A0 c0 l0 true W hr0 hc0 hP).mono fun e W' ⟨he, bel0⟩ => ?_
  have bel : Below W.heap.size W W' := bel0
  subst he
  exact ⟨_, rfl, _, _, _, [], _, [], hW', trodAll_mk1 (shut_bool Tryd.underlying4 _), (trodAll_cons_mk (Below.trod laidOut (by kernel_rfl) (of_decide_eq_true (by kernel_rfl)) h0 bel lt0) trodAll_mk0), rfl, bel.frame _, fun h => by cases h⟩
theorem over : Rows.keysDecodesUptoRow.holds Tryd.pinned (Rows.OpenSpec.upto Rows.keysDecodesSpec) :=
  OpenClaim.holds_of_cond 4 Tryd.f4 rfl rfl rfl rfl rfl rfl rfl ⟨rfl, rfl, rfl, rfl, rfl⟩ rfl rfl rfl rfl rfl (by kernel_rfl) Tryd.func4 (by kernel_rfl)
    (of_decide_eq_true (by kernel_rfl)) (by unfold Func.isWrapper; first | (rw [if_pos (by decide +kernel)]; kernel_rfl) | (rw [if_neg (by decide +kernel)]; exact ⟨rfl, rfl⟩))
    (fun os started H enc _ F => lifted os started H enc F)
theorem proved : Rows.KeysDecodesUptoCardSaid :=
  Claim7.holds_tied_plain_at .later [] [.data, .pinned] true (true, "545723e72fb4328b2d4deccbff0b5bd97e75904602dd8cf08d5f60fc7490dc1a") true
    over (fun _ h => by cases h) (by kernel_rfl) (fun _ h => by cases h) keysDecodesUpto_row_tie rfl ⟨rfl, rfl⟩ (by kernel_rfl) rfl
    (fun f fn hf hfn => by
      obtain rfl : f = 4 := Option.some.inj ((show Tryd.prog.funcNamed "hasp/hasplaw05.KeysDecodes" = some 4 by kernel_rfl).symm.trans hf) |>.symm
      obtain rfl : fn = Tryd.f4 := (Option.some.inj (Tryd.func4.symm.trans hfn)).symm
      exact ⟨by kernel_rfl, fun j t ht => by
        rw [Tryd.params4] at ht
        have hm : t ∈ [25] := by simpa using Array.mem_of_getElem? ht
        have hall : ([25].all fun u => !Tryd.prog.wantsStandIn u) = true := by kernel_rfl
        exact (show Tryd.prog.wantsStandIn t = false by simpa using List.all_eq_true.1 hall t hm)⟩)
    (by kernel_rfl)
#print axioms proved
end Go.Proofs.YthoemenchimggaaDoor.keysDecodes
