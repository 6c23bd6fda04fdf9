/- The law KeysThere: for every input the call returns true. By a program of this session. -/
import Derived.Test.YthoemenchimggaaDoorRows
import Derived.Test.YthoemenchimggaaDoorPs
import Derived.Test.YthoemenchimggaaDoorRd
import Derived.Test.YthoemenchimggaaDoorCards
import Derived.Test.YthoemenchimggaaDoorTie
import Derived.LaidMore
import Derived.LaidLaws
import Derived.SevenTiedAt
import Derived.Stop.Joined
import Derived.WalkKit
import Derived.Deep.CondSized
import Derived.Lay
import Derived.MakeChecks
import Derived.Test.YthoemenchimggaaDoorBulk
import Derived.Test.YthoemenchimggaaDoorCl
import Derived.ProofKit
import Derived.OpenShut
import Derived.ShutString
import Derived.ChangeOld
import Derived.Below
import Derived.SizedLaws
import Derived.Carry
namespace Go.Proofs.YthoemenchimggaaDoor.keysThere
open Go.ChangeShapes Go.WideShapes Go.ChangeAt Go.RowKit Go.Proofs.YthoemenchimggaaDoor.Rd Go.Proofs.YthoemenchimggaaDoorW.PrintWords
open Go.ChangeMaps (open_string shut_string)
set_option linter.unusedVariables false
set_option linter.unusedSimpArgs false
theorem own : ownKnob Tryd.prog.godebug = none := by kernel_rfl
theorem laidOut : laidOutB Tryd.prog = true := by kernel_rfl
def Q3 (a : Int) : Prop := (Lit.int .i64 a).wf = true
theorem rd3 (w : World) : Rds Tryd.prog w 3 (Kd.int .i64) Q3 := rds_int Tryd.underlying3
def Q2 (a : Int) : Prop := (Lit.int .i64 a).wf = true
theorem rd2 (w : World) : Rds Tryd.prog w 2 (Kd.int .i64) Q2 := rds_int Tryd.underlying2
def Q9 (a : ByteArray) : Prop := a.size ≤ maxLen
theorem rd9 (w : World) : Rds Tryd.prog w 9 Kd.string Q9 := rds_string Tryd.underlying9
def Q35 (a : A.S35) : Prop := Q3 a.f0 ∧ Q2 a.f1 ∧ Q9 a.f2
theorem rd35 (w : World) : Rds Tryd.prog w 35 A.k35 Q35 :=
  rds_iso (Q := fun p => Q3 p.1 ∧ Q2 p.2.1 ∧ Q9 p.2.2) (fun x : A.S35 => (x.f0, x.f1, x.f2)) (fun p => ⟨p.1, p.2.1, p.2.2⟩) (fun _ => rfl) (rds_struct3 Tryd.underlying35 (by kernel_rfl) (by kernel_rfl) (by kernel_rfl) (by kernel_rfl) (rd3 w) (rd2 w) (rd9 w))
def Q22 (a : (List A.S35)) : Prop := ∀ y ∈ a, Q35 y
theorem rd22 (w : World) : Rds Tryd.prog w 22 (Kd.slice 35 A.k35) Q22 := rds_slice Tryd.underlying22 (by kernel_rfl) (rd35 w)
abbrev laidL : List (String × DataW Unit) := [("unicode/utf8.acceptRanges", Rows.laid_unicode_utf8_acceptRanges), ("unicode/utf8.first", Rows.laid_unicode_utf8_first)]
set_option maxRecDepth 100000 in
theorem lifted (os : Os) (started : os.Started) (H : Type) (enc : TypeId × Value → H) (F : Stop.Interp) :
    ReturnsInHanded {} Tryd.checked os 5 .any (fun w args => ((Rows.OpenSpec.upto Rows.keysThereSpec).pre enc Tryd.prog Tryd.f5 [] false w args ∧ laidMetH Tryd.prog laidL w) ∧ sizedMet enc Tryd.prog Tryd.f5 (Rows.OpenSpec.upto Rows.keysThereSpec) false w args) (((Rows.OpenSpec.upto Rows.keysThereSpec).at F).post enc Tryd.prog Tryd.f5 false true false false) := by
  refine Cl.returns_cond_laid (C := Tryd.checked) (s := (Rows.OpenSpec.upto Rows.keysThereSpec)) (k := Rows.uptoSmall) rfl (X := fun w => laidMetH Tryd.prog laidL w) own started (by kernel_rfl) Tryd.func5
    (Cl.witness_laid (enc := enc) (C := Tryd.checked) (os := os) (s := (Rows.OpenSpec.upto Rows.keysThereSpec)) (k := Rows.uptoSmall) rfl (X := fun w => laidMetH Tryd.prog laidL w) false (World.laidAll Tryd.prog os laidL) #[.slice none 0 0] 8 (World.laidAll_os _ _ _) (World.shaped_of_ZipB (by kernel_rfl) (by kernel_rfl)) (by kernel_rfl) (x := ([.nil], [], [])) (by kernel_rfl) rfl (by kernel_rfl) (by kernel_rfl) (by show laidMetH Tryd.prog laidL _; rw [MakeChecks.laidMetH_plain _ _ _ (by kernel_rfl)]; exact laidMet_laidAll _ (by kernel_rfl) (by kernel_rfl))) ?_
  intro W base args ds gs before hval0 hW hcnd hk hsz0 _
  have hsz : (DataW.weightsEach Tryd.prog (Tryd.f5.params.toList ++ (Rows.OpenSpec.upto Rows.keysThereSpec).bare.plain.varTypes Tryd.prog) (ds ++ gs)).all (· ≤ reachBytes) = true := hsz0
  have hval : ∀ (j : Nat) t v, Tryd.f5.params[j]? = some t → args[j]? = some v → Value.okWide Tryd.prog W .any base t v := hval0
  have hW' := hW
  obtain ⟨p, q, hA0, hV, rfl, hfz, hnd⟩ := hW
  have hA : DataW.TrodAll enc Tryd.prog W 0 (fun _ => true) true Tryd.f5.params.toList args.toList ds p := hA0
  rw [Tryd.params5] at hA hval hsz
  obtain ⟨v0, vs0, d0, ds0, p0, q0, hargs, rfl, rfl, h0, r0⟩ := trodAll_cons hA
  obtain ⟨rfl, rfl, rfl⟩ := trodAll_nil r0
  obtain rfl : args = #[v0] := by cases args; simp_all
  obtain ⟨rfl, rfl⟩ := trodVars_none hV
  obtain ⟨A0, n0, c0, rfl⟩ := okWide_slice Tryd.underlying22 (hval 0 22 v0 rfl rfl)
  have lt0 := places_lt h0
  obtain ⟨l0, rfl, hc0, hr0, qs0⟩ := open_sl (rd22 W) h0
  have hz0 := sized hsz (j := 0) rfl rfl Tryd.underlying22 (B := Tryd.prog.bytesOf 35) rfl h0
  rw [show Tryd.prog.bytesOf 35 = 32 from by kernel_rfl] at hz0
  have hk0 : Rows.uptoBulkAll _ ≤ 1048576 := of_decide_eq_true hk
  simp only [List.cons_append, List.nil_append, List.append_nil, Rows.uptoBulkAll] at hk0
  have hb0 := Bulks.bulk_len Tryd.underlying22 h0
  clear hA0 hval0 hsz0
  obtain ⟨k, hP⟩ := TherePure l0 (by omega) (fun v hv => by have h := (qs0 v hv).2.1; unfold Q2 Lit.wf at h; simp [IntKind.min, IntKind.max, IntKind.bits, IntKind.signed] at h; exact ⟨by omega, by omega⟩)
  refine (V.hasplaw05_KeysThere.calls k A0 c0 l0 true W hr0 hc0 hP).mono fun e W' ⟨he, bel0⟩ => ?_
  have bel : Below W.heap.size W W' := bel0
  subst he
  exact ⟨_, rfl, _, _, _, [], _, [], hW', trodAll_mk1 (shut_bool Tryd.underlying4 _), (trodAll_cons_mk (Below.trod laidOut (by kernel_rfl) (of_decide_eq_true (by kernel_rfl)) h0 bel lt0) trodAll_mk0), rfl, bel.frame _, fun h => by cases h⟩
theorem over : Rows.keysThereUptoRow.holds Tryd.pinned (Rows.OpenSpec.upto Rows.keysThereSpec) :=
  OpenClaim.holds_of_cond 5 Tryd.f5 rfl rfl rfl rfl rfl rfl rfl ⟨rfl, rfl, rfl, rfl, rfl⟩ rfl rfl rfl rfl rfl (by kernel_rfl) Tryd.func5 (by kernel_rfl)
    (of_decide_eq_true (by kernel_rfl)) (by unfold Func.isWrapper; first | (rw [if_pos (by decide +kernel)]; kernel_rfl) | (rw [if_neg (by decide +kernel)]; exact ⟨rfl, rfl⟩))
    (fun os started H enc _ F => lifted os started H enc F)
theorem proved : Rows.KeysThereUptoCardSaid :=
  Claim7.holds_tied_plain_at .later [] [.data, .pinned] true (true, "545723e72fb4328b2d4deccbff0b5bd97e75904602dd8cf08d5f60fc7490dc1a") true
    over (fun _ h => by cases h) (by kernel_rfl) (fun _ h => by cases h) keysThereUpto_row_tie rfl ⟨rfl, rfl⟩ (by kernel_rfl) rfl
    (fun f fn hf hfn => by
      obtain rfl : f = 5 := Option.some.inj ((show Tryd.prog.funcNamed "hasp/hasplaw05.KeysThere" = some 5 by kernel_rfl).symm.trans hf) |>.symm
      obtain rfl : fn = Tryd.f5 := (Option.some.inj (Tryd.func5.symm.trans hfn)).symm
      exact ⟨by kernel_rfl, fun j t ht => by
        rw [Tryd.params5] at ht
        have hm : t ∈ [22] := by simpa using Array.mem_of_getElem? ht
        have hall : ([22].all fun u => !Tryd.prog.wantsStandIn u) = true := by kernel_rfl
        exact (show Tryd.prog.wantsStandIn t = false by simpa using List.all_eq_true.1 hall t hm)⟩)
    (by kernel_rfl)
#print axioms proved
end Go.Proofs.YthoemenchimggaaDoor.keysThere
