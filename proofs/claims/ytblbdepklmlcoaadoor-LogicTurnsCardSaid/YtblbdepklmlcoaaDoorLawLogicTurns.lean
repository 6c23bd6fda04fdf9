/- The law LogicTurns: for every input the call returns true. By a program of this session. -/
import Derived.Test.YtblbdepklmlcoaaDoorRows
import Derived.Test.YtblbdepklmlcoaaDoorPT
import Derived.Test.YtblbdepklmlcoaaDoorRd
import Derived.Test.YtblbdepklmlcoaaDoorCards
import Derived.Test.YtblbdepklmlcoaaDoorTie
import Derived.LaidMore
import Derived.LaidLaws
import Derived.SevenTiedAt
import Derived.Stop.Joined
import Derived.WalkKit
import Derived.ProofKit
import Derived.OpenShut
import Derived.ShutString
import Derived.ChangeOld
import Derived.Below
import Derived.SizedLaws
import Derived.Carry
namespace Go.Proofs.YtblbdepklmlcoaaDoor.logicTurns
open Go.ChangeShapes Go.WideShapes Go.ChangeAt Go.RowKit Go.Proofs.YtblbdepklmlcoaaDoor.Rd Go.Proofs.YtblbdepklmlcoaaDoorW.PrintWords
open Go.ChangeMaps (open_string shut_string)
set_option linter.unusedVariables false
set_option linter.unusedSimpArgs false
theorem own : ownKnob Tryd.prog.godebug = none := by kernel_rfl
theorem laidOut : laidOutB Tryd.prog = true := by kernel_rfl
def Q3 (a : Int) : Prop := (Lit.int .i64 a).wf = true
theorem rd3 (w : World) : Rds Tryd.prog w 3 (Kd.int .i64) Q3 := rds_int Tryd.underlying3
def Q22 (a : Int) : Prop := (Lit.int .i64 a).wf = true
theorem rd22 (w : World) : Rds Tryd.prog w 22 (Kd.int .i64) Q22 := rds_int Tryd.underlying22
def Q24 (a : A.S24) : Prop := Q3 a.f0 ∧ Q22 a.f1
theorem rd24 (w : World) : Rds Tryd.prog w 24 A.k24 Q24 :=
  rds_iso (Q := fun p => Q3 p.1 ∧ Q22 p.2) (fun x : A.S24 => (x.f0, x.f1)) (fun p => ⟨p.1, p.2⟩) (fun _ => rfl) (rds_struct2 Tryd.underlying24 (by kernel_rfl) (by kernel_rfl) (by kernel_rfl) (rd3 w) (rd22 w))
abbrev laidL : List (String × DataW Unit) := [("hasp/logic.yes", Rows.laid_hasp_logic_yes), ("hasp/logic.no", Rows.laid_hasp_logic_no), ("hasp/logic.unsure", Rows.laid_hasp_logic_unsure)]
/-- The door's own heap meets the condition. -/
theorem door_met (os : Os) (args : Array Value) : laidMetH Tryd.prog laidL ((World.doorLaid Tryd.prog 24 os).forCall (fun _ _ => 0) ⟨#[], args, []⟩).memory :=
  laidMetH_of_parts3 (fuel := 8) (laidMet_of_run' 8 (by kernel_rfl) (by kernel_rfl)) (by kernel_rfl) (by kernel_rfl)
set_option maxRecDepth 100000 in
theorem lifted (os : Os) (started : os.Started) (H : Type) (enc : TypeId × Value → H) :
    ReturnsInHanded {} Tryd.checked os 5 .any (fun w args => (Rows.logicTurnsSpec.pre enc Tryd.prog Tryd.f5 [] false w args ∧ laidMetH Tryd.prog laidL w) ∧ sizedMet enc Tryd.prog Tryd.f5 (OpenSpec.ofChange Rows.logicTurnsSpec) false w args) (Rows.logicTurnsSpec.post enc Tryd.prog Tryd.f5 false true false false) := by
  refine returnsInHanded_of_change_and (C := Tryd.checked) (X := fun w _ => laidMetH Tryd.prog laidL w) (fun _ _ _ hh h => h.of_heap hh) own started (by kernel_rfl) Tryd.func5
    (ChangeSpec.witness_shaped (enc := enc) (C := Tryd.checked) (os := os) (X := fun w _ => laidMetH Tryd.prog laidL w) false (World.doorLaid Tryd.prog 24 os) #[.agg #[.int .i64 0, .int .i64 0], .agg #[.int .i64 0, .int .i64 0], .agg #[.int .i64 0, .int .i64 0]] 8 rfl (World.shaped_of_RefB (by kernel_rfl) (by kernel_rfl)) (by kernel_rfl) (by kernel_rfl) (by kernel_rfl) (door_met os _)) ?_
  intro W base args ds gs before hval0 hW hcnd hsz0 hL _
  have hsz : (DataW.weightsEach Tryd.prog (Tryd.f5.params.toList ++ Rows.logicTurnsSpec.plain.varTypes Tryd.prog) (ds ++ gs)).all (· ≤ reachBytes) = true := hsz0
  have hval : ∀ (j : Nat) t v, Tryd.f5.params[j]? = some t → args[j]? = some v → Value.okWide Tryd.prog W .any base t v := hval0
  have hW' := hW
  obtain ⟨p, q, hA0, hV, rfl, hfz, hnd⟩ := hW
  have hA : DataW.TrodAll enc Tryd.prog W 0 (fun _ => true) true Tryd.f5.params.toList args.toList ds p := hA0
  rw [Tryd.params5] at hA hval hsz
  obtain ⟨v0, vs0, d0, ds0, p0, q0, hargs, rfl, rfl, h0, r0⟩ := trodAll_cons hA
  obtain ⟨v1, vs1, d1, ds1, p1, q1, rfl, rfl, rfl, h1, r1⟩ := trodAll_cons r0
  obtain ⟨v2, vs2, d2, ds2, p2, q2, rfl, rfl, rfl, h2, r2⟩ := trodAll_cons r1
  obtain ⟨rfl, rfl, rfl⟩ := trodAll_nil r2
  obtain rfl : args = #[v0, v1, v2] := by cases args; simp_all
  obtain ⟨rfl, rfl⟩ := trodVars_none hV
  obtain ⟨cs0, rfl, _⟩ := okWide_struct Tryd.underlying24 (hval 0 24 v0 rfl rfl)
  have lt0 := places_lt h0
  obtain ⟨⟨a0_0, a0_1⟩, hk0, qs0⟩ := open_ag (rd24 W) h0
  have hk0' := A.k24_open hk0
  obtain rfl : cs0 = #[.int .i64 a0_0, .int .i64 a0_1] := by cases cs0; simp_all
  obtain ⟨cs1, rfl, _⟩ := okWide_struct Tryd.underlying24 (hval 1 24 v1 rfl rfl)
  have lt1 := places_lt h1
  obtain ⟨⟨a1_0, a1_1⟩, hk1, qs1⟩ := open_ag (rd24 W) h1
  have hk1' := A.k24_open hk1
  obtain rfl : cs1 = #[.int .i64 a1_0, .int .i64 a1_1] := by cases cs1; simp_all
  obtain ⟨cs2, rfl, _⟩ := okWide_struct Tryd.underlying24 (hval 2 24 v2 rfl rfl)
  have lt2 := places_lt h2
  obtain ⟨⟨a2_0, a2_1⟩, hk2, qs2⟩ := open_ag (rd24 W) h2
  have hk2' := A.k24_open hk2
  obtain rfl : cs2 = #[.int .i64 a2_0, .int .i64 a2_1] := by cases cs2; simp_all
  clear hA0 hval0 hsz0
  obtain ⟨k, hP⟩ := TurnsPure a0_0 a0_1 a1_0 a1_1 a2_0 a2_1
  refine (V.hasplaw04_LogicTurns.calls k a0_0 a0_1 a1_0 a1_1 a2_0 a2_1 true W (of_laid hL)  hP).mono fun e W' ⟨he, bel0⟩ => ?_
  have bel : Below W.heap.size W W' := bel0
  subst he
  exact ⟨_, rfl, _, _, _, [], _, [], hW', trodAll_mk1 (shut_bool Tryd.underlying4 _), (trodAll_cons_mk (Below.trod laidOut (by kernel_rfl) (of_decide_eq_true (by kernel_rfl)) h0 bel lt0) (trodAll_cons_mk (Below.trod laidOut (by kernel_rfl) (of_decide_eq_true (by kernel_rfl)) h1 bel lt1) (trodAll_cons_mk (Below.trod laidOut (by kernel_rfl) (of_decide_eq_true (by kernel_rfl)) h2 bel lt2) trodAll_mk0))), rfl, bel.frame _, fun h => by cases h⟩
theorem over : Rows.logicTurnsRow.holds Tryd.pinned (OpenSpec.ofChange Rows.logicTurnsSpec) :=
  OpenClaim.holds_of_wide 5 Tryd.f5 rfl rfl rfl rfl rfl rfl rfl ⟨rfl, rfl, rfl, rfl, rfl⟩ rfl rfl rfl rfl rfl (by kernel_rfl) Tryd.func5 (by kernel_rfl)
    (of_decide_eq_true (by kernel_rfl)) (by unfold Func.isWrapper; first | (rw [if_pos (by decide +kernel)]; kernel_rfl) | (rw [if_neg (by decide +kernel)]; exact ⟨rfl, rfl⟩))
    (fun os started H enc _ => lifted os started H enc)
theorem proved : Rows.LogicTurnsCardSaid :=
  Claim7.holds_tied_plain_at .later [] [.data, .data, .data] true (true, "222d3e5292ea7b8ba05bd8fa899f33f9eb14a4eda6df803713f12f80485f8ff7") false
    over (fun _ h => by cases h) (by kernel_rfl) (fun _ h => by cases h) logicTurns_row_tie rfl ⟨rfl, rfl⟩ (by kernel_rfl) rfl
    (fun f fn hf hfn => by
      obtain rfl : f = 5 := Option.some.inj ((show Tryd.prog.funcNamed "hasp/hasplaw04.LogicTurns" = some 5 by kernel_rfl).symm.trans hf) |>.symm
      obtain rfl : fn = Tryd.f5 := (Option.some.inj (Tryd.func5.symm.trans hfn)).symm
      exact ⟨by kernel_rfl, fun j t ht => by
        rw [Tryd.params5] at ht
        have hm : t ∈ [24, 24, 24] := by simpa using Array.mem_of_getElem? ht
        have hall : ([24, 24, 24].all fun u => !Tryd.prog.wantsStandIn u) = true := by kernel_rfl
        exact (show Tryd.prog.wantsStandIn t = false by simpa using List.all_eq_true.1 hall t hm)⟩)
    (by kernel_rfl)
#print axioms proved
end Go.Proofs.YtblbdepklmlcoaaDoor.logicTurns
