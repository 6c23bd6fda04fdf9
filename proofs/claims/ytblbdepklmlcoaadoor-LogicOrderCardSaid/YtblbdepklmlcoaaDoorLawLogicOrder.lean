/- The law LogicOrder: for every input the call returns true. By a program of this session. -/
import Derived.Test.YtblbdepklmlcoaaDoorRows
import Derived.Test.YtblbdepklmlcoaaDoorPO
import Derived.Test.YtblbdepklmlcoaaDoorRd
import Derived.Test.YtblbdepklmlcoaaDoorCards
import Derived.Test.YtblbdepklmlcoaaDoorTie
import Derived.LaidMore
import Derived.LaidLaws
import Derived.SevenTiedAt
import Derived.Stop.Joined
import Derived.WalkKit
import Derived.ProofKit
import Derived.OpenShut
import Derived.ShutString
import Derived.ChangeOld
import Derived.Below
import Derived.SizedLaws
import Derived.Carry
namespace Go.Proofs.YtblbdepklmlcoaaDoor.logicOrder
open Go.ChangeShapes Go.WideShapes Go.ChangeAt Go.RowKit Go.Proofs.YtblbdepklmlcoaaDoor.Rd Go.Proofs.YtblbdepklmlcoaaDoorW.PrintWords
open Go.ChangeMaps (open_string shut_string)
set_option linter.unusedVariables false
set_option linter.unusedSimpArgs false
theorem own : ownKnob Tryd.prog.godebug = none := by kernel_rfl
theorem laidOut : laidOutB Tryd.prog = true := by kernel_rfl
def Q3 (a : Int) : Prop := (Lit.int .i64 a).wf = true
theorem rd3 (w : World) : Rds Tryd.prog w 3 (Kd.int .i64) Q3 := rds_int Tryd.underlying3
def Q22 (a : Int) : Prop := (Lit.int .i64 a).wf = true
theorem rd22 (w : World) : Rds Tryd.prog w 22 (Kd.int .i64) Q22 := rds_int Tryd.underlying22
def Q24 (a : A.S24) : Prop := Q3 a.f0 ∧ Q22 a.f1
theorem rd24 (w : World) : Rds Tryd.prog w 24 A.k24 Q24 :=
  rds_iso (Q := fun p => Q3 p.1 ∧ Q22 p.2) (fun x : A.S24 => (x.f0, x.f1)) (fun p => ⟨p.1, p.2⟩) (fun _ => rfl) (rds_struct2 Tryd.underlying24 (by kernel_rfl) (by kernel_rfl) (by kernel_rfl) (rd3 w) (rd22 w))
def Q31 (a : (List A.S24)) : Prop := ∀ y ∈ a, Q24 y
theorem rd31 (w : World) : Rds Tryd.prog w 31 (Kd.slice 24 A.k24) Q31 := rds_slice Tryd.underlying31 (by kernel_rfl) (rd24 w)
abbrev laidL : List (String × DataW Unit) := [("hasp/logic.yes", Rows.laid_hasp_logic_yes), ("hasp/logic.no", Rows.laid_hasp_logic_no), ("hasp/logic.unsure", Rows.laid_hasp_logic_unsure)]
/-- The door's own heap meets the condition. -/
theorem door_met (os : Os) (args : Array Value) : laidMetH Tryd.prog laidL ((World.doorLaid Tryd.prog 24 os).forCall (fun _ _ => 0) ⟨#[], args, []⟩).memory :=
  laidMetH_of_parts3 (fuel := 8) (laidMet_of_run' 8 (by kernel_rfl) (by kernel_rfl)) (by kernel_rfl) (by kernel_rfl)
set_option maxRecDepth 100000 in
theorem lifted (os : Os) (started : os.Started) (H : Type) (enc : TypeId × Value → H) :
    ReturnsInHanded {} Tryd.checked os 6 .any (fun w args => (Rows.logicOrderSpec.pre enc Tryd.prog Tryd.f6 [] false w args ∧ laidMetH Tryd.prog laidL w) ∧ sizedMet enc Tryd.prog Tryd.f6 (OpenSpec.ofChange Rows.logicOrderSpec) false w args) (Rows.logicOrderSpec.post enc Tryd.prog Tryd.f6 false true false false) := by
  refine returnsInHanded_of_change_and (C := Tryd.checked) (X := fun w _ => laidMetH Tryd.prog laidL w) (fun _ _ _ hh h => h.of_heap hh) own started (by kernel_rfl) Tryd.func6
    (ChangeSpec.witness_shaped (enc := enc) (C := Tryd.checked) (os := os) (X := fun w _ => laidMetH Tryd.prog laidL w) false (World.doorLaid Tryd.prog 24 os) #[.slice none 0 0, .agg #[.int .i64 0, .int .i64 0]] 8 rfl (World.shaped_of_RefB (by kernel_rfl) (by kernel_rfl)) (by kernel_rfl) (by kernel_rfl) (by kernel_rfl) (door_met os _)) ?_
  intro W base args ds gs before hval0 hW hcnd hsz0 hL _
  have hsz : (DataW.weightsEach Tryd.prog (Tryd.f6.params.toList ++ Rows.logicOrderSpec.plain.varTypes Tryd.prog) (ds ++ gs)).all (· ≤ reachBytes) = true := hsz0
  have hval : ∀ (j : Nat) t v, Tryd.f6.params[j]? = some t → args[j]? = some v → Value.okWide Tryd.prog W .any base t v := hval0
  have hW' := hW
  obtain ⟨p, q, hA0, hV, rfl, hfz, hnd⟩ := hW
  have hA : DataW.TrodAll enc Tryd.prog W 0 (fun _ => true) true Tryd.f6.params.toList args.toList ds p := hA0
  rw [Tryd.params6] at hA hval hsz
  obtain ⟨v0, vs0, d0, ds0, p0, q0, hargs, rfl, rfl, h0, r0⟩ := trodAll_cons hA
  obtain ⟨v1, vs1, d1, ds1, p1, q1, rfl, rfl, rfl, h1, r1⟩ := trodAll_cons r0
  obtain ⟨rfl, rfl, rfl⟩ := trodAll_nil r1
  obtain rfl : args = #[v0, v1] := by cases args; simp_all
  obtain ⟨rfl, rfl⟩ := trodVars_none hV
  obtain ⟨A0, n0, c0, rfl⟩ := okWide_slice Tryd.underlying31 (hval 0 31 v0 rfl rfl)
  have lt0 := places_lt h0
  obtain ⟨l0, rfl, hc0, hr0, qs0⟩ := open_sl (rd31 W) h0
  have hz0 := sized hsz (j := 0) rfl rfl Tryd.underlying31 (B := Tryd.prog.bytesOf 24) rfl h0
  rw [show Tryd.prog.bytesOf 24 = 16 from by kernel_rfl] at hz0
  obtain ⟨cs1, rfl, _⟩ := okWide_struct Tryd.underlying24 (hval 1 24 v1 rfl rfl)
  have lt1 := places_lt h1
  obtain ⟨⟨a1_0, a1_1⟩, hk1, qs1⟩ := open_ag (rd24 W) h1
  have hk1' := A.k24_open hk1
  obtain rfl : cs1 = #[.int .i64 a1_0, .int .i64 a1_1] := by cases cs1; simp_all
  clear hA0 hval0 hsz0
  obtain ⟨k, hP⟩ := OrderPure l0 hz0 a1_0 a1_1
  refine (V.hasplaw04_LogicOrder.calls k A0 c0 l0 a1_0 a1_1 true W (of_laid hL) hr0 hc0 hP).mono fun e W' ⟨he, bel0⟩ => ?_
  have bel : Below W.heap.size W W' := bel0
  subst he
  exact ⟨_, rfl, _, _, _, [], _, [], hW', trodAll_mk1 (shut_bool Tryd.underlying4 _), (trodAll_cons_mk (Below.trod laidOut (by kernel_rfl) (of_decide_eq_true (by kernel_rfl)) h0 bel lt0) (trodAll_cons_mk (Below.trod laidOut (by kernel_rfl) (of_decide_eq_true (by kernel_rfl)) h1 bel lt1) trodAll_mk0)), rfl, bel.frame _, fun h => by cases h⟩
theorem over : Rows.logicOrderRow.holds Tryd.pinned (OpenSpec.ofChange Rows.logicOrderSpec) :=
  OpenClaim.holds_of_wide 6 Tryd.f6 rfl rfl rfl rfl rfl rfl rfl ⟨rfl, rfl, rfl, rfl, rfl⟩ rfl rfl rfl rfl rfl (by kernel_rfl) Tryd.func6 (by kernel_rfl)
    (of_decide_eq_true (by kernel_rfl)) (by unfold Func.isWrapper; first | (rw [if_pos (by decide +kernel)]; kernel_rfl) | (rw [if_neg (by decide +kernel)]; exact ⟨rfl, rfl⟩))
    (fun os started H enc _ => lifted os started H enc)
theorem proved : Rows.LogicOrderCardSaid :=
  Claim7.holds_tied_plain_at .later [] [.data, .data, .data] true (true, "222d3e5292ea7b8ba05bd8fa899f33f9eb14a4eda6df803713f12f80485f8ff7") false
    over (fun _ h => by cases h) (by kernel_rfl) (fun _ h => by cases h) logicOrder_row_tie rfl ⟨rfl, rfl⟩ (by kernel_rfl) rfl
    (fun f fn hf hfn => by
      obtain rfl : f = 6 := Option.some.inj ((show Tryd.prog.funcNamed "hasp/hasplaw04.LogicOrder" = some 6 by kernel_rfl).symm.trans hf) |>.symm
      obtain rfl : fn = Tryd.f6 := (Option.some.inj (Tryd.func6.symm.trans hfn)).symm
      exact ⟨by kernel_rfl, fun j t ht => by
        rw [Tryd.params6] at ht
        have hm : t ∈ [31, 24] := by simpa using Array.mem_of_getElem? ht
        have hall : ([31, 24].all fun u => !Tryd.prog.wantsStandIn u) = true := by kernel_rfl
        exact (show Tryd.prog.wantsStandIn t = false by simpa using List.all_eq_true.1 hall t hm)⟩)
    (by kernel_rfl)
#print axioms proved
end Go.Proofs.YtblbdepklmlcoaaDoor.logicOrder
