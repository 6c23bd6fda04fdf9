-- Printed by the kit's print.py for functions that this session names.
import Derived.Test.YthoemenchimggaaDoorVx0
import Derived.Test.YthoemenchimggaaDoorVx2
import Derived.Test.YthoemenchimggaaDoorVx5
import Derived.Test.YthoemenchimggaaDoorVx7
namespace Go.Proofs.YthoemenchimggaaDoor.V
open Go.RowKit Go.Proofs.YthoemenchimggaaDoorW.PrintWords Go.Proofs.YthoemenchimggaaDoorW.PrintLast Go.Proofs.YthoemenchimggaaDoorW.PrintMore Go.Proofs.YthoemenchimggaaDoor.A
attribute [local go_sem] max2_int min2_int max_two min_two max_three min_three max_four min_four   -- for this text's walks alone
set_option linter.unusedVariables false
set_option linter.unusedSimpArgs false

/-! ### hasplaw05_KeysDecodes: function 4 -/
mutual
def hasplaw05_KeysDecodes.j0 : Nat → List (S35) → List (S35) → List (S35) → Bool → Option (Bool)
  | 0, _, _, _, _ => none
  | k + 1, x4, x6, x8, x46 => if x46 = true then (some false) else (hasplaw05_KeysDecodes.l0 k x4 x6 x8 (x4.length : Int) 0)
def hasplaw05_KeysDecodes.l0 : Nat → List (S35) → List (S35) → List (S35) → Int → Int → Option (Bool)
  | 0, _, _, _, _, _ => none
  | k + 1, x4, x6, x8, x48, x49 => if x49 < x48 then (if 0 ≤ x49 then (if x49 < (x4.length : Int) then (hasplaw05_KeysDecodes.l0 k (x4.set (x49 : Int).toNat (⟨9, 0, (⟨#[]⟩ : ByteArray)⟩ : S35)) x6 x8 x48 (wrap64 (x49 + 1))) else (none)) else (none)) else ((haspref02_SameRow.f k x6 x8).bind fun t276 => (some t276))
end
def hasplaw05_KeysDecodes.f (k : Nat) (l0 : List Int) : Option (Bool) := (hasplaw05_speaks.f k).bind fun t255 => (if t255 = true then ((some (([] : List Int) : List Int)).bind fun y256 => (if y256.length + l0.length < 140737488355328 then ((some (y256 ++ l0 : List Int)).bind fun y259 => ((keys_Decode.f y259).bind fun bt262 => ((keys_Decode.f y259).bind fun bt266 => ((haspref05_Decode.f k l0).bind fun bt270 => (if bt262.2 = bt270.2 then ((haspref02_SameRow.f k bt262.1 bt270.1).bind fun t274 => (if t274 = true then (hasplaw05_KeysDecodes.j0 k bt262.1 bt266.1 bt270.1 ((strOfNums y259).toList != (strOfNums l0).toList)) else (hasplaw05_KeysDecodes.j0 k bt262.1 bt266.1 bt270.1 true))) else (hasplaw05_KeysDecodes.j0 k bt262.1 bt266.1 bt270.1 true)))))) else (none))) else (some false))
theorem hasplaw05_KeysDecodes.mono_l : ∀ k, (∀ y0 y1 y2 y3, LeO (hasplaw05_KeysDecodes.j0 k y0 y1 y2 y3) (hasplaw05_KeysDecodes.j0 (k + 1) y0 y1 y2 y3)) ∧ (∀ y0 y1 y2 y3 y4, LeO (hasplaw05_KeysDecodes.l0 k y0 y1 y2 y3 y4) (hasplaw05_KeysDecodes.l0 (k + 1) y0 y1 y2 y3 y4))
  | 0 => ⟨fun _ _ _ _ r h => by simp [hasplaw05_KeysDecodes.j0] at h, fun _ _ _ _ _ r h => by simp [hasplaw05_KeysDecodes.l0] at h⟩
  | k + 1 => by
    obtain ⟨ih0, ih1⟩ := hasplaw05_KeysDecodes.mono_l k
    refine ⟨?_, ?_⟩
    · intro y0 y1 y2 y3
      unfold hasplaw05_KeysDecodes.j0
      repeat' first
      | (with_reducible exact ih0 _ _ _ _)
      | (with_reducible exact ih1 _ _ _ _ _)
      | (with_reducible exact hasplaw05_speaks.mono _)
      | (with_reducible exact haspref02_SameRow.mono _ _ _)
      | (with_reducible exact haspref05_Decode.mono _ _)
      | (with_reducible exact LeO.refl _)
      | (with_reducible exact LeO.none _)
      | (with_reducible refine LeO.ite ?_ ?_)
      | (with_reducible refine LeO.bind ?_ (fun _ => ?_))
      | exact ih0 _ _ _ _
      | exact ih1 _ _ _ _ _
      | exact hasplaw05_speaks.mono _
      | exact haspref02_SameRow.mono _ _ _
      | exact haspref05_Decode.mono _ _
      | exact LeO.none _
      | refine LeO.ite ?_ ?_
      | refine LeO.bind ?_ (fun _ => ?_)
    · intro y0 y1 y2 y3 y4
      unfold hasplaw05_KeysDecodes.l0
      repeat' first
      | (with_reducible exact ih0 _ _ _ _)
      | (with_reducible exact ih1 _ _ _ _ _)
      | (with_reducible exact hasplaw05_speaks.mono _)
      | (with_reducible exact haspref02_SameRow.mono _ _ _)
      | (with_reducible exact haspref05_Decode.mono _ _)
      | (with_reducible exact LeO.refl _)
      | (with_reducible exact LeO.none _)
      | (with_reducible refine LeO.ite ?_ ?_)
      | (with_reducible refine LeO.bind ?_ (fun _ => ?_))
      | exact ih0 _ _ _ _
      | exact ih1 _ _ _ _ _
      | exact hasplaw05_speaks.mono _
      | exact haspref02_SameRow.mono _ _ _
      | exact haspref05_Decode.mono _ _
      | exact LeO.none _
      | refine LeO.ite ?_ ?_
      | refine LeO.bind ?_ (fun _ => ?_)
theorem hasplaw05_KeysDecodes.mono : ∀ a0 k, LeO (hasplaw05_KeysDecodes.f k a0) (hasplaw05_KeysDecodes.f (k + 1) a0) := by
  intro a0 k
  obtain ⟨ih0, ih1⟩ := hasplaw05_KeysDecodes.mono_l k
  unfold hasplaw05_KeysDecodes.f
  repeat' first
      | (with_reducible exact ih0 _ _ _ _)
      | (with_reducible exact ih1 _ _ _ _ _)
      | (with_reducible exact hasplaw05_speaks.mono _)
      | (with_reducible exact haspref02_SameRow.mono _ _ _)
      | (with_reducible exact haspref05_Decode.mono _ _)
      | (with_reducible exact LeO.refl _)
      | (with_reducible exact LeO.none _)
      | (with_reducible refine LeO.ite ?_ ?_)
      | (with_reducible refine LeO.bind ?_ (fun _ => ?_))
      | exact ih0 _ _ _ _
      | exact ih1 _ _ _ _ _
      | exact hasplaw05_speaks.mono _
      | exact haspref02_SameRow.mono _ _ _
      | exact haspref05_Decode.mono _ _
      | exact LeO.none _
      | refine LeO.ite ?_ ?_
      | refine LeO.bind ?_ (fun _ => ?_)
set_option maxHeartbeats 8000000 in
set_option maxRecDepth 100000 in
theorem hasplaw05_KeysDecodes.calls (k : Nat) (A0 : Option Addr) (c0 : Nat) (l0 : List Int) (r : Bool) (w : World) (hr0 : Kd.C (Kd.int .u8) w A0 l0.length l0) (hc0 : l0.length ≤ c0) (h : hasplaw05_KeysDecodes.f k l0 = some r) :
    Calls Tryd.prog 4 #[.slice A0 l0.length c0] w fun e w' => e = .returned (.bool r) ∧ Below w.heap.size w w' := by
  have hu35 := Tryd.underlying35
  have HR0 := Aside0.mk hr0
  have HC0 := Aside0.mk hc0
  clear hr0 hc0
  have HB := Aside0.mk (Below.refl w.heap.size w)
  have H : ((hasplaw05_speaks.f k).bind fun t255 => (if t255 = true then ((some (([] : List Int) : List Int)).bind fun y256 => (if y256.length + l0.length < 140737488355328 then ((some (y256 ++ l0 : List Int)).bind fun y259 => ((keys_Decode.f y259).bind fun bt262 => ((keys_Decode.f y259).bind fun bt266 => ((haspref05_Decode.f k l0).bind fun bt270 => (if bt262.2 = bt270.2 then ((haspref02_SameRow.f k bt262.1 bt270.1).bind fun t274 => (if t274 = true then (hasplaw05_KeysDecodes.j0 k bt262.1 bt266.1 bt270.1 ((strOfNums y259).toList != (strOfNums l0).toList)) else (hasplaw05_KeysDecodes.j0 k bt262.1 bt266.1 bt270.1 true))) else (hasplaw05_KeysDecodes.j0 k bt262.1 bt266.1 bt270.1 true)))))) else (none))) else (some false))) = some r := h
  clear h
  replace H := Option.bind_eq_some_iff.mp H
  obtain ⟨t255, A20, H⟩ := H
  replace H : (if t255 = true then ((some (([] : List Int) : List Int)).bind fun y256 => (if y256.length + l0.length < 140737488355328 then ((some (y256 ++ l0 : List Int)).bind fun y259 => ((keys_Decode.f y259).bind fun bt262 => ((keys_Decode.f y259).bind fun bt266 => ((haspref05_Decode.f k l0).bind fun bt270 => (if bt262.2 = bt270.2 then ((haspref02_SameRow.f k bt262.1 bt270.1).bind fun t274 => (if t274 = true then (hasplaw05_KeysDecodes.j0 k bt262.1 bt266.1 bt270.1 ((strOfNums y259).toList != (strOfNums l0).toList)) else (hasplaw05_KeysDecodes.j0 k bt262.1 bt266.1 bt270.1 true))) else (hasplaw05_KeysDecodes.j0 k bt262.1 bt266.1 bt270.1 true)))))) else (none))) else (some false)) = some r := H
  have A2 := Aside0.mk A20
  clear A20
  by_cases c3 : t255 = true
  · subst c3
    have H1 : ((some (([] : List Int) : List Int)).bind fun y256 => (if y256.length + l0.length < 140737488355328 then ((some (y256 ++ l0 : List Int)).bind fun y259 => ((keys_Decode.f y259).bind fun bt262 => ((keys_Decode.f y259).bind fun bt266 => ((haspref05_Decode.f k l0).bind fun bt270 => (if bt262.2 = bt270.2 then ((haspref02_SameRow.f k bt262.1 bt270.1).bind fun t274 => (if t274 = true then (hasplaw05_KeysDecodes.j0 k bt262.1 bt266.1 bt270.1 ((strOfNums y259).toList != (strOfNums l0).toList)) else (hasplaw05_KeysDecodes.j0 k bt262.1 bt266.1 bt270.1 true))) else (hasplaw05_KeysDecodes.j0 k bt262.1 bt266.1 bt270.1 true)))))) else (none))) = some r := by rw [if_pos rfl] at H; exact H
    clear H
    have H := H1
    clear H1
    obtain ⟨y256, hy256⟩ : ∃ y_ : List Int, y_ = (([] : List Int)) := ⟨_, rfl⟩
    replace H : (if y256.length + l0.length < 140737488355328 then ((some (y256 ++ l0 : List Int)).bind fun y259 => ((keys_Decode.f y259).bind fun bt262 => ((keys_Decode.f y259).bind fun bt266 => ((haspref05_Decode.f k l0).bind fun bt270 => (if bt262.2 = bt270.2 then ((haspref02_SameRow.f k bt262.1 bt270.1).bind fun t274 => (if t274 = true then (hasplaw05_KeysDecodes.j0 k bt262.1 bt266.1 bt270.1 ((strOfNums y259).toList != (strOfNums l0).toList)) else (hasplaw05_KeysDecodes.j0 k bt262.1 bt266.1 bt270.1 true))) else (hasplaw05_KeysDecodes.j0 k bt262.1 bt266.1 bt270.1 true)))))) else (none)) = some r := by first | (rw [hy256]; with_reducible exact H) | (have H2_ := (Option.bind_some _ _).symm.trans H; rw [hy256]; with_reducible exact H2_) | (have H2_ := (Option.bind_some _ _).symm.trans H; with_reducible exact H2_) | with_reducible exact H | (rw [hy256]; exact H) | exact H
    have Ny256 := Aside0.mk hy256
    clear hy256
    by_cases c4 : y256.length + l0.length < 140737488355328
    · rw [if_pos c4] at H
      have LMc4 := Aside0.mk c4
      clear c4
      obtain ⟨y259, hy259⟩ : ∃ y_ : List Int, y_ = (y256 ++ l0) := ⟨_, rfl⟩
      replace H : ((keys_Decode.f y259).bind fun bt262 => ((keys_Decode.f y259).bind fun bt266 => ((haspref05_Decode.f k l0).bind fun bt270 => (if bt262.2 = bt270.2 then ((haspref02_SameRow.f k bt262.1 bt270.1).bind fun t274 => (if t274 = true then (hasplaw05_KeysDecodes.j0 k bt262.1 bt266.1 bt270.1 ((strOfNums y259).toList != (strOfNums l0).toList)) else (hasplaw05_KeysDecodes.j0 k bt262.1 bt266.1 bt270.1 true))) else (hasplaw05_KeysDecodes.j0 k bt262.1 bt266.1 bt270.1 true))))) = some r := by first | (rw [hy259]; with_reducible exact H) | (have H2_ := (Option.bind_some _ _).symm.trans H; rw [hy259]; with_reducible exact H2_) | (have H2_ := (Option.bind_some _ _).symm.trans H; with_reducible exact H2_) | with_reducible exact H | (rw [hy259]; exact H) | exact H
      have Ny259 := Aside0.mk hy259
      clear hy259
      replace H := Option.bind_eq_some_iff.mp H
      obtain ⟨⟨t262, t263⟩, A50, H⟩ := H
      replace H : ((keys_Decode.f y259).bind fun bt266 => ((haspref05_Decode.f k l0).bind fun bt270 => (if t263 = bt270.2 then ((haspref02_SameRow.f k t262 bt270.1).bind fun t274 => (if t274 = true then (hasplaw05_KeysDecodes.j0 k t262 bt266.1 bt270.1 ((strOfNums y259).toList != (strOfNums l0).toList)) else (hasplaw05_KeysDecodes.j0 k t262 bt266.1 bt270.1 true))) else (hasplaw05_KeysDecodes.j0 k t262 bt266.1 bt270.1 true)))) = some r := H
      have A5 := Aside0.mk A50
      clear A50
      replace H := Option.bind_eq_some_iff.mp H
      obtain ⟨⟨t266, t267⟩, A60, H⟩ := H
      replace H : ((haspref05_Decode.f k l0).bind fun bt270 => (if t263 = bt270.2 then ((haspref02_SameRow.f k t262 bt270.1).bind fun t274 => (if t274 = true then (hasplaw05_KeysDecodes.j0 k t262 t266 bt270.1 ((strOfNums y259).toList != (strOfNums l0).toList)) else (hasplaw05_KeysDecodes.j0 k t262 t266 bt270.1 true))) else (hasplaw05_KeysDecodes.j0 k t262 t266 bt270.1 true))) = some r := H
      have A6 := Aside0.mk A60
      clear A60
      replace H := Option.bind_eq_some_iff.mp H
      obtain ⟨⟨t270, t271⟩, A70, H⟩ := H
      replace H : (if t263 = t271 then ((haspref02_SameRow.f k t262 t270).bind fun t274 => (if t274 = true then (hasplaw05_KeysDecodes.j0 k t262 t266 t270 ((strOfNums y259).toList != (strOfNums l0).toList)) else (hasplaw05_KeysDecodes.j0 k t262 t266 t270 true))) else (hasplaw05_KeysDecodes.j0 k t262 t266 t270 true)) = some r := H
      have A7 := Aside0.mk A70
      clear A70
      have HC8 := Aside0.mk H
      clear H
      go_enter Tryd.func4, Tryd.ntmps4
      go_upto_region 7 with (first | ((with_reducible refine gate_callee (f := 10) rfl ?_); refine goesL_ (some 11) rfl rfl Tryd.func10 (by kernel_rfl) rfl #[] rfl (by (try simp only [List.map_toArray, List.map_cons, List.map_nil]); first | done | rfl | (simp only [List.length_drop, List.length_take]; rfl)) ?_; (with_reducible refine (hasplaw05_speaks.calls k  true _ A2.out).mono ?_); rintro e w9 ⟨rfl, hb⟩; refine ⟨_, rfl, ?_⟩; have n0_ := Aside0.mk (below_step (by repeat (first | (with_reducible first | exact HB.out | apply below_alloc | apply pw_below_drewN | apply below_drew1) | exact HB.out)) hb); clear HB; have HB := n0_; clear n0_; (try clear hb); (try clear hb2); (try clear hk); (try clear hi)) | ((with_reducible refine gate_dst (N := 13) rfl ?_); refine Kd.R_lit (Kd.int .u8) _ 5 ?hg (N := 13) ?hd (xs := ([] : List Int)) (inner := []) (ok := fun _ => True) (okp := fun _ => True) ?hr ?hp (fun _ hk => hk) trivial (Below.refl _ _) (Nat.le_refl _) (by simp) ?_; (case hd => rfl); (case hg => rfl); (case hr => first | (go_simp; done) | (go_simp; rfl)); (case hp => exact (Reps.none _ _)); intro v257 w10 ho11 hb hg_ hnew_; clear hg_ hnew_; (first | rw [← Ny256.out] at ho11 | (simp only [Int.reduceToNat] at ho11; rw [← Ny256.out] at ho11)); have n0_ := Aside0.mk (Kd.R_lower ho11 (below_size (by repeat (first | (with_reducible first | exact HB.out | apply below_alloc | apply pw_below_drewN | apply below_drew1) | exact HB.out)))); have n1_ := Aside0.mk (below_step (by repeat (first | (with_reducible first | exact HB.out | apply below_alloc | apply pw_below_drewN | apply below_drew1) | exact HB.out)) hb); clear HB; have HO258 := n0_; have HB := n1_; clear n0_ n1_; clear hb ho11) | ((with_reducible refine gate_builtin (b := .append) (xs := #[.tmp 13, .tmp 14]) rfl ?_); at_builtin; refine Kd.R_append_rows (Kd.int .u8) (w0 := w) w.heap.size rfl (.tmp 13) (.tmp 14) 25 5 (.int .u8 0) 1 rfl Tryd.underlying25 info5 rfl (by decide) (by omega) v257 y256 l0 _ _ _ (fun _ => True) (fun _ => False) rfl rfl ?aO ?aR (fun _ _ h => h) (fun _ h => h.elim) ?aF ?aB ?aS ?aL ?_; (case aR => repeat (first | exact (Kd.C_below HR0.out HB.out) | (with_reducible refine Kd.C_alloc ?_ _) | (with_reducible refine Kd.C_drewN ?_ _) | (with_reducible refine Kd.C_drew ?_))); (case aB => exact (by repeat (first | (with_reducible first | exact HB.out | apply below_alloc | apply pw_below_drewN | apply below_drew1) | exact HB.out))); (case aF => exact (fun _ _ => trivial)); (case aO => exact (by (with_reducible repeat (first | apply Kd.R_alloc | apply Kd.R_drewN | apply Kd.R_drew)); exact HO258.out)); (case aS => exact (below_size (by repeat (first | (with_reducible first | exact HB.out | apply below_alloc | apply pw_below_drewN | apply below_drew1) | exact HB.out)))); (case aL => have := LMc4.out; omega); intro v260 w12 ho hb hg hat; rw [← Ny259.out] at ho; have n0_ := Aside0.mk (hb); have n1_ := Aside0.mk (ho); clear HB; clear HO258; have HB := n0_; have HO261 := n1_; clear n0_ n1_; clear ho hb hg hat; obtain ⟨Ao13, co13, eo13⟩ := Kd.R_slice HO261.out; subst eo13) | ((with_reducible refine gate_callee (f := 16) rfl ?_); refine goesL_ (some 18) rfl rfl Tryd.func16 (by kernel_rfl) rfl #[.slice Ao13 y259.length co13] rfl (by (try simp only [List.map_toArray, List.map_cons, List.map_nil]); first | done | rfl | (simp only [List.length_drop, List.length_take]; rfl)) ?_; (with_reducible refine (keys_Decode.calls _ _ y259 t262 t263 _ ?side1 ?side2 A5.out).mono ?_); (case side1 => repeat (first | exact (Kd.R_reads' HO261.out).2.2 | (with_reducible refine Kd.C_alloc ?_ _) | (with_reducible refine Kd.C_drewN ?_ _) | (with_reducible refine Kd.C_drew ?_))); (case side2 => exact (Kd.R_reads' HO261.out).2.1); rintro e w14 ⟨v264, rfl, ho0, hb⟩; refine ⟨_, rfl, ?_⟩; have n0_ := Aside0.mk (Kd.R_below (by (with_reducible repeat (first | apply Kd.R_alloc | apply Kd.R_drewN | apply Kd.R_drew)); exact HO261.out) hb); have n1_ := Aside0.mk (Kd.R_lower ho0 (below_size (by repeat (first | (with_reducible first | exact HB.out | apply below_alloc | apply pw_below_drewN | apply below_drew1) | exact HB.out)))); have n2_ := Aside0.mk (below_step (by repeat (first | (with_reducible first | exact HB.out | apply below_alloc | apply pw_below_drewN | apply below_drew1) | exact HB.out)) hb); clear HO261; clear HB; have HO261 := n0_; have HO265 := n1_; have HB := n2_; clear n0_ n1_ n2_; (try clear hb); (try clear hb2); (try clear hk); (try clear hi); (try clear ho0)) | ((with_reducible refine gate_callee (f := 16) rfl ?_); refine goesL_ (some 23) rfl rfl Tryd.func16 (by kernel_rfl) rfl #[.slice Ao13 y259.length co13] rfl (by (try simp only [List.map_toArray, List.map_cons, List.map_nil]); first | done | rfl | (simp only [List.length_drop, List.length_take]; rfl)) ?_; (with_reducible refine (keys_Decode.calls _ _ y259 t266 t267 _ ?side1 ?side2 A6.out).mono ?_); (case side1 => repeat (first | exact (Kd.R_reads' HO261.out).2.2 | (with_reducible refine Kd.C_alloc ?_ _) | (with_reducible refine Kd.C_drewN ?_ _) | (with_reducible refine Kd.C_drew ?_))); (case side2 => exact (Kd.R_reads' HO261.out).2.1); rintro e w15 ⟨v268, rfl, ho0, hb⟩; refine ⟨_, rfl, ?_⟩; have n0_ := Aside0.mk (Kd.R_below (by (with_reducible repeat (first | apply Kd.R_alloc | apply Kd.R_drewN | apply Kd.R_drew)); exact HO261.out) hb); have n1_ := Aside0.mk (Kd.R_elder' (by (with_reducible repeat (first | apply Kd.R_alloc | apply Kd.R_drewN | apply Kd.R_drew)); exact HO265.out) (Kd.R_base ho0) hb); have n2_ := Aside0.mk (Kd.R_lower (Kd.R_new' ho0 (Kd.R_lt (by (with_reducible repeat (first | apply Kd.R_alloc | apply Kd.R_drewN | apply Kd.R_drew)); exact HO265.out))) (below_size (by repeat (first | (with_reducible first | exact HB.out | apply below_alloc | apply pw_below_drewN | apply below_drew1) | exact HB.out)))); have n3_ := Aside0.mk (below_step (by repeat (first | (with_reducible first | exact HB.out | apply below_alloc | apply pw_below_drewN | apply below_drew1) | exact HB.out)) hb); clear HO261; clear HO265; clear HB; have HO261 := n0_; have HO265 := n1_; have HO269 := n2_; have HB := n3_; clear n0_ n1_ n2_ n3_; (try clear hb); (try clear hb2); (try clear hk); (try clear hi); (try clear ho0)) | ((with_reducible refine gate_callee (f := 17) rfl ?_); refine goesL_ (some 28) rfl rfl Tryd.func17 (by kernel_rfl) rfl #[.slice A0 l0.length c0] rfl (by (try simp only [List.map_toArray, List.map_cons, List.map_nil]); first | done | rfl | (simp only [List.length_drop, List.length_take]; rfl)) ?_; (with_reducible refine (haspref05_Decode.calls k _ _ l0 t270 t271 _ ?side1 ?side2 A7.out).mono ?_); (case side1 => repeat (first | exact (Kd.C_below HR0.out HB.out) | (with_reducible refine Kd.C_alloc ?_ _) | (with_reducible refine Kd.C_drewN ?_ _) | (with_reducible refine Kd.C_drew ?_))); (case side2 => exact HC0.out); rintro e w16 ⟨v272, rfl, ho0, hb⟩; refine ⟨_, rfl, ?_⟩; have n0_ := Aside0.mk (Kd.R_below (by (with_reducible repeat (first | apply Kd.R_alloc | apply Kd.R_drewN | apply Kd.R_drew)); exact HO261.out) hb); have n1_ := Aside0.mk (Kd.R_elder' (by (with_reducible repeat (first | apply Kd.R_alloc | apply Kd.R_drewN | apply Kd.R_drew)); exact HO265.out) (Kd.R_base ho0) hb); have n2_ := Aside0.mk (Kd.R_elder' (by (with_reducible repeat (first | apply Kd.R_alloc | apply Kd.R_drewN | apply Kd.R_drew)); exact HO269.out) (Kd.R_base ho0) hb); have n3_ := Aside0.mk (Kd.R_lower (Kd.R_new' (Kd.R_new' ho0 (Kd.R_lt (by (with_reducible repeat (first | apply Kd.R_alloc | apply Kd.R_drewN | apply Kd.R_drew)); exact HO265.out))) (Kd.R_lt (by (with_reducible repeat (first | apply Kd.R_alloc | apply Kd.R_drewN | apply Kd.R_drew)); exact HO269.out))) (below_size (by repeat (first | (with_reducible first | exact HB.out | apply below_alloc | apply pw_below_drewN | apply below_drew1) | exact HB.out)))); have n4_ := Aside0.mk (below_step (by repeat (first | (with_reducible first | exact HB.out | apply below_alloc | apply pw_below_drewN | apply below_drew1) | exact HB.out)) hb); clear HO261; clear HO265; clear HO269; clear HB; have HO261 := n0_; have HO265 := n1_; have HO269 := n2_; have HO273 := n3_; have HB := n4_; clear n0_ n1_ n2_ n3_ n4_; (try clear hb); (try clear hb2); (try clear hk); (try clear hi); (try clear ho0)))
      (try simp only [Act.put, List.setIfInBounds_toArray, List.set_cons_zero, List.set_cons_succ])
      go_cut [46] (fun v46 wc => ∃ (kq : Nat) (x46_7 : Bool), v46 = .bool x46_7 ∧ Aside0 (hasplaw05_KeysDecodes.j0 kq t262 t266 t270 x46_7 = some r) ∧ Aside0 (kq ≤ k) ∧ Aside0 (Kd.R k35 35 wc w.heap.size (fun k_ => some k_ ≠ (v268 : Value).ownBlock ∧ some k_ ≠ (v272 : Value).ownBlock) v264 t262) ∧ Aside0 (Kd.R k35 35 wc w.heap.size (fun k_ => some k_ ≠ (v264 : Value).ownBlock ∧ some k_ ≠ (v272 : Value).ownBlock) v268 t266) ∧ Aside0 (Kd.R k35 35 wc w.heap.size (fun k_ => some k_ ≠ (v264 : Value).ownBlock ∧ some k_ ≠ (v268 : Value).ownBlock) v272 t270) ∧ Aside0 (Below w.heap.size w wc))
      case first =>
        have H := HC8.out
        clear HC8
        by_cases c17 : t263 = t271
        · rw [if_pos c17] at H
          have c17b0 : (t263 == t271) = true := beq_iff_eq.mpr c17
          have c17b1 : (t263 != t271) = false := bne_eq_false_iff_eq.mpr c17
          clear c17
          (first | rw [c17b0] | (simp only [i64_w, i32_w]; rw [c17b0]) | skip)
          replace H := Option.bind_eq_some_iff.mp H
          obtain ⟨t274, A180, H⟩ := H
          replace H : (if t274 = true then (hasplaw05_KeysDecodes.j0 k t262 t266 t270 ((strOfNums y259).toList != (strOfNums l0).toList)) else (hasplaw05_KeysDecodes.j0 k t262 t266 t270 true)) = some r := H
          have A18 := Aside0.mk A180
          clear A180
          by_cases c19 : t274 = true
          · subst c19
            have H1 : (hasplaw05_KeysDecodes.j0 k t262 t266 t270 ((strOfNums y259).toList != (strOfNums l0).toList)) = some r := by rw [if_pos rfl] at H; exact H
            clear H
            have H := H1
            clear H1
            have H' := Aside0.mk H
            clear H
            obtain ⟨Ao20, co20, eo20⟩ := Kd.R_slice HO265.out
            subst eo20
            obtain ⟨Ao21, co21, eo21⟩ := Kd.R_slice HO273.out
            subst eo21
            go_wp2_with (first | (go_at_call 15; (with_reducible refine (haspref02_SameRow.calls k _ _ t262 _ _ t270 true _ ?side1 ?side2 ?side3 ?side4 A18.out).mono ?_); (case side1 => repeat (first | exact (Kd.R_reads' HO265.out).2.2 | (with_reducible refine Kd.C_alloc ?_ _) | (with_reducible refine Kd.C_drewN ?_ _) | (with_reducible refine Kd.C_drew ?_))); (case side2 => exact (Kd.R_reads' HO265.out).2.1); (case side3 => repeat (first | exact (Kd.R_reads' HO273.out).2.2 | (with_reducible refine Kd.C_alloc ?_ _) | (with_reducible refine Kd.C_drewN ?_ _) | (with_reducible refine Kd.C_drew ?_))); (case side4 => exact (Kd.R_reads' HO273.out).2.1); rintro e w' ⟨rfl, ⟨nd, rfl⟩⟩; have hcv22 := own_string (P := Tryd.prog) Tryd.underlying25 Tryd.underlying5 Tryd.underlying9 (Kd.own_of_R (Kd.R_drewN HO261.out nd)); have hcv23 := Kd.C_string (P := Tryd.prog) (A := A0) (c := c0) Tryd.underlying25 Tryd.underlying5 Tryd.underlying9 (Kd.C_drewN (Kd.C_below HR0.out HB.out) nd)))
            go_meet
            case rel => exact ⟨_, (((strOfNums y259).toList != (strOfNums l0).toList)), (by first | rfl | (simp; done) | (simp [*]; done) | (simp; exact isEmpty_bne _) | (simp [*]; exact isEmpty_bne _)), H', ⟨by first | omega | exact Nat.le_refl _⟩, ⟨by (with_reducible repeat (first | apply Kd.R_alloc | apply Kd.R_drewN | apply Kd.R_drew)); exact Kd.R_mono HO265.out (fun _ hk => ⟨hk.1.2, hk.2⟩)⟩, ⟨by (with_reducible repeat (first | apply Kd.R_alloc | apply Kd.R_drewN | apply Kd.R_drew)); exact Kd.R_mono HO269.out (fun _ hk => ⟨hk.1.2, hk.2⟩)⟩, ⟨by (with_reducible repeat (first | apply Kd.R_alloc | apply Kd.R_drewN | apply Kd.R_drew)); exact Kd.R_mono HO273.out (fun _ hk => ⟨hk.1.2, hk.2⟩)⟩, ⟨by repeat (first | (with_reducible first | exact HB.out | apply below_alloc | apply pw_below_drewN | apply below_drew1) | exact HB.out)⟩⟩
          · replace c19 := Bool.eq_false_iff.mpr c19
            subst c19
            have H1 : (hasplaw05_KeysDecodes.j0 k t262 t266 t270 true) = some r := by rw [if_neg (show ¬ (false = true) by decide)] at H; exact H
            clear H
            have H := H1
            clear H1
            have H' := Aside0.mk H
            clear H
            obtain ⟨Ao24, co24, eo24⟩ := Kd.R_slice HO265.out
            subst eo24
            obtain ⟨Ao25, co25, eo25⟩ := Kd.R_slice HO273.out
            subst eo25
            go_wp2_with (first | (go_at_call 15; (with_reducible refine (haspref02_SameRow.calls k _ _ t262 _ _ t270 false _ ?side1 ?side2 ?side3 ?side4 A18.out).mono ?_); (case side1 => repeat (first | exact (Kd.R_reads' HO265.out).2.2 | (with_reducible refine Kd.C_alloc ?_ _) | (with_reducible refine Kd.C_drewN ?_ _) | (with_reducible refine Kd.C_drew ?_))); (case side2 => exact (Kd.R_reads' HO265.out).2.1); (case side3 => repeat (first | exact (Kd.R_reads' HO273.out).2.2 | (with_reducible refine Kd.C_alloc ?_ _) | (with_reducible refine Kd.C_drewN ?_ _) | (with_reducible refine Kd.C_drew ?_))); (case side4 => exact (Kd.R_reads' HO273.out).2.1); rintro e w' ⟨rfl, ⟨nd, rfl⟩⟩))
            go_meet
            case rel => exact ⟨_, (true), (by first | rfl | (simp; done) | (simp [*]; done) | (simp; exact isEmpty_bne _) | (simp [*]; exact isEmpty_bne _)), H', ⟨by first | omega | exact Nat.le_refl _⟩, ⟨by (with_reducible repeat (first | apply Kd.R_alloc | apply Kd.R_drewN | apply Kd.R_drew)); exact Kd.R_mono HO265.out (fun _ hk => ⟨hk.1.2, hk.2⟩)⟩, ⟨by (with_reducible repeat (first | apply Kd.R_alloc | apply Kd.R_drewN | apply Kd.R_drew)); exact Kd.R_mono HO269.out (fun _ hk => ⟨hk.1.2, hk.2⟩)⟩, ⟨by (with_reducible repeat (first | apply Kd.R_alloc | apply Kd.R_drewN | apply Kd.R_drew)); exact Kd.R_mono HO273.out (fun _ hk => ⟨hk.1.2, hk.2⟩)⟩, ⟨by repeat (first | (with_reducible first | exact HB.out | apply below_alloc | apply pw_below_drewN | apply below_drew1) | exact HB.out)⟩⟩
        · rw [if_neg c17] at H
          have c17b0 : (t263 == t271) = false := beq_eq_false_iff_ne.mpr c17
          have c17b1 : (t263 != t271) = true := bne_iff_ne.mpr c17
          (first | rw [c17b0] | (simp only [i64_w, i32_w]; rw [c17b0]) | skip)
          have H' := Aside0.mk H
          clear H
          go_wp2
          go_meet
          case rel => exact ⟨_, (true), (by first | rfl | (simp; done) | (simp [*]; done) | (simp; exact isEmpty_bne _) | (simp [*]; exact isEmpty_bne _)), H', ⟨by first | omega | exact Nat.le_refl _⟩, ⟨by (with_reducible repeat (first | apply Kd.R_alloc | apply Kd.R_drewN | apply Kd.R_drew)); exact Kd.R_mono HO265.out (fun _ hk => ⟨hk.1.2, hk.2⟩)⟩, ⟨by (with_reducible repeat (first | apply Kd.R_alloc | apply Kd.R_drewN | apply Kd.R_drew)); exact Kd.R_mono HO269.out (fun _ hk => ⟨hk.1.2, hk.2⟩)⟩, ⟨by (with_reducible repeat (first | apply Kd.R_alloc | apply Kd.R_drewN | apply Kd.R_drew)); exact Kd.R_mono HO273.out (fun _ hk => ⟨hk.1.2, hk.2⟩)⟩, ⟨by repeat (first | (with_reducible first | exact HB.out | apply below_alloc | apply pw_below_drewN | apply below_drew1) | exact HB.out)⟩⟩
      case rest =>
        clear HC8
        try clear c1
        try clear p2
        try clear hcv2
        try clear c3
        try clear c4
        try clear c10
        try clear c16
        try clear c17
        try clear c17b0
        try clear c17b1
        try clear c19
        try clear hcv22
        try clear hcv23
        obtain ⟨kq, x46_7, rfl, HA, HJ7, HO_4, HO_6, HO_8, HB⟩ := hcut
        cases kq with
        | zero => exact absurd HA.out (by simp [hasplaw05_KeysDecodes.j0])
        | succ kj7 =>
          have H := HA.out
          clear HA
          simp only [hasplaw05_KeysDecodes.j0] at H
          by_cases c26 : x46_7 = true
          · subst c26
            have H1 : (some false) = some r := by rw [if_pos rfl] at H; exact H
            clear H
            have H := H1
            clear H1
            obtain rfl := Option.some.inj H
            go_wp2
            go_ret
            exact ⟨by first | rfl | (simp [errW_none, errW_some] <;> rfl) | (simp [*, errW_none, errW_some] <;> rfl), by repeat (first | (with_reducible first | exact HB.out | apply below_alloc | apply pw_below_drewN | apply below_drew1) | exact HB.out)⟩
          · replace c26 := Bool.eq_false_iff.mpr c26
            subst c26
            have H1 : (hasplaw05_KeysDecodes.l0 kj7 t262 t266 t270 (t262.length : Int) 0) = some r := by rw [if_neg (show ¬ (false = true) by decide)] at H; exact H
            clear H
            have H := H1
            clear H1
            have H' := Aside0.mk H
            clear H
            obtain ⟨Ao27, co27, eo27⟩ := Kd.R_slice HO_4.out
            subst eo27
            go_wp2
            go_loopg [49] kj7 (fun kq v49 w' => ∃ (x4_2 : List (S35)) (x49_2 : Int), v49 = .int .i64 x49_2 ∧ Aside0 (hasplaw05_KeysDecodes.l0 kq x4_2 t266 t270 (t262.length : Int) x49_2 = some r) ∧ Aside0 (kq ≤ kj7) ∧ Aside0 (Kd.R k35 35 w' w.heap.size (fun k_ => some k_ ≠ (v268 : Value).ownBlock ∧ some k_ ≠ (v272 : Value).ownBlock) (.slice Ao27 t262.length co27) x4_2) ∧ Aside0 (Kd.R k35 35 w' w.heap.size (fun k_ => some k_ ≠ ((.slice Ao27 t262.length co27) : Value).ownBlock ∧ some k_ ≠ (v272 : Value).ownBlock) v268 t266) ∧ Aside0 (Kd.R k35 35 w' w.heap.size (fun k_ => some k_ ≠ ((.slice Ao27 t262.length co27) : Value).ownBlock ∧ some k_ ≠ (v268 : Value).ownBlock) v272 t270) ∧ Aside0 (Below w.heap.size w w'))
            case atStart => exact ⟨(t262), (0), (by first | rfl | (simp; done) | (simp [*]; done) | (simp; exact isEmpty_bne _) | (simp [*]; exact isEmpty_bne _)), H', ⟨Nat.le_refl _⟩, ⟨by (with_reducible repeat (first | apply Kd.R_alloc | apply Kd.R_drewN | apply Kd.R_drew)); exact HO_4.out⟩, ⟨by (with_reducible repeat (first | apply Kd.R_alloc | apply Kd.R_drewN | apply Kd.R_drew)); exact HO_6.out⟩, ⟨by (with_reducible repeat (first | apply Kd.R_alloc | apply Kd.R_drewN | apply Kd.R_drew)); exact HO_8.out⟩, ⟨by repeat (first | (with_reducible first | exact HB.out | apply below_alloc | apply pw_below_drewN | apply below_drew1) | exact HB.out)⟩⟩
            case round =>
              clear H'
              try clear c1
              try clear c2
              try clear p2
              try clear hcv2
              try clear c3
              try clear c4
              try clear c10
              try clear c16
              try clear c17
              try clear c17b0
              try clear c17b1
              try clear c19
              try clear hcv22
              try clear hcv23
              try clear c26
              try clear p2
              obtain ⟨x4_2, x49_2, rfl, HA, HK2, HO_4, HO_6, HO_8, HB⟩ := hrel
              have hl4_2 := (Kd.R_reads' HO_4.out).1
              rw [hl4_2] at HO_4
              (try simp only [hl4_2])
              (try simp only [hl4_2] at HO_6)
              (try simp only [hl4_2] at HO_8)
              cases gk with
              | zero => exact absurd HA.out (by simp [hasplaw05_KeysDecodes.l0])
              | succ k2 =>
                have H := HA.out
                clear HA
                simp only [hasplaw05_KeysDecodes.l0] at H
                by_cases c28 : x49_2 < (t262.length : Int)
                · rw [if_pos c28] at H
                  have c28b0 : decide (x49_2 < (t262.length : Int)) = true := decide_eq_true c28
                  clear c28
                  by_cases c29 : 0 ≤ x49_2
                  · rw [if_pos c29] at H
                    have c29b0 : decide (0 ≤ x49_2) = true := decide_eq_true c29
                    clear c29
                    by_cases c30 : x49_2 < (x4_2.length : Int)
                    · rw [if_pos c30] at H
                      have c30b0 : decide (x49_2 < (x4_2.length : Int)) = true := decide_eq_true c30
                      clear c30
                      obtain ⟨y275, hy275⟩ : ∃ y_ : List (S35), y_ = (x4_2.set (x49_2 : Int).toNat (⟨9, 0, (⟨#[]⟩ : ByteArray)⟩ : S35)) := ⟨_, rfl⟩
                      replace H : (hasplaw05_KeysDecodes.l0 k2 y275 t266 t270 (t262.length : Int) (wrap64 (x49_2 + 1))) = some r := by first | (rw [hy275]; with_reducible exact H) | (have H2_ := (Option.bind_some _ _).symm.trans H; rw [hy275]; with_reducible exact H2_) | (have H2_ := (Option.bind_some _ _).symm.trans H; with_reducible exact H2_) | with_reducible exact H | (rw [hy275]; exact H) | exact H
                      have Ny275 := Aside0.mk hy275
                      clear hy275
                      have H' := Aside0.mk H
                      clear H
                      have p31 : 0 ≤ (x49_2 : Int) := of_decide_eq_true (by first | (with_reducible assumption) | assumption)
                      have q31 : (x49_2 : Int) < ((x4_2.length : Int) : Int) := of_decide_eq_true (by first | (with_reducible assumption) | assumption)
                      obtain ⟨go31, co31, eo31, gb31, gl31, cl31, HG31⟩ := Kd.R_form HO_4.out (by omega)
                      (first | cases eo31 | (injection eo31 with ea_ en_ ec_; (first | subst ea_ | (injection ea_ with ea_; subst ea_)); subst ec_; clear en_))
                      have GB31 := Aside0.mk gb31
                      have GG31 := Aside0.mk HG31
                      clear gb31 gl31 HG31
                      obtain ⟨ce31, hcl31, hM31, hcc31, hfr31⟩ := Kd.R_elem HO_4.out z35 (x49_2 : Int) p31 q31
                      obtain rfl := k35_openM hM31
                      have hx31_0 : wr.cell? ⟨go31, (x49_2 : Int).toNat * 3, none⟩ = some (.int .i64 ((rd_T35 x4_2 x49_2).f0)) := hcc31 0 _ rfl
                      have hx31_1 : wr.cell? ⟨go31, (x49_2 : Int).toNat * 3 + 1, none⟩ = some (.int .i64 ((rd_T35 x4_2 x49_2).f1)) := hcc31 1 _ rfl
                      have hx31_2 : wr.cell? ⟨go31, (x49_2 : Int).toNat * 3 + 2, none⟩ = some (.string ((rd_T35 x4_2 x49_2).f2)) := hcc31 2 _ rfl
                      have hf31_0 : wr.frozen? ⟨go31, (x49_2 : Int).toNat * 3, none⟩ = false := hfr31 0
                      have hf31_1 : wr.frozen? ⟨go31, (x49_2 : Int).toNat * 3 + 1, none⟩ = false := hfr31 1
                      have hf31_2 : wr.frozen? ⟨go31, (x49_2 : Int).toNat * 3 + 2, none⟩ = false := hfr31 2
                      clear hcl31 hcc31 hfr31 hM31
                      replace p31 := eq_true p31
                      replace q31 := eq_true q31
                      have HX32 := Aside0.mk (show Kd.R k35 35 wr w.heap.size (fun k_ => some k_ ≠ (v268 : Value).ownBlock ∧ some k_ ≠ (v272 : Value).ownBlock) (.slice (some ⟨go31, 0, none⟩) x4_2.length co27) x4_2 from (by (with_reducible repeat (first | apply Kd.R_alloc | apply Kd.R_drewN | apply Kd.R_drew)); exact HO_4.out))
                      obtain ⟨ce32, hcl32, hM32, hcc32, hfr32⟩ := Kd.R_elem HX32.out z35 (x49_2 : Int) (of_decide_eq_true (by first | (with_reducible assumption) | assumption)) (by have h_ : (x49_2 : Int) < ((x4_2.length : Int) : Int) := of_decide_eq_true (by first | (with_reducible assumption) | assumption); first | exact h_ | (have e_ := (Kd.R_reads' HO_4.out).1; omega) | simpa using h_)
                      obtain rfl := k35_openM hM32
                      have HP32 := Kd.R_seg HX32.out (x49_2 : Int) (of_decide_eq_true (by first | (with_reducible assumption) | assumption)) (by have h_ : (x49_2 : Int) < ((x4_2.length : Int) : Int) := of_decide_eq_true (by first | (with_reducible assumption) | assumption); first | exact h_ | (have e_ := (Kd.R_reads' HO_4.out).1; omega) | simpa using h_) (seg := [.int .i64 9, .int .i64 0, .string (⟨#[]⟩ : ByteArray)]) (j := 0) hcl32 hcc32 (show 3 ≤ 3 from by decide) (x' := (⟨9, 0, (⟨#[]⟩ : ByteArray)⟩ : S35)) (k35_mkM _ _ _ (⟨9, 0, (⟨#[]⟩ : ByteArray)⟩ : S35) ) (fun _ hk => hk)
                      have hx32_0 := hcc32 0 _ rfl
                      (try simp only [show (k35).sz = 3 from rfl, Nat.mul_one, Nat.add_zero] at hx32_0)
                      have hf32_0 := hfr32 0
                      (try simp only [show (k35).sz = 3 from rfl, Nat.mul_one, Nat.add_zero] at hf32_0)
                      have hx32_1 := hcc32 1 _ rfl
                      (try simp only [show (k35).sz = 3 from rfl, Nat.mul_one, Nat.add_zero] at hx32_1)
                      have hf32_1 := hfr32 1
                      (try simp only [show (k35).sz = 3 from rfl, Nat.mul_one, Nat.add_zero] at hf32_1)
                      have hx32_2 := hcc32 2 _ rfl
                      (try simp only [show (k35).sz = 3 from rfl, Nat.mul_one, Nat.add_zero] at hx32_2)
                      have hf32_2 := hfr32 2
                      (try simp only [show (k35).sz = 3 from rfl, Nat.mul_one, Nat.add_zero] at hf32_2)
                      clear hcl32 hcc32 hfr32 hM32
                      go_wp2_with (first | ((with_reducible refine gate_store (t := 35) (p := 55) rfl ?_); refine store_event (t := 35) (p := 55) (v := ?vo_w33) (w1 := (((wr.setCell ⟨go31, (x49_2 : Int).toNat * 3, none⟩ (.int .i64 9)).setCell ⟨go31, (x49_2 : Int).toNat * 3 + 1, none⟩ (.int .i64 0)).setCell ⟨go31, (x49_2 : Int).toNat * 3 + 2, none⟩ (.string (⟨#[]⟩ : ByteArray)))) ?hg ?ho ?hn ?hr ?_; (case ho => rfl); (case hg => rfl); (case hn => rfl); (case hr => first | (go_simp; done) | (go_simp; rfl)); intro w33 hw; have hg : wr.grownBy w33 (some go31) := (by rw [hw]; exact HP32.2); have hp_ : Kd.R k35 35 w33 w.heap.size (fun k_ => some k_ ≠ (v268 : Value).ownBlock ∧ some k_ ≠ (v272 : Value).ownBlock) (.slice (some ⟨go31, 0, none⟩) x4_2.length co27) y275 := (by rw [hw, Ny275.out]; exact HP32.1); clear HP32; have n0_ := Aside0.mk (hp_); have n1_ := Aside0.mk (Kd.R_after (v := (.slice (some ⟨go31, 0, none⟩) x4_2.length co27)) (v1 := (.slice (some ⟨go31, 0, none⟩) x4_2.length co27)) (ok := (fun k_ => some k_ ≠ (v272 : Value).ownBlock)) (by (with_reducible repeat (first | apply Kd.R_alloc | apply Kd.R_drewN | apply Kd.R_drew)); exact Kd.R_mono HO_6.out (fun _ hk => ⟨hk.2, hk.1⟩)) hg (.inl rfl)); have n2_ := Aside0.mk (Kd.R_after (v := (.slice (some ⟨go31, 0, none⟩) x4_2.length co27)) (v1 := (.slice (some ⟨go31, 0, none⟩) x4_2.length co27)) (ok := (fun k_ => some k_ ≠ (v268 : Value).ownBlock)) (by (with_reducible repeat (first | apply Kd.R_alloc | apply Kd.R_drewN | apply Kd.R_drew)); exact Kd.R_mono HO_8.out (fun _ hk => ⟨hk.2, hk.1⟩)) hg (.inl rfl)); have n3_ := Aside0.mk ((by rw [hw]; exact below_set (below_set (below_set (HB.out) GB31.out) GB31.out) GB31.out : Below w.heap.size w w33)); clear HO_4; clear HO_6; clear HO_8; clear HB; have HO_4 := n0_; have HO_6 := n1_; have HO_8 := n2_; have HB := n3_; clear n0_ n1_ n2_ n3_; clear hg hw hp_))
                      (try simp only [← hl4_2])
                      go_roundg k2
                      case measure => have := HJ7.out; have := HK2.out; omega
                      case rel => exact ⟨(y275), (wrap64 (x49_2 + 1)), (by first | rfl | (simp; done) | (simp [*]; done) | (simp; exact isEmpty_bne _) | (simp [*]; exact isEmpty_bne _)), H', ⟨by have := HJ7.out; have := HK2.out; omega⟩, ⟨by (try simp only [hl4_2]); (with_reducible repeat (first | apply Kd.R_alloc | apply Kd.R_drewN | apply Kd.R_drew)); exact HO_4.out⟩, ⟨by (try simp only [hl4_2]); (with_reducible repeat (first | apply Kd.R_alloc | apply Kd.R_drewN | apply Kd.R_drew)); exact Kd.R_mono HO_6.out (fun _ hk => ⟨hk.2, hk.1⟩)⟩, ⟨by (try simp only [hl4_2]); (with_reducible repeat (first | apply Kd.R_alloc | apply Kd.R_drewN | apply Kd.R_drew)); exact Kd.R_mono HO_8.out (fun _ hk => ⟨hk.2, hk.1⟩)⟩, ⟨by repeat (first | (with_reducible first | exact HB.out | apply below_alloc | apply pw_below_drewN | apply below_drew1) | exact HB.out)⟩⟩
                    · rw [if_neg c30] at H
                      exact absurd H (by simp)
                  · rw [if_neg c29] at H
                    exact absurd H (by simp)
                · rw [if_neg c28] at H
                  have c28b0 : decide (x49_2 < (t262.length : Int)) = false := decide_eq_false c28
                  clear c28
                  replace H := Option.bind_eq_some_iff.mp H
                  obtain ⟨t276, A340, H⟩ := H
                  replace H : (some t276) = some r := H
                  have A34 := Aside0.mk A340
                  clear A340
                  obtain rfl := Option.some.inj H
                  obtain ⟨Ao35, co35, eo35⟩ := Kd.R_slice HO_6.out
                  subst eo35
                  obtain ⟨Ao36, co36, eo36⟩ := Kd.R_slice HO_8.out
                  subst eo36
                  have c28c := c28b0
                  rw [hl4_2] at c28c
                  go_wp2_with (first | ((with_reducible refine gate_callee (f := 15) rfl ?_); refine goesL_ (some 59) rfl rfl Tryd.func15 (by kernel_rfl) rfl #[.slice Ao35 t266.length co35, .slice Ao36 t270.length co36] rfl (by (try simp only [List.map_toArray, List.map_cons, List.map_nil]); first | done | rfl | (simp only [List.length_drop, List.length_take]; rfl)) ?_; (with_reducible refine (haspref02_SameRow.calls k2 _ _ t266 _ _ t270 t276 _ ?side1 ?side2 ?side3 ?side4 A34.out).mono ?_); (case side1 => repeat (first | exact (Kd.R_reads' HO_6.out).2.2 | (with_reducible refine Kd.C_alloc ?_ _) | (with_reducible refine Kd.C_drewN ?_ _) | (with_reducible refine Kd.C_drew ?_))); (case side2 => exact (Kd.R_reads' HO_6.out).2.1); (case side3 => repeat (first | exact (Kd.R_reads' HO_8.out).2.2 | (with_reducible refine Kd.C_alloc ?_ _) | (with_reducible refine Kd.C_drewN ?_ _) | (with_reducible refine Kd.C_drew ?_))); (case side4 => exact (Kd.R_reads' HO_8.out).2.1); rintro e w' ⟨rfl, ⟨nd, rfl⟩⟩; refine ⟨_, rfl, ?_⟩))
                  go_ret
                  exact ⟨by first | rfl | (simp [errW_none, errW_some] <;> rfl) | (simp [*, errW_none, errW_some] <;> rfl), by repeat (first | (with_reducible first | exact HB.out | apply below_alloc | apply pw_below_drewN | apply below_drew1) | exact HB.out)⟩
    · rw [if_neg c4] at H
      exact absurd H (by simp)
  · replace c3 := Bool.eq_false_iff.mpr c3
    subst c3
    have H1 : (some false) = some r := by rw [if_neg (show ¬ (false = true) by decide)] at H; exact H
    clear H
    have H := H1
    clear H1
    obtain rfl := Option.some.inj H
    go_enter Tryd.func4, Tryd.ntmps4
    go_wp2_with (first | ((with_reducible refine gate_callee (f := 10) rfl ?_); refine goesL_ (some 11) rfl rfl Tryd.func10 (by kernel_rfl) rfl #[] rfl (by (try simp only [List.map_toArray, List.map_cons, List.map_nil]); first | done | rfl | (simp only [List.length_drop, List.length_take]; rfl)) ?_; (with_reducible refine (hasplaw05_speaks.calls k  false _ A2.out).mono ?_); rintro e w37 ⟨rfl, hb⟩; refine ⟨_, rfl, ?_⟩; have n0_ := Aside0.mk (below_step (by repeat (first | (with_reducible first | exact HB.out | apply below_alloc | apply pw_below_drewN | apply below_drew1) | exact HB.out)) hb); clear HB; have HB := n0_; clear n0_; (try clear hb); (try clear hb2); (try clear hk); (try clear hi)))
    go_ret
    exact ⟨by first | rfl | (simp [errW_none, errW_some] <;> rfl) | (simp [*, errW_none, errW_some] <;> rfl), by repeat (first | (with_reducible first | exact HB.out | apply below_alloc | apply pw_below_drewN | apply below_drew1) | exact HB.out)⟩

/-- THE ONE PURE STATEMENT of hasplaw05_KeysDecodes: yours. -/
def hasplaw05_KeysDecodes.Pure : Prop := ∀ (l0 : List Int), l0.length ≤ maxLen → l0.length * 1 ≤ 140737488351232 → (∀ x ∈ l0, (Lit.int .u8 x).wf = true) → ∃ k, hasplaw05_KeysDecodes.f k l0 = some true
theorem hasplaw05_KeysDecodes.walk (P : hasplaw05_KeysDecodes.Pure) (a0 : Option Addr) (len0 cap0 : Nat) (z0 : List Int) (w : World) (w0 : (a0 = none ∧ len0 = 0 ∧ cap0 = 0 ∧ z0 = []) ∨ ∃ x, a0 = some x ∧ len0 ≤ cap0 ∧ cap0 ≤ maxLen ∧ z0.length = cap0 ∧ (∀ i, i < z0.length → w.cell? (x.add i) = some (.int .u8 (z0.getD i 0))) ∧ ∀ n ∈ z0, (Lit.int .u8 n).wf = true) (y0 : len0 * 1 ≤ 140737488351232) :
    Calls Tryd.prog 4 #[.slice a0 len0 cap0] w fun e w' => e = .returned (.bool true) ∧ Below w.heap.size w w' := by
  obtain ⟨l0, rfl, hr0, hm0, hw0, hc0⟩ := ReadsInt.ofRowC w0
  obtain ⟨k, h⟩ := P l0 hm0 y0 hw0
  refine (hasplaw05_KeysDecodes.calls k _ _ l0 true w (Kd.C_of_reads (d := (0 : Int)) (h1 := fun _ => rfl) hr0) hc0 h).mono ?_
  rintro e w' ⟨rfl, hd⟩
  exact ⟨rfl, hd⟩

end Go.Proofs.YthoemenchimggaaDoor.V
