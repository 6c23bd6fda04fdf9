import Derived.Test.YtnjobnkkpfaigaaZcVx0
import Derived.Test.YtnjobnkkpfaigaaZcVx2
import Derived.Test.YtnjobnkkpfaigaaZcVx4
import Derived.Test.YtnjobnkkpfaigaaZcVx5
import Derived.Test.YtnjobnkkpfaigaaZcVx8
import Derived.Test.YtnjobnkkpfaigaaZcVx9
namespace Go.Proofs.Ytnjobnkkpfaigaa.V
open Go.RowKit Go.Proofs.YtnjobnkkpfaigaaW.PrintWords Go.Proofs.YtnjobnkkpfaigaaW.PrintLast Go.Proofs.YtnjobnkkpfaigaaW.PrintMore Go.Proofs.Ytnjobnkkpfaigaa.A
attribute [local go_sem] max2_int min2_int max_two min_two max_three min_three max_four min_four   -- for this text's walks alone
set_option linter.unusedVariables false
set_option linter.unusedSimpArgs false
attribute [local go_sem high] eqA47
/-! ### haspref06_SameCols: function 15 -/
def haspref06_SameCols.l0 : Nat → List (S47) → List (S47) → Int → Option (Bool)
  | 0, _, _, _ => none
  | k + 1, x0, x1, x5 => if x5 < (x0.length : Int) then (if 0 ≤ x5 then (if x5 < (x1.length : Int) then (if (!((((rd_T47 x0 x5).f0).toList) == (((rd_T47 x1 x5).f0).toList)) || (!(((rd_T47 x0 x5).f1) == ((rd_T47 x1 x5).f1)) || (!(((rd_T47 x0 x5).f2) == ((rd_T47 x1 x5).f2))))) = true then (some false) else (haspref06_SameCols.l0 k x0 x1 (wrap64 (x5 + 1)))) else (none)) else (none)) else (some true)
def haspref06_SameCols.f (k : Nat) (l0 : List (S47)) (l1 : List (S47)) : Option (Bool) := if (l0.length : Int) = (l1.length : Int) then (haspref06_SameCols.l0 k l0 l1 0) else (some false)
/-! ### hasplaw06_RowsEncodes: function 3 -/
def hasplaw06_RowsEncodes.f (k : Nat) (l0 : List (S47)) (l1 : List (S43)) : Option (Bool) := (hasplaw06_speaks.f k).bind fun t185 => (if t185 = true then ((haspref06_CopyCols.f k l0).bind fun t186 => ((haspref02_CopyRow.f k l1).bind fun t189 => ((rows_Encode.f k t186 t189).bind fun bt192 => ((haspref06_Encode.f k l0 l1).bind fun bt196 => (if (strOfNums bt192.1).toList = (strOfNums bt196.1).toList then (if bt192.2 = bt196.2 then ((rows_Fit.f k t186 t189).bind fun t200 => ((haspref06_Fit.f k l0 l1).bind fun t201 => (if t200 = t201 then ((haspref06_SameCols.f k t186 l0).bind fun t202 => (if t202 = true then ((haspref02_SameRow.f k t189 l1).bind fun t203 => (some t203)) else (some false))) else (some false)))) else (some false)) else (some false)))))) else (some false))
/-! ### hasplaw06_RowsDecodes: function 4 -/
mutual
def hasplaw06_RowsDecodes.j0 : Nat → List (S43) → List (S43) → List (S43) → Bool → Option (Bool)
  | 0, _, _, _, _ => none
  | k + 1, x6, x8, x10, x53 => if x53 = true then (some false) else (hasplaw06_RowsDecodes.l0 k x6 x8 x10 (x6.length : Int) 0)
def hasplaw06_RowsDecodes.l0 : Nat → List (S43) → List (S43) → List (S43) → Int → Int → Option (Bool)
  | 0, _, _, _, _, _ => none
  | k + 1, x6, x8, x10, x55, x56 => if x56 < x55 then (if 0 ≤ x56 then (if x56 < (x6.length : Int) then (hasplaw06_RowsDecodes.l0 k (x6.set (x56 : Int).toNat (⟨9, 0, (⟨#[]⟩ : ByteArray)⟩ : S43)) x8 x10 x55 (wrap64 (x56 + 1))) else (none)) else (none)) else ((haspref02_SameRow.f k x8 x10).bind fun t231 => (some t231))
end
def hasplaw06_RowsDecodes.f (k : Nat) (l0 : List (S47)) (l1 : List Int) : Option (Bool) := (hasplaw06_speaks.f k).bind fun t204 => (if t204 = true then ((some (([] : List Int) : List Int)).bind fun y205 => (if y205.length + l1.length < 140737488355328 then ((some (y205 ++ l1 : List Int)).bind fun y208 => ((haspref06_CopyCols.f k l0).bind fun t211 => ((rows_Decode.f t211 y208).bind fun bt214 => ((haspref06_CopyCols.f k l0).bind fun t218 => ((rows_Decode.f t218 y208).bind fun bt221 => ((haspref06_Decode.f k l0 l1).bind fun bt225 => ((haspref02_SameRow.f k bt214.1 bt225.1).bind fun t229 => (if t229 = true then (if bt214.2 = bt225.2 then (hasplaw06_RowsDecodes.j0 k bt214.1 bt221.1 bt225.1 ((strOfNums y208).toList != (strOfNums l1).toList)) else (hasplaw06_RowsDecodes.j0 k bt214.1 bt221.1 bt225.1 true)) else (hasplaw06_RowsDecodes.j0 k bt214.1 bt221.1 bt225.1 true))))))))) else (none))) else (some false))
set_option maxHeartbeats 8000000 in
set_option maxRecDepth 100000 in
theorem hasplaw06_RowsDecodes.calls (k : Nat) (A0 : Option Addr) (c0 : Nat) (l0 : List (S47)) (A1 : Option Addr) (c1 : Nat) (l1 : List Int) (r : Bool) (w : World) (hr0 : Kd.C k47 w A0 l0.length l0) (hc0 : l0.length ≤ c0) (hr1 : Kd.C (Kd.int .u8) w A1 l1.length l1) (hc1 : l1.length ≤ c1) (h : hasplaw06_RowsDecodes.f k l0 l1 = some r) :
    Calls Try.prog 4 #[.slice A0 l0.length c0, .slice A1 l1.length c1] w fun e w' => e = .returned (.bool r) ∧ Below w.heap.size w w' := by
  have hu43 := Try.underlying43
  have HR0 := Aside0.mk hr0
  have HC0 := Aside0.mk hc0
  clear hr0 hc0
  have HR1 := Aside0.mk hr1
  have HC1 := Aside0.mk hc1
  clear hr1 hc1
  have HB := Aside0.mk (Below.refl w.heap.size w)
  have H : ((hasplaw06_speaks.f k).bind fun t204 => (if t204 = true then ((some (([] : List Int) : List Int)).bind fun y205 => (if y205.length + l1.length < 140737488355328 then ((some (y205 ++ l1 : List Int)).bind fun y208 => ((haspref06_CopyCols.f k l0).bind fun t211 => ((rows_Decode.f t211 y208).bind fun bt214 => ((haspref06_CopyCols.f k l0).bind fun t218 => ((rows_Decode.f t218 y208).bind fun bt221 => ((haspref06_Decode.f k l0 l1).bind fun bt225 => ((haspref02_SameRow.f k bt214.1 bt225.1).bind fun t229 => (if t229 = true then (if bt214.2 = bt225.2 then (hasplaw06_RowsDecodes.j0 k bt214.1 bt221.1 bt225.1 ((strOfNums y208).toList != (strOfNums l1).toList)) else (hasplaw06_RowsDecodes.j0 k bt214.1 bt221.1 bt225.1 true)) else (hasplaw06_RowsDecodes.j0 k bt214.1 bt221.1 bt225.1 true))))))))) else (none))) else (some false))) = some r := h
  clear h
  replace H := Option.bind_eq_some_iff.mp H
  obtain ⟨t204, A30, H⟩ := H
  replace H : (if t204 = true then ((some (([] : List Int) : List Int)).bind fun y205 => (if y205.length + l1.length < 140737488355328 then ((some (y205 ++ l1 : List Int)).bind fun y208 => ((haspref06_CopyCols.f k l0).bind fun t211 => ((rows_Decode.f t211 y208).bind fun bt214 => ((haspref06_CopyCols.f k l0).bind fun t218 => ((rows_Decode.f t218 y208).bind fun bt221 => ((haspref06_Decode.f k l0 l1).bind fun bt225 => ((haspref02_SameRow.f k bt214.1 bt225.1).bind fun t229 => (if t229 = true then (if bt214.2 = bt225.2 then (hasplaw06_RowsDecodes.j0 k bt214.1 bt221.1 bt225.1 ((strOfNums y208).toList != (strOfNums l1).toList)) else (hasplaw06_RowsDecodes.j0 k bt214.1 bt221.1 bt225.1 true)) else (hasplaw06_RowsDecodes.j0 k bt214.1 bt221.1 bt225.1 true))))))))) else (none))) else (some false)) = some r := H
  have A3 := Aside0.mk A30
  clear A30
  by_cases c4 : t204 = true
  · subst c4
    have H1 : ((some (([] : List Int) : List Int)).bind fun y205 => (if y205.length + l1.length < 140737488355328 then ((some (y205 ++ l1 : List Int)).bind fun y208 => ((haspref06_CopyCols.f k l0).bind fun t211 => ((rows_Decode.f t211 y208).bind fun bt214 => ((haspref06_CopyCols.f k l0).bind fun t218 => ((rows_Decode.f t218 y208).bind fun bt221 => ((haspref06_Decode.f k l0 l1).bind fun bt225 => ((haspref02_SameRow.f k bt214.1 bt225.1).bind fun t229 => (if t229 = true then (if bt214.2 = bt225.2 then (hasplaw06_RowsDecodes.j0 k bt214.1 bt221.1 bt225.1 ((strOfNums y208).toList != (strOfNums l1).toList)) else (hasplaw06_RowsDecodes.j0 k bt214.1 bt221.1 bt225.1 true)) else (hasplaw06_RowsDecodes.j0 k bt214.1 bt221.1 bt225.1 true))))))))) else (none))) = some r := by rw [if_pos rfl] at H; exact H
    clear H
    have H := H1
    clear H1
    obtain ⟨y205, hy205⟩ : ∃ y_ : List Int, y_ = (([] : List Int)) := ⟨_, rfl⟩
    replace H : (if y205.length + l1.length < 140737488355328 then ((some (y205 ++ l1 : List Int)).bind fun y208 => ((haspref06_CopyCols.f k l0).bind fun t211 => ((rows_Decode.f t211 y208).bind fun bt214 => ((haspref06_CopyCols.f k l0).bind fun t218 => ((rows_Decode.f t218 y208).bind fun bt221 => ((haspref06_Decode.f k l0 l1).bind fun bt225 => ((haspref02_SameRow.f k bt214.1 bt225.1).bind fun t229 => (if t229 = true then (if bt214.2 = bt225.2 then (hasplaw06_RowsDecodes.j0 k bt214.1 bt221.1 bt225.1 ((strOfNums y208).toList != (strOfNums l1).toList)) else (hasplaw06_RowsDecodes.j0 k bt214.1 bt221.1 bt225.1 true)) else (hasplaw06_RowsDecodes.j0 k bt214.1 bt221.1 bt225.1 true))))))))) else (none)) = some r := by first | (rw [hy205]; with_reducible exact H) | (have H2_ := (Option.bind_some _ _).symm.trans H; rw [hy205]; with_reducible exact H2_) | (have H2_ := (Option.bind_some _ _).symm.trans H; with_reducible exact H2_) | with_reducible exact H | (rw [hy205]; exact H) | exact H
    have Ny205 := Aside0.mk hy205
    clear hy205
    by_cases c5 : y205.length + l1.length < 140737488355328
    · rw [if_pos c5] at H
      have LMc5 := Aside0.mk c5
      clear c5
      obtain ⟨y208, hy208⟩ : ∃ y_ : List Int, y_ = (y205 ++ l1) := ⟨_, rfl⟩
      replace H : ((haspref06_CopyCols.f k l0).bind fun t211 => ((rows_Decode.f t211 y208).bind fun bt214 => ((haspref06_CopyCols.f k l0).bind fun t218 => ((rows_Decode.f t218 y208).bind fun bt221 => ((haspref06_Decode.f k l0 l1).bind fun bt225 => ((haspref02_SameRow.f k bt214.1 bt225.1).bind fun t229 => (if t229 = true then (if bt214.2 = bt225.2 then (hasplaw06_RowsDecodes.j0 k bt214.1 bt221.1 bt225.1 ((strOfNums y208).toList != (strOfNums l1).toList)) else (hasplaw06_RowsDecodes.j0 k bt214.1 bt221.1 bt225.1 true)) else (hasplaw06_RowsDecodes.j0 k bt214.1 bt221.1 bt225.1 true)))))))) = some r := by first | (rw [hy208]; with_reducible exact H) | (have H2_ := (Option.bind_some _ _).symm.trans H; rw [hy208]; with_reducible exact H2_) | (have H2_ := (Option.bind_some _ _).symm.trans H; with_reducible exact H2_) | with_reducible exact H | (rw [hy208]; exact H) | exact H
      have Ny208 := Aside0.mk hy208
      clear hy208
      replace H := Option.bind_eq_some_iff.mp H
      obtain ⟨t211, A60, H⟩ := H
      replace H : ((rows_Decode.f t211 y208).bind fun bt214 => ((haspref06_CopyCols.f k l0).bind fun t218 => ((rows_Decode.f t218 y208).bind fun bt221 => ((haspref06_Decode.f k l0 l1).bind fun bt225 => ((haspref02_SameRow.f k bt214.1 bt225.1).bind fun t229 => (if t229 = true then (if bt214.2 = bt225.2 then (hasplaw06_RowsDecodes.j0 k bt214.1 bt221.1 bt225.1 ((strOfNums y208).toList != (strOfNums l1).toList)) else (hasplaw06_RowsDecodes.j0 k bt214.1 bt221.1 bt225.1 true)) else (hasplaw06_RowsDecodes.j0 k bt214.1 bt221.1 bt225.1 true))))))) = some r := H
      have A6 := Aside0.mk A60
      clear A60
      replace H := Option.bind_eq_some_iff.mp H
      obtain ⟨⟨t214, t215⟩, A70, H⟩ := H
      replace H : ((haspref06_CopyCols.f k l0).bind fun t218 => ((rows_Decode.f t218 y208).bind fun bt221 => ((haspref06_Decode.f k l0 l1).bind fun bt225 => ((haspref02_SameRow.f k t214 bt225.1).bind fun t229 => (if t229 = true then (if t215 = bt225.2 then (hasplaw06_RowsDecodes.j0 k t214 bt221.1 bt225.1 ((strOfNums y208).toList != (strOfNums l1).toList)) else (hasplaw06_RowsDecodes.j0 k t214 bt221.1 bt225.1 true)) else (hasplaw06_RowsDecodes.j0 k t214 bt221.1 bt225.1 true)))))) = some r := H
      have A7 := Aside0.mk A70
      clear A70
      replace H := Option.bind_eq_some_iff.mp H
      obtain ⟨t218, A80, H⟩ := H
      obtain rfl : t211 = t218 := Option.some.inj (A6.out.symm.trans A80)
      replace H : ((rows_Decode.f t211 y208).bind fun bt221 => ((haspref06_Decode.f k l0 l1).bind fun bt225 => ((haspref02_SameRow.f k t214 bt225.1).bind fun t229 => (if t229 = true then (if t215 = bt225.2 then (hasplaw06_RowsDecodes.j0 k t214 bt221.1 bt225.1 ((strOfNums y208).toList != (strOfNums l1).toList)) else (hasplaw06_RowsDecodes.j0 k t214 bt221.1 bt225.1 true)) else (hasplaw06_RowsDecodes.j0 k t214 bt221.1 bt225.1 true))))) = some r := H
      have A8 := Aside0.mk A80
      clear A80
      replace H := Option.bind_eq_some_iff.mp H
      obtain ⟨⟨t221, t222⟩, A90, H⟩ := H
      obtain ⟨rfl, rfl⟩ : t214 = t221 ∧ t215 = t222 := by have q_ := Option.some.inj (A7.out.symm.trans A90); simpa only [Prod.mk.injEq] using q_
      replace H : ((haspref06_Decode.f k l0 l1).bind fun bt225 => ((haspref02_SameRow.f k t214 bt225.1).bind fun t229 => (if t229 = true then (if t215 = bt225.2 then (hasplaw06_RowsDecodes.j0 k t214 t214 bt225.1 ((strOfNums y208).toList != (strOfNums l1).toList)) else (hasplaw06_RowsDecodes.j0 k t214 t214 bt225.1 true)) else (hasplaw06_RowsDecodes.j0 k t214 t214 bt225.1 true)))) = some r := H
      have A9 := Aside0.mk A90
      clear A90
      replace H := Option.bind_eq_some_iff.mp H
      obtain ⟨⟨t225, t226⟩, A100, H⟩ := H
      replace H : ((haspref02_SameRow.f k t214 t225).bind fun t229 => (if t229 = true then (if t215 = t226 then (hasplaw06_RowsDecodes.j0 k t214 t214 t225 ((strOfNums y208).toList != (strOfNums l1).toList)) else (hasplaw06_RowsDecodes.j0 k t214 t214 t225 true)) else (hasplaw06_RowsDecodes.j0 k t214 t214 t225 true))) = some r := H
      have A10 := Aside0.mk A100
      clear A100
      have HC11 := Aside0.mk H
      clear H
      go_enter Try.func4, Try.ntmps4
      go_upto_region 7 with (first | ((with_reducible refine gate_callee (f := 8) rfl ?_); refine goesL_ (some 13) rfl rfl Try.func8 (by kernel_rfl) rfl #[] rfl (by (try simp only [List.map_toArray, List.map_cons, List.map_nil]); first | done | rfl | (simp only [List.length_drop, List.length_take]; rfl)) ?_; (with_reducible refine (hasplaw06_speaks.calls k  true _ A3.out).mono ?_); rintro e w12 ⟨rfl, hb⟩; refine ⟨_, rfl, ?_⟩; have n0_ := Aside0.mk (below_step (by repeat (first | (with_reducible first | exact HB.out | apply below_alloc | apply pw_below_drewN | apply below_drew1) | exact HB.out)) hb); clear HB; have HB := n0_; clear n0_; (try clear hb); (try clear hb2); (try clear hk); (try clear hi)) | ((with_reducible refine gate_dst (N := 15) rfl ?_); refine Kd.R_lit (Kd.int .u8) _ 5 ?hg (N := 15) ?hd (xs := ([] : List Int)) (inner := []) (ok := fun _ => True) (okp := fun _ => True) ?hr ?hp (fun _ hk => hk) trivial (Below.refl _ _) (Nat.le_refl _) (by simp) ?_; (case hd => rfl); (case hg => rfl); (case hr => first | (go_simp; done) | (go_simp; rfl)); (case hp => exact (Reps.none _ _)); intro v206 w13 ho14 hb hg_ hnew_; clear hg_ hnew_; (first | rw [← Ny205.out] at ho14 | (simp only [Int.reduceToNat] at ho14; rw [← Ny205.out] at ho14)); have n0_ := Aside0.mk (Kd.R_lower ho14 (below_size (by repeat (first | (with_reducible first | exact HB.out | apply below_alloc | apply pw_below_drewN | apply below_drew1) | exact HB.out)))); have n1_ := Aside0.mk (below_step (by repeat (first | (with_reducible first | exact HB.out | apply below_alloc | apply pw_below_drewN | apply below_drew1) | exact HB.out)) hb); clear HB; have HO207 := n0_; have HB := n1_; clear n0_ n1_; clear hb ho14) | ((with_reducible refine gate_builtin (b := .append) (xs := #[.tmp 15, .tmp 16]) rfl ?_); at_builtin; refine Kd.R_append_rows (Kd.int .u8) (w0 := w) w.heap.size rfl (.tmp 15) (.tmp 16) 27 5 (.int .u8 0) 1 rfl Try.underlying27 info5 rfl (by decide) (by omega) v206 y205 l1 _ _ _ (fun _ => True) (fun _ => False) rfl rfl ?aO ?aR (fun _ _ h => h) (fun _ h => h.elim) ?aF ?aB ?aS ?aL ?_; (case aR => repeat (first | exact (Kd.C_below HR1.out HB.out) | (with_reducible refine Kd.C_alloc ?_ _) | (with_reducible refine Kd.C_drewN ?_ _) | (with_reducible refine Kd.C_drew ?_))); (case aB => exact (by repeat (first | (with_reducible first | exact HB.out | apply below_alloc | apply pw_below_drewN | apply below_drew1) | exact HB.out))); (case aF => exact (fun _ _ => trivial)); (case aO => exact (by (with_reducible repeat (first | apply Kd.R_alloc | apply Kd.R_drewN | apply Kd.R_drew)); exact HO207.out)); (case aS => exact (below_size (by repeat (first | (with_reducible first | exact HB.out | apply below_alloc | apply pw_below_drewN | apply below_drew1) | exact HB.out)))); (case aL => have := LMc5.out; omega); intro v209 w15 ho hb hg hat; rw [← Ny208.out] at ho; have n0_ := Aside0.mk (hb); have n1_ := Aside0.mk (ho); clear HB; clear HO207; have HB := n0_; have HO210 := n1_; clear n0_ n1_; clear ho hb hg hat) | ((with_reducible refine gate_callee (f := 9) rfl ?_); refine goesL_ (some 20) rfl rfl Try.func9 (by kernel_rfl) rfl #[.slice A0 l0.length c0] rfl (by (try simp only [List.map_toArray, List.map_cons, List.map_nil]); first | done | rfl | (simp only [List.length_drop, List.length_take]; rfl)) ?_; (with_reducible refine (haspref06_CopyCols.calls k _ _ l0 t211 _ ?side1 ?side2 A6.out).mono ?_); (case side1 => repeat (first | exact (Kd.C_below HR0.out HB.out) | (with_reducible refine Kd.C_alloc ?_ _) | (with_reducible refine Kd.C_drewN ?_ _) | (with_reducible refine Kd.C_drew ?_))); (case side2 => exact HC0.out); rintro e w16 ⟨v212, rfl, ho0, hb⟩; refine ⟨_, rfl, ?_⟩; have n0_ := Aside0.mk (Kd.R_below (by (with_reducible repeat (first | apply Kd.R_alloc | apply Kd.R_drewN | apply Kd.R_drew)); exact HO210.out) hb); have n1_ := Aside0.mk (Kd.R_lower ho0 (below_size (by repeat (first | (with_reducible first | exact HB.out | apply below_alloc | apply pw_below_drewN | apply below_drew1) | exact HB.out)))); have n2_ := Aside0.mk (below_step (by repeat (first | (with_reducible first | exact HB.out | apply below_alloc | apply pw_below_drewN | apply below_drew1) | exact HB.out)) hb); clear HO210; clear HB; have HO210 := n0_; have HO213 := n1_; have HB := n2_; clear n0_ n1_ n2_; (try clear hb); (try clear hb2); (try clear hk); (try clear hi); (try clear ho0); obtain ⟨Ao17, co17, eo17⟩ := Kd.R_slice HO213.out; subst eo17; obtain ⟨Ao18, co18, eo18⟩ := Kd.R_slice HO210.out; subst eo18) | ((with_reducible refine gate_callee (f := 17) rfl ?_); refine goesL_ (some 22) rfl rfl Try.func17 (by kernel_rfl) rfl #[.slice Ao17 t211.length co17, .slice Ao18 y208.length co18] rfl (by (try simp only [List.map_toArray, List.map_cons, List.map_nil]); first | done | rfl | (simp only [List.length_drop, List.length_take]; rfl)) ?_; (with_reducible refine (rows_Decode.calls _ _ t211 _ _ y208 t214 t215 _ ?side1 ?side2 ?side3 ?side4 A7.out).mono ?_); (case side1 => repeat (first | exact (Kd.R_reads' HO213.out).2.2 | (with_reducible refine Kd.C_alloc ?_ _) | (with_reducible refine Kd.C_drewN ?_ _) | (with_reducible refine Kd.C_drew ?_))); (case side2 => exact (Kd.R_reads' HO213.out).2.1); (case side3 => repeat (first | exact (Kd.R_reads' HO210.out).2.2 | (with_reducible refine Kd.C_alloc ?_ _) | (with_reducible refine Kd.C_drewN ?_ _) | (with_reducible refine Kd.C_drew ?_))); (case side4 => exact (Kd.R_reads' HO210.out).2.1); rintro e w19 ⟨v216, rfl, ho0, hb⟩; refine ⟨_, rfl, ?_⟩; have n0_ := Aside0.mk (Kd.R_below (by (with_reducible repeat (first | apply Kd.R_alloc | apply Kd.R_drewN | apply Kd.R_drew)); exact HO210.out) hb); have n1_ := Aside0.mk (Kd.R_below (by (with_reducible repeat (first | apply Kd.R_alloc | apply Kd.R_drewN | apply Kd.R_drew)); exact HO213.out) hb); have n2_ := Aside0.mk (Kd.R_lower ho0 (below_size (by repeat (first | (with_reducible first | exact HB.out | apply below_alloc | apply pw_below_drewN | apply below_drew1) | exact HB.out)))); have n3_ := Aside0.mk (below_step (by repeat (first | (with_reducible first | exact HB.out | apply below_alloc | apply pw_below_drewN | apply below_drew1) | exact HB.out)) hb); clear HO210; clear HO213; clear HB; have HO210 := n0_; have HO213 := n1_; have HO217 := n2_; have HB := n3_; clear n0_ n1_ n2_ n3_; (try clear hb); (try clear hb2); (try clear hk); (try clear hi); (try clear ho0)) | ((with_reducible refine gate_callee (f := 9) rfl ?_); refine goesL_ (some 27) rfl rfl Try.func9 (by kernel_rfl) rfl #[.slice A0 l0.length c0] rfl (by (try simp only [List.map_toArray, List.map_cons, List.map_nil]); first | done | rfl | (simp only [List.length_drop, List.length_take]; rfl)) ?_; (with_reducible refine (haspref06_CopyCols.calls k _ _ l0 t211 _ ?side1 ?side2 A8.out).mono ?_); (case side1 => repeat (first | exact (Kd.C_below HR0.out HB.out) | (with_reducible refine Kd.C_alloc ?_ _) | (with_reducible refine Kd.C_drewN ?_ _) | (with_reducible refine Kd.C_drew ?_))); (case side2 => exact HC0.out); rintro e w20 ⟨v219, rfl, ho0, hb⟩; refine ⟨_, rfl, ?_⟩; have n0_ := Aside0.mk (Kd.R_below (by (with_reducible repeat (first | apply Kd.R_alloc | apply Kd.R_drewN | apply Kd.R_drew)); exact HO210.out) hb); have n1_ := Aside0.mk (Kd.R_elder' (by (with_reducible repeat (first | apply Kd.R_alloc | apply Kd.R_drewN | apply Kd.R_drew)); exact HO213.out) (Kd.R_base ho0) hb); have n2_ := Aside0.mk (Kd.R_below (by (with_reducible repeat (first | apply Kd.R_alloc | apply Kd.R_drewN | apply Kd.R_drew)); exact HO217.out) hb); have n3_ := Aside0.mk (Kd.R_lower (Kd.R_new' ho0 (Kd.R_lt (by (with_reducible repeat (first | apply Kd.R_alloc | apply Kd.R_drewN | apply Kd.R_drew)); exact HO213.out))) (below_size (by repeat (first | (with_reducible first | exact HB.out | apply below_alloc | apply pw_below_drewN | apply below_drew1) | exact HB.out)))); have n4_ := Aside0.mk (below_step (by repeat (first | (with_reducible first | exact HB.out | apply below_alloc | apply pw_below_drewN | apply below_drew1) | exact HB.out)) hb); clear HO210; clear HO213; clear HO217; clear HB; have HO210 := n0_; have HO213 := n1_; have HO217 := n2_; have HO220 := n3_; have HB := n4_; clear n0_ n1_ n2_ n3_ n4_; (try clear hb); (try clear hb2); (try clear hk); (try clear hi); (try clear ho0); obtain ⟨Ao21, co21, eo21⟩ := Kd.R_slice HO220.out; subst eo21) | ((with_reducible refine gate_callee (f := 17) rfl ?_); refine goesL_ (some 29) rfl rfl Try.func17 (by kernel_rfl) rfl #[.slice Ao21 t211.length co21, .slice Ao18 y208.length co18] rfl (by (try simp only [List.map_toArray, List.map_cons, List.map_nil]); first | done | rfl | (simp only [List.length_drop, List.length_take]; rfl)) ?_; (with_reducible refine (rows_Decode.calls _ _ t211 _ _ y208 t214 t215 _ ?side1 ?side2 ?side3 ?side4 A9.out).mono ?_); (case side1 => repeat (first | exact (Kd.R_reads' HO220.out).2.2 | (with_reducible refine Kd.C_alloc ?_ _) | (with_reducible refine Kd.C_drewN ?_ _) | (with_reducible refine Kd.C_drew ?_))); (case side2 => exact (Kd.R_reads' HO220.out).2.1); (case side3 => repeat (first | exact (Kd.R_reads' HO210.out).2.2 | (with_reducible refine Kd.C_alloc ?_ _) | (with_reducible refine Kd.C_drewN ?_ _) | (with_reducible refine Kd.C_drew ?_))); (case side4 => exact (Kd.R_reads' HO210.out).2.1); rintro e w22 ⟨v223, rfl, ho0, hb⟩; refine ⟨_, rfl, ?_⟩; have n0_ := Aside0.mk (Kd.R_below (by (with_reducible repeat (first | apply Kd.R_alloc | apply Kd.R_drewN | apply Kd.R_drew)); exact HO210.out) hb); have n1_ := Aside0.mk (Kd.R_below (by (with_reducible repeat (first | apply Kd.R_alloc | apply Kd.R_drewN | apply Kd.R_drew)); exact HO213.out) hb); have n2_ := Aside0.mk (Kd.R_elder' (by (with_reducible repeat (first | apply Kd.R_alloc | apply Kd.R_drewN | apply Kd.R_drew)); exact HO217.out) (Kd.R_base ho0) hb); have n3_ := Aside0.mk (Kd.R_below (by (with_reducible repeat (first | apply Kd.R_alloc | apply Kd.R_drewN | apply Kd.R_drew)); exact HO220.out) hb); have n4_ := Aside0.mk (Kd.R_lower (Kd.R_new' ho0 (Kd.R_lt (by (with_reducible repeat (first | apply Kd.R_alloc | apply Kd.R_drewN | apply Kd.R_drew)); exact HO217.out))) (below_size (by repeat (first | (with_reducible first | exact HB.out | apply below_alloc | apply pw_below_drewN | apply below_drew1) | exact HB.out)))); have n5_ := Aside0.mk (below_step (by repeat (first | (with_reducible first | exact HB.out | apply below_alloc | apply pw_below_drewN | apply below_drew1) | exact HB.out)) hb); clear HO210; clear HO213; clear HO217; clear HO220; clear HB; have HO210 := n0_; have HO213 := n1_; have HO217 := n2_; have HO220 := n3_; have HO224 := n4_; have HB := n5_; clear n0_ n1_ n2_ n3_ n4_ n5_; (try clear hb); (try clear hb2); (try clear hk); (try clear hi); (try clear ho0)) | ((with_reducible refine gate_callee (f := 18) rfl ?_); refine goesL_ (some 35) rfl rfl Try.func18 (by kernel_rfl) rfl #[.slice A0 l0.length c0, .slice A1 l1.length c1] rfl (by (try simp only [List.map_toArray, List.map_cons, List.map_nil]); first | done | rfl | (simp only [List.length_drop, List.length_take]; rfl)) ?_; (with_reducible refine (haspref06_Decode.calls k _ _ l0 _ _ l1 t225 t226 _ ?side1 ?side2 ?side3 ?side4 A10.out).mono ?_); (case side1 => repeat (first | exact (Kd.C_below HR0.out HB.out) | (with_reducible refine Kd.C_alloc ?_ _) | (with_reducible refine Kd.C_drewN ?_ _) | (with_reducible refine Kd.C_drew ?_))); (case side2 => exact HC0.out); (case side3 => repeat (first | exact (Kd.C_below HR1.out HB.out) | (with_reducible refine Kd.C_alloc ?_ _) | (with_reducible refine Kd.C_drewN ?_ _) | (with_reducible refine Kd.C_drew ?_))); (case side4 => exact HC1.out); rintro e w23 ⟨v227, rfl, ho0, hb⟩; refine ⟨_, rfl, ?_⟩; have n0_ := Aside0.mk (Kd.R_below (by (with_reducible repeat (first | apply Kd.R_alloc | apply Kd.R_drewN | apply Kd.R_drew)); exact HO210.out) hb); have n1_ := Aside0.mk (Kd.R_below (by (with_reducible repeat (first | apply Kd.R_alloc | apply Kd.R_drewN | apply Kd.R_drew)); exact HO213.out) hb); have n2_ := Aside0.mk (Kd.R_elder' (by (with_reducible repeat (first | apply Kd.R_alloc | apply Kd.R_drewN | apply Kd.R_drew)); exact HO217.out) (Kd.R_base ho0) hb); have n3_ := Aside0.mk (Kd.R_below (by (with_reducible repeat (first | apply Kd.R_alloc | apply Kd.R_drewN | apply Kd.R_drew)); exact HO220.out) hb); have n4_ := Aside0.mk (Kd.R_elder' (by (with_reducible repeat (first | apply Kd.R_alloc | apply Kd.R_drewN | apply Kd.R_drew)); exact HO224.out) (Kd.R_base ho0) hb); have n5_ := Aside0.mk (Kd.R_lower (Kd.R_new' (Kd.R_new' ho0 (Kd.R_lt (by (with_reducible repeat (first | apply Kd.R_alloc | apply Kd.R_drewN | apply Kd.R_drew)); exact HO217.out))) (Kd.R_lt (by (with_reducible repeat (first | apply Kd.R_alloc | apply Kd.R_drewN | apply Kd.R_drew)); exact HO224.out))) (below_size (by repeat (first | (with_reducible first | exact HB.out | apply below_alloc | apply pw_below_drewN | apply below_drew1) | exact HB.out)))); have n6_ := Aside0.mk (below_step (by repeat (first | (with_reducible first | exact HB.out | apply below_alloc | apply pw_below_drewN | apply below_drew1) | exact HB.out)) hb); clear HO210; clear HO213; clear HO217; clear HO220; clear HO224; clear HB; have HO210 := n0_; have HO213 := n1_; have HO217 := n2_; have HO220 := n3_; have HO224 := n4_; have HO228 := n5_; have HB := n6_; clear n0_ n1_ n2_ n3_ n4_ n5_ n6_; (try clear hb); (try clear hb2); (try clear hk); (try clear hi); (try clear ho0)))
      (try simp only [Act.put, List.setIfInBounds_toArray, List.set_cons_zero, List.set_cons_succ])
      go_cut [53] (fun v53 wc => ∃ (kq : Nat) (x53_10 : Bool), v53 = .bool x53_10 ∧ Aside0 (hasplaw06_RowsDecodes.j0 kq t214 t214 t225 x53_10 = some r) ∧ Aside0 (kq ≤ k) ∧ Aside0 (Kd.R k43 43 wc w.heap.size (fun k_ => some k_ ≠ (v223 : Value).ownBlock ∧ some k_ ≠ (v227 : Value).ownBlock) v216 t214) ∧ Aside0 (Kd.R k43 43 wc w.heap.size (fun k_ => some k_ ≠ (v216 : Value).ownBlock ∧ some k_ ≠ (v227 : Value).ownBlock) v223 t214) ∧ Aside0 (Kd.R k43 43 wc w.heap.size (fun k_ => some k_ ≠ (v216 : Value).ownBlock ∧ some k_ ≠ (v223 : Value).ownBlock) v227 t225) ∧ Aside0 (Below w.heap.size w wc))
      case first =>
        have H := HC11.out
        clear HC11
        replace H := Option.bind_eq_some_iff.mp H
        obtain ⟨t229, A240, H⟩ := H
        replace H : (if t229 = true then (if t215 = t226 then (hasplaw06_RowsDecodes.j0 k t214 t214 t225 ((strOfNums y208).toList != (strOfNums l1).toList)) else (hasplaw06_RowsDecodes.j0 k t214 t214 t225 true)) else (hasplaw06_RowsDecodes.j0 k t214 t214 t225 true)) = some r := H
        have A24 := Aside0.mk A240
        clear A240
        by_cases c25 : t229 = true
        · subst c25
          have H1 : (if t215 = t226 then (hasplaw06_RowsDecodes.j0 k t214 t214 t225 ((strOfNums y208).toList != (strOfNums l1).toList)) else (hasplaw06_RowsDecodes.j0 k t214 t214 t225 true)) = some r := by rw [if_pos rfl] at H; exact H
          clear H
          have H := H1
          clear H1
          by_cases c26 : t215 = t226
          · rw [if_pos c26] at H
            have c26b0 : (t215 == t226) = true := beq_iff_eq.mpr c26
            have c26b1 : (t215 != t226) = false := bne_eq_false_iff_eq.mpr c26
            clear c26
            (first | rw [c26b0] | (simp only [i64_w, i32_w]; rw [c26b0]) | skip)
            have H' := Aside0.mk H
            clear H
            obtain ⟨Ao27, co27, eo27⟩ := Kd.R_slice HO217.out
            subst eo27
            obtain ⟨Ao28, co28, eo28⟩ := Kd.R_slice HO228.out
            subst eo28
            go_wp2_with (first | ((with_reducible refine gate_callee (f := 16) rfl ?_); refine goesL_ (some 40) rfl rfl Try.func16 (by kernel_rfl) rfl #[.slice Ao27 t214.length co27, .slice Ao28 t225.length co28] rfl (by (try simp only [List.map_toArray, List.map_cons, List.map_nil]); first | done | rfl | (simp only [List.length_drop, List.length_take]; rfl)) ?_; (with_reducible refine (haspref02_SameRow.calls k _ _ t214 _ _ t225 true _ ?side1 ?side2 ?side3 ?side4 A24.out).mono ?_); (case side1 => repeat (first | exact (Kd.R_reads' HO217.out).2.2 | (with_reducible refine Kd.C_alloc ?_ _) | (with_reducible refine Kd.C_drewN ?_ _) | (with_reducible refine Kd.C_drew ?_))); (case side2 => exact (Kd.R_reads' HO217.out).2.1); (case side3 => repeat (first | exact (Kd.R_reads' HO228.out).2.2 | (with_reducible refine Kd.C_alloc ?_ _) | (with_reducible refine Kd.C_drewN ?_ _) | (with_reducible refine Kd.C_drew ?_))); (case side4 => exact (Kd.R_reads' HO228.out).2.1); rintro e w' ⟨rfl, ⟨nd, rfl⟩⟩; refine ⟨_, rfl, ?_⟩; have hcv29 := own_string (P := Try.prog) Try.underlying27 Try.underlying5 Try.underlying9 (Kd.own_of_R (Kd.R_drewN HO210.out nd)); have hcv30 := Kd.C_string (P := Try.prog) (A := A1) (c := c1) Try.underlying27 Try.underlying5 Try.underlying9 (Kd.C_below HR1.out (pw_below_drewN HB.out nd))))
            go_meet
            case rel => exact ⟨_, (((strOfNums y208).toList != (strOfNums l1).toList)), (by first | rfl | (simp; done) | (simp [*]; done) | (simp; exact isEmpty_bne _) | (simp [*]; exact isEmpty_bne _)), H', ⟨by first | omega | exact Nat.le_refl _⟩, ⟨by (with_reducible repeat (first | apply Kd.R_alloc | apply Kd.R_drewN | apply Kd.R_drew)); exact Kd.R_mono HO217.out (fun _ hk => ⟨hk.1.2, hk.2⟩)⟩, ⟨by (with_reducible repeat (first | apply Kd.R_alloc | apply Kd.R_drewN | apply Kd.R_drew)); exact Kd.R_mono HO224.out (fun _ hk => ⟨hk.1.2, hk.2⟩)⟩, ⟨by (with_reducible repeat (first | apply Kd.R_alloc | apply Kd.R_drewN | apply Kd.R_drew)); exact Kd.R_mono HO228.out (fun _ hk => ⟨hk.1.2, hk.2⟩)⟩, ⟨by repeat (first | (with_reducible first | exact HB.out | apply below_alloc | apply pw_below_drewN | apply below_drew1) | exact HB.out)⟩⟩
          · rw [if_neg c26] at H
            have c26b0 : (t215 == t226) = false := beq_eq_false_iff_ne.mpr c26
            have c26b1 : (t215 != t226) = true := bne_iff_ne.mpr c26
            (first | rw [c26b0] | (simp only [i64_w, i32_w]; rw [c26b0]) | skip)
            have H' := Aside0.mk H
            clear H
            obtain ⟨Ao31, co31, eo31⟩ := Kd.R_slice HO217.out
            subst eo31
            obtain ⟨Ao32, co32, eo32⟩ := Kd.R_slice HO228.out
            subst eo32
            go_wp2_with (first | ((with_reducible refine gate_callee (f := 16) rfl ?_); refine goesL_ (some 40) rfl rfl Try.func16 (by kernel_rfl) rfl #[.slice Ao31 t214.length co31, .slice Ao32 t225.length co32] rfl (by (try simp only [List.map_toArray, List.map_cons, List.map_nil]); first | done | rfl | (simp only [List.length_drop, List.length_take]; rfl)) ?_; (with_reducible refine (haspref02_SameRow.calls k _ _ t214 _ _ t225 true _ ?side1 ?side2 ?side3 ?side4 A24.out).mono ?_); (case side1 => repeat (first | exact (Kd.R_reads' HO217.out).2.2 | (with_reducible refine Kd.C_alloc ?_ _) | (with_reducible refine Kd.C_drewN ?_ _) | (with_reducible refine Kd.C_drew ?_))); (case side2 => exact (Kd.R_reads' HO217.out).2.1); (case side3 => repeat (first | exact (Kd.R_reads' HO228.out).2.2 | (with_reducible refine Kd.C_alloc ?_ _) | (with_reducible refine Kd.C_drewN ?_ _) | (with_reducible refine Kd.C_drew ?_))); (case side4 => exact (Kd.R_reads' HO228.out).2.1); rintro e w' ⟨rfl, ⟨nd, rfl⟩⟩; refine ⟨_, rfl, ?_⟩))
            go_meet
            case rel => exact ⟨_, (true), (by first | rfl | (simp; done) | (simp [*]; done) | (simp; exact isEmpty_bne _) | (simp [*]; exact isEmpty_bne _)), H', ⟨by first | omega | exact Nat.le_refl _⟩, ⟨by (with_reducible repeat (first | apply Kd.R_alloc | apply Kd.R_drewN | apply Kd.R_drew)); exact Kd.R_mono HO217.out (fun _ hk => ⟨hk.1.2, hk.2⟩)⟩, ⟨by (with_reducible repeat (first | apply Kd.R_alloc | apply Kd.R_drewN | apply Kd.R_drew)); exact Kd.R_mono HO224.out (fun _ hk => ⟨hk.1.2, hk.2⟩)⟩, ⟨by (with_reducible repeat (first | apply Kd.R_alloc | apply Kd.R_drewN | apply Kd.R_drew)); exact Kd.R_mono HO228.out (fun _ hk => ⟨hk.1.2, hk.2⟩)⟩, ⟨by repeat (first | (with_reducible first | exact HB.out | apply below_alloc | apply pw_below_drewN | apply below_drew1) | exact HB.out)⟩⟩
        · replace c25 := Bool.eq_false_iff.mpr c25
          subst c25
          have H1 : (hasplaw06_RowsDecodes.j0 k t214 t214 t225 true) = some r := by rw [if_neg (show ¬ (false = true) by decide)] at H; exact H
          clear H
          have H := H1
          clear H1
          have H' := Aside0.mk H
          clear H
          obtain ⟨Ao33, co33, eo33⟩ := Kd.R_slice HO217.out
          subst eo33
          obtain ⟨Ao34, co34, eo34⟩ := Kd.R_slice HO228.out
          subst eo34
          go_wp2_with (first | ((with_reducible refine gate_callee (f := 16) rfl ?_); refine goesL_ (some 40) rfl rfl Try.func16 (by kernel_rfl) rfl #[.slice Ao33 t214.length co33, .slice Ao34 t225.length co34] rfl (by (try simp only [List.map_toArray, List.map_cons, List.map_nil]); first | done | rfl | (simp only [List.length_drop, List.length_take]; rfl)) ?_; (with_reducible refine (haspref02_SameRow.calls k _ _ t214 _ _ t225 false _ ?side1 ?side2 ?side3 ?side4 A24.out).mono ?_); (case side1 => repeat (first | exact (Kd.R_reads' HO217.out).2.2 | (with_reducible refine Kd.C_alloc ?_ _) | (with_reducible refine Kd.C_drewN ?_ _) | (with_reducible refine Kd.C_drew ?_))); (case side2 => exact (Kd.R_reads' HO217.out).2.1); (case side3 => repeat (first | exact (Kd.R_reads' HO228.out).2.2 | (with_reducible refine Kd.C_alloc ?_ _) | (with_reducible refine Kd.C_drewN ?_ _) | (with_reducible refine Kd.C_drew ?_))); (case side4 => exact (Kd.R_reads' HO228.out).2.1); rintro e w' ⟨rfl, ⟨nd, rfl⟩⟩; refine ⟨_, rfl, ?_⟩))
          go_meet
          case rel => exact ⟨_, (true), (by first | rfl | (simp; done) | (simp [*]; done) | (simp; exact isEmpty_bne _) | (simp [*]; exact isEmpty_bne _)), H', ⟨by first | omega | exact Nat.le_refl _⟩, ⟨by (with_reducible repeat (first | apply Kd.R_alloc | apply Kd.R_drewN | apply Kd.R_drew)); exact Kd.R_mono HO217.out (fun _ hk => ⟨hk.1.2, hk.2⟩)⟩, ⟨by (with_reducible repeat (first | apply Kd.R_alloc | apply Kd.R_drewN | apply Kd.R_drew)); exact Kd.R_mono HO224.out (fun _ hk => ⟨hk.1.2, hk.2⟩)⟩, ⟨by (with_reducible repeat (first | apply Kd.R_alloc | apply Kd.R_drewN | apply Kd.R_drew)); exact Kd.R_mono HO228.out (fun _ hk => ⟨hk.1.2, hk.2⟩)⟩, ⟨by repeat (first | (with_reducible first | exact HB.out | apply below_alloc | apply pw_below_drewN | apply below_drew1) | exact HB.out)⟩⟩
      case rest =>
        clear HC11
        try clear c1
        try clear c2
        try clear p2
        try clear hcv2
        try clear hcv3
        try clear c4
        try clear c5
        try clear c8
        try clear c9
        try clear c16
        try clear c17
        try clear c18
        try clear c25
        try clear c26
        try clear c26b0
        try clear c26b1
        try clear hcv29
        try clear hcv30
        obtain ⟨kq, x53_10, rfl, HA, HJ10, HO_6, HO_8, HO_10, HB⟩ := hcut
        cases kq with
        | zero => exact absurd HA.out (by simp [hasplaw06_RowsDecodes.j0])
        | succ kj10 =>
          have H := HA.out
          clear HA
          simp only [hasplaw06_RowsDecodes.j0] at H
          by_cases c35 : x53_10 = true
          · subst c35
            have H1 : (some false) = some r := by rw [if_pos rfl] at H; exact H
            clear H
            have H := H1
            clear H1
            obtain rfl := Option.some.inj H
            go_wp2
            go_ret
            exact ⟨by first | rfl | (simp [errW_none, errW_some] <;> rfl) | (simp [*, errW_none, errW_some] <;> rfl), by repeat (first | (with_reducible first | exact HB.out | apply below_alloc | apply pw_below_drewN | apply below_drew1) | exact HB.out)⟩
          · replace c35 := Bool.eq_false_iff.mpr c35
            subst c35
            have H1 : (hasplaw06_RowsDecodes.l0 kj10 t214 t214 t225 (t214.length : Int) 0) = some r := by rw [if_neg (show ¬ (false = true) by decide)] at H; exact H
            clear H
            have H := H1
            clear H1
            have H' := Aside0.mk H
            clear H
            obtain ⟨Ao36, co36, eo36⟩ := Kd.R_slice HO_6.out
            subst eo36
            go_wp2
            go_loopg [56] kj10 (fun kq v56 w' => ∃ (x6_2 : List (S43)) (x56_2 : Int), v56 = .int .i64 x56_2 ∧ Aside0 (hasplaw06_RowsDecodes.l0 kq x6_2 t214 t225 (t214.length : Int) x56_2 = some r) ∧ Aside0 (kq ≤ kj10) ∧ Aside0 (Kd.R k43 43 w' w.heap.size (fun k_ => some k_ ≠ (v223 : Value).ownBlock ∧ some k_ ≠ (v227 : Value).ownBlock) (.slice Ao36 t214.length co36) x6_2) ∧ Aside0 (Kd.R k43 43 w' w.heap.size (fun k_ => some k_ ≠ ((.slice Ao36 t214.length co36) : Value).ownBlock ∧ some k_ ≠ (v227 : Value).ownBlock) v223 t214) ∧ Aside0 (Kd.R k43 43 w' w.heap.size (fun k_ => some k_ ≠ ((.slice Ao36 t214.length co36) : Value).ownBlock ∧ some k_ ≠ (v223 : Value).ownBlock) v227 t225) ∧ Aside0 (Below w.heap.size w w'))
            case atStart => exact ⟨(t214), (0), (by first | rfl | (simp; done) | (simp [*]; done) | (simp; exact isEmpty_bne _) | (simp [*]; exact isEmpty_bne _)), H', ⟨Nat.le_refl _⟩, ⟨by (with_reducible repeat (first | apply Kd.R_alloc | apply Kd.R_drewN | apply Kd.R_drew)); exact HO_6.out⟩, ⟨by (with_reducible repeat (first | apply Kd.R_alloc | apply Kd.R_drewN | apply Kd.R_drew)); exact HO_8.out⟩, ⟨by (with_reducible repeat (first | apply Kd.R_alloc | apply Kd.R_drewN | apply Kd.R_drew)); exact HO_10.out⟩, ⟨by repeat (first | (with_reducible first | exact HB.out | apply below_alloc | apply pw_below_drewN | apply below_drew1) | exact HB.out)⟩⟩
            case round =>
              clear H'
              try clear c1
              try clear c2
              try clear p2
              try clear hcv2
              try clear c3
              try clear hcv3
              try clear c4
              try clear c5
              try clear c8
              try clear c9
              try clear c16
              try clear c17
              try clear c18
              try clear c25
              try clear c26
              try clear c26b0
              try clear c26b1
              try clear hcv29
              try clear hcv30
              try clear c35
              try clear p2
              obtain ⟨x6_2, x56_2, rfl, HA, HK2, HO_6, HO_8, HO_10, HB⟩ := hrel
              have hl6_2 := (Kd.R_reads' HO_6.out).1
              rw [hl6_2] at HO_6
              (try simp only [hl6_2])
              (try simp only [hl6_2] at HO_8)
              (try simp only [hl6_2] at HO_10)
              cases gk with
              | zero => exact absurd HA.out (by simp [hasplaw06_RowsDecodes.l0])
              | succ k2 =>
                have H := HA.out
                clear HA
                simp only [hasplaw06_RowsDecodes.l0] at H
                by_cases c37 : x56_2 < (t214.length : Int)
                · rw [if_pos c37] at H
                  have c37b0 : decide (x56_2 < (t214.length : Int)) = true := decide_eq_true c37
                  clear c37
                  by_cases c38 : 0 ≤ x56_2
                  · rw [if_pos c38] at H
                    have c38b0 : decide (0 ≤ x56_2) = true := decide_eq_true c38
                    clear c38
                    by_cases c39 : x56_2 < (x6_2.length : Int)
                    · rw [if_pos c39] at H
                      have c39b0 : decide (x56_2 < (x6_2.length : Int)) = true := decide_eq_true c39
                      clear c39
                      obtain ⟨y230, hy230⟩ : ∃ y_ : List (S43), y_ = (x6_2.set (x56_2 : Int).toNat (⟨9, 0, (⟨#[]⟩ : ByteArray)⟩ : S43)) := ⟨_, rfl⟩
                      replace H : (hasplaw06_RowsDecodes.l0 k2 y230 t214 t225 (t214.length : Int) (wrap64 (x56_2 + 1))) = some r := by first | (rw [hy230]; with_reducible exact H) | (have H2_ := (Option.bind_some _ _).symm.trans H; rw [hy230]; with_reducible exact H2_) | (have H2_ := (Option.bind_some _ _).symm.trans H; with_reducible exact H2_) | with_reducible exact H | (rw [hy230]; exact H) | exact H
                      have Ny230 := Aside0.mk hy230
                      clear hy230
                      have H' := Aside0.mk H
                      clear H
                      have p40 : 0 ≤ (x56_2 : Int) := of_decide_eq_true (by first | (with_reducible assumption) | assumption)
                      have q40 : (x56_2 : Int) < ((x6_2.length : Int) : Int) := of_decide_eq_true (by first | (with_reducible assumption) | assumption)
                      obtain ⟨go40, co40, eo40, gb40, gl40, cl40, HG40⟩ := Kd.R_form HO_6.out (by omega)
                      (first | cases eo40 | (injection eo40 with ea_ en_ ec_; (first | subst ea_ | (injection ea_ with ea_; subst ea_)); subst ec_; clear en_))
                      have GB40 := Aside0.mk gb40
                      have GG40 := Aside0.mk HG40
                      clear gb40 gl40 HG40
                      obtain ⟨ce40, hcl40, hM40, hcc40, hfr40⟩ := Kd.R_elem HO_6.out z43 (x56_2 : Int) p40 q40
                      obtain rfl := k43_openM hM40
                      have hx40_0 : wr.cell? ⟨go40, (x56_2 : Int).toNat * 3, none⟩ = some (.int .i64 ((rd_T43 x6_2 x56_2).f0)) := hcc40 0 _ rfl
                      have hx40_1 : wr.cell? ⟨go40, (x56_2 : Int).toNat * 3 + 1, none⟩ = some (.int .i64 ((rd_T43 x6_2 x56_2).f1)) := hcc40 1 _ rfl
                      have hx40_2 : wr.cell? ⟨go40, (x56_2 : Int).toNat * 3 + 2, none⟩ = some (.string ((rd_T43 x6_2 x56_2).f2)) := hcc40 2 _ rfl
                      have hf40_0 : wr.frozen? ⟨go40, (x56_2 : Int).toNat * 3, none⟩ = false := hfr40 0
                      have hf40_1 : wr.frozen? ⟨go40, (x56_2 : Int).toNat * 3 + 1, none⟩ = false := hfr40 1
                      have hf40_2 : wr.frozen? ⟨go40, (x56_2 : Int).toNat * 3 + 2, none⟩ = false := hfr40 2
                      clear hcl40 hcc40 hfr40 hM40
                      replace p40 := eq_true p40
                      replace q40 := eq_true q40
                      have HX41 := Aside0.mk (show Kd.R k43 43 wr w.heap.size (fun k_ => some k_ ≠ (v223 : Value).ownBlock ∧ some k_ ≠ (v227 : Value).ownBlock) (.slice (some ⟨go40, 0, none⟩) x6_2.length co36) x6_2 from (by (with_reducible repeat (first | apply Kd.R_alloc | apply Kd.R_drewN | apply Kd.R_drew)); exact HO_6.out))
                      obtain ⟨ce41, hcl41, hM41, hcc41, hfr41⟩ := Kd.R_elem HX41.out z43 (x56_2 : Int) (of_decide_eq_true (by first | (with_reducible assumption) | assumption)) (by have h_ : (x56_2 : Int) < ((x6_2.length : Int) : Int) := of_decide_eq_true (by first | (with_reducible assumption) | assumption); first | exact h_ | (have e_ := (Kd.R_reads' HO_6.out).1; omega) | simpa using h_)
                      obtain rfl := k43_openM hM41
                      have HP41 := Kd.R_seg HX41.out (x56_2 : Int) (of_decide_eq_true (by first | (with_reducible assumption) | assumption)) (by have h_ : (x56_2 : Int) < ((x6_2.length : Int) : Int) := of_decide_eq_true (by first | (with_reducible assumption) | assumption); first | exact h_ | (have e_ := (Kd.R_reads' HO_6.out).1; omega) | simpa using h_) (seg := [.int .i64 9, .int .i64 0, .string (⟨#[]⟩ : ByteArray)]) (j := 0) hcl41 hcc41 (show 3 ≤ 3 from by decide) (x' := (⟨9, 0, (⟨#[]⟩ : ByteArray)⟩ : S43)) (k43_mkM _ _ _ (⟨9, 0, (⟨#[]⟩ : ByteArray)⟩ : S43) ) (fun _ hk => hk)
                      have hx41_0 := hcc41 0 _ rfl
                      (try simp only [show (k43).sz = 3 from rfl, Nat.mul_one, Nat.add_zero] at hx41_0)
                      have hf41_0 := hfr41 0
                      (try simp only [show (k43).sz = 3 from rfl, Nat.mul_one, Nat.add_zero] at hf41_0)
                      have hx41_1 := hcc41 1 _ rfl
                      (try simp only [show (k43).sz = 3 from rfl, Nat.mul_one, Nat.add_zero] at hx41_1)
                      have hf41_1 := hfr41 1
                      (try simp only [show (k43).sz = 3 from rfl, Nat.mul_one, Nat.add_zero] at hf41_1)
                      have hx41_2 := hcc41 2 _ rfl
                      (try simp only [show (k43).sz = 3 from rfl, Nat.mul_one, Nat.add_zero] at hx41_2)
                      have hf41_2 := hfr41 2
                      (try simp only [show (k43).sz = 3 from rfl, Nat.mul_one, Nat.add_zero] at hf41_2)
                      clear hcl41 hcc41 hfr41 hM41
                      go_wp2_with (first | ((with_reducible refine gate_store (t := 43) (p := 62) rfl ?_); refine store_event (t := 43) (p := 62) (v := ?vo_w42) (w1 := (((wr.setCell ⟨go40, (x56_2 : Int).toNat * 3, none⟩ (.int .i64 9)).setCell ⟨go40, (x56_2 : Int).toNat * 3 + 1, none⟩ (.int .i64 0)).setCell ⟨go40, (x56_2 : Int).toNat * 3 + 2, none⟩ (.string (⟨#[]⟩ : ByteArray)))) ?hg ?ho ?hn ?hr ?_; (case ho => rfl); (case hg => rfl); (case hn => rfl); (case hr => first | (go_simp; done) | (go_simp; rfl)); intro w42 hw; have hg : wr.grownBy w42 (some go40) := (by rw [hw]; exact HP41.2); have hp_ : Kd.R k43 43 w42 w.heap.size (fun k_ => some k_ ≠ (v223 : Value).ownBlock ∧ some k_ ≠ (v227 : Value).ownBlock) (.slice (some ⟨go40, 0, none⟩) x6_2.length co36) y230 := (by rw [hw, Ny230.out]; exact HP41.1); clear HP41; have n0_ := Aside0.mk (hp_); have n1_ := Aside0.mk (Kd.R_after (v := (.slice (some ⟨go40, 0, none⟩) x6_2.length co36)) (v1 := (.slice (some ⟨go40, 0, none⟩) x6_2.length co36)) (ok := (fun k_ => some k_ ≠ (v227 : Value).ownBlock)) (by (with_reducible repeat (first | apply Kd.R_alloc | apply Kd.R_drewN | apply Kd.R_drew)); exact Kd.R_mono HO_8.out (fun _ hk => ⟨hk.2, hk.1⟩)) hg (.inl rfl)); have n2_ := Aside0.mk (Kd.R_after (v := (.slice (some ⟨go40, 0, none⟩) x6_2.length co36)) (v1 := (.slice (some ⟨go40, 0, none⟩) x6_2.length co36)) (ok := (fun k_ => some k_ ≠ (v223 : Value).ownBlock)) (by (with_reducible repeat (first | apply Kd.R_alloc | apply Kd.R_drewN | apply Kd.R_drew)); exact Kd.R_mono HO_10.out (fun _ hk => ⟨hk.2, hk.1⟩)) hg (.inl rfl)); have n3_ := Aside0.mk ((by rw [hw]; exact below_set (below_set (below_set (HB.out) GB40.out) GB40.out) GB40.out : Below w.heap.size w w42)); clear HO_6; clear HO_8; clear HO_10; clear HB; have HO_6 := n0_; have HO_8 := n1_; have HO_10 := n2_; have HB := n3_; clear n0_ n1_ n2_ n3_; clear hg hw hp_))
                      (try simp only [← hl6_2])
                      go_roundg k2
                      case measure => have := HJ10.out; have := HK2.out; omega
                      case rel => exact ⟨(y230), (wrap64 (x56_2 + 1)), (by first | rfl | (simp; done) | (simp [*]; done) | (simp; exact isEmpty_bne _) | (simp [*]; exact isEmpty_bne _)), H', ⟨by have := HJ10.out; have := HK2.out; omega⟩, ⟨by (try simp only [hl6_2]); (with_reducible repeat (first | apply Kd.R_alloc | apply Kd.R_drewN | apply Kd.R_drew)); exact HO_6.out⟩, ⟨by (try simp only [hl6_2]); (with_reducible repeat (first | apply Kd.R_alloc | apply Kd.R_drewN | apply Kd.R_drew)); exact Kd.R_mono HO_8.out (fun _ hk => ⟨hk.2, hk.1⟩)⟩, ⟨by (try simp only [hl6_2]); (with_reducible repeat (first | apply Kd.R_alloc | apply Kd.R_drewN | apply Kd.R_drew)); exact Kd.R_mono HO_10.out (fun _ hk => ⟨hk.2, hk.1⟩)⟩, ⟨by repeat (first | (with_reducible first | exact HB.out | apply below_alloc | apply pw_below_drewN | apply below_drew1) | exact HB.out)⟩⟩
                    · rw [if_neg c39] at H
                      exact absurd H (by simp)
                  · rw [if_neg c38] at H
                    exact absurd H (by simp)
                · rw [if_neg c37] at H
                  have c37b0 : decide (x56_2 < (t214.length : Int)) = false := decide_eq_false c37
                  have c37b2 : decide (x56_2 < (x6_2.length : Int)) = false := by first | exact decide_eq_false (by omega) | (have hl_ := (Kd.R_reads' HO_6.out).2.2.1; exact decide_eq_false (by omega)) | (have hl_ := (Kd.R_reads' HO_6.out).1; exact decide_eq_false (by omega))
                  clear c37
                  replace H := Option.bind_eq_some_iff.mp H
                  obtain ⟨t231, A430, H⟩ := H
                  replace H : (some t231) = some r := H
                  have A43 := Aside0.mk A430
                  clear A430
                  obtain rfl := Option.some.inj H
                  obtain ⟨Ao44, co44, eo44⟩ := Kd.R_slice HO_8.out
                  subst eo44
                  obtain ⟨Ao45, co45, eo45⟩ := Kd.R_slice HO_10.out
                  subst eo45
                  go_wp2_with (first | ((with_reducible refine gate_callee (f := 16) rfl ?_); refine goesL_ (some 66) rfl rfl Try.func16 (by kernel_rfl) rfl #[.slice Ao44 t214.length co44, .slice Ao45 t225.length co45] rfl (by (try simp only [List.map_toArray, List.map_cons, List.map_nil]); first | done | rfl | (simp only [List.length_drop, List.length_take]; rfl)) ?_; (with_reducible refine (haspref02_SameRow.calls k2 _ _ t214 _ _ t225 t231 _ ?side1 ?side2 ?side3 ?side4 A43.out).mono ?_); (case side1 => repeat (first | exact (Kd.R_reads' HO_8.out).2.2 | (with_reducible refine Kd.C_alloc ?_ _) | (with_reducible refine Kd.C_drewN ?_ _) | (with_reducible refine Kd.C_drew ?_))); (case side2 => exact (Kd.R_reads' HO_8.out).2.1); (case side3 => repeat (first | exact (Kd.R_reads' HO_10.out).2.2 | (with_reducible refine Kd.C_alloc ?_ _) | (with_reducible refine Kd.C_drewN ?_ _) | (with_reducible refine Kd.C_drew ?_))); (case side4 => exact (Kd.R_reads' HO_10.out).2.1); rintro e w' ⟨rfl, ⟨nd, rfl⟩⟩; refine ⟨_, rfl, ?_⟩))
                  go_ret
                  exact ⟨by first | rfl | (simp [errW_none, errW_some] <;> rfl) | (simp [*, errW_none, errW_some] <;> rfl), by repeat (first | (with_reducible first | exact HB.out | apply below_alloc | apply pw_below_drewN | apply below_drew1) | exact HB.out)⟩
    · rw [if_neg c5] at H
      exact absurd H (by simp)
  · replace c4 := Bool.eq_false_iff.mpr c4
    subst c4
    have H1 : (some false) = some r := by rw [if_neg (show ¬ (false = true) by decide)] at H; exact H
    clear H
    have H := H1
    clear H1
    obtain rfl := Option.some.inj H
    go_enter Try.func4, Try.ntmps4
    go_wp2_with (first | ((with_reducible refine gate_callee (f := 8) rfl ?_); refine goesL_ (some 13) rfl rfl Try.func8 (by kernel_rfl) rfl #[] rfl (by (try simp only [List.map_toArray, List.map_cons, List.map_nil]); first | done | rfl | (simp only [List.length_drop, List.length_take]; rfl)) ?_; (with_reducible refine (hasplaw06_speaks.calls k  false _ A3.out).mono ?_); rintro e w46 ⟨rfl, hb⟩; refine ⟨_, rfl, ?_⟩; have n0_ := Aside0.mk (below_step (by repeat (first | (with_reducible first | exact HB.out | apply below_alloc | apply pw_below_drewN | apply below_drew1) | exact HB.out)) hb); clear HB; have HB := n0_; clear n0_; (try clear hb); (try clear hb2); (try clear hk); (try clear hi)))
    go_ret
    exact ⟨by first | rfl | (simp [errW_none, errW_some] <;> rfl) | (simp [*, errW_none, errW_some] <;> rfl), by repeat (first | (with_reducible first | exact HB.out | apply below_alloc | apply pw_below_drewN | apply below_drew1) | exact HB.out)⟩
/-! ### hasplaw06_RowsThere: function 5 -/
def hasplaw06_RowsThere.f (k : Nat) (l0 : List (S47)) (l1 : List (S43)) (a2 : Int) : Option (Bool) := (hasplaw06_speaks.f k).bind fun t232 => (if t232 = true then ((haspref02_CopyRow.f k l1).bind fun t233 => ((rows_Encode.f k l0 t233).bind fun bt236 => (if bt236.2 = 0 then ((rows_Decode.f l0 bt236.1).bind fun bt240 => (if bt236.1.length < 140737488355328 then ((rows_Decode.f l0 (bt236.1 ++ [a2])).bind fun bt247 => (if bt240.2 = 0 then ((haspref02_SameRow.f k bt240.1 l1).bind fun t251 => (if t251 = true then (some (bt247.2 == 4)) else (some false))) else (some false))) else (none))) else ((haspref02_CopyRow.f k l1).bind fun t252 => ((rows_Fit.f k l0 t252).bind fun t255 => (if bt236.2 = t255 then (some ((bt236.1.length : Int) == 0)) else (some false))))))) else (some false))
end Go.Proofs.Ytnjobnkkpfaigaa.V
