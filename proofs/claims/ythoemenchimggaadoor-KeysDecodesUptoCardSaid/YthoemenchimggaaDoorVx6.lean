-- Printed by the kit's print.py for functions that this session names.
import Derived.Test.YthoemenchimggaaDoorVx0
import Derived.Test.YthoemenchimggaaDoorVx2
namespace Go.Proofs.YthoemenchimggaaDoor.V
open Go.RowKit Go.Proofs.YthoemenchimggaaDoorW.PrintWords Go.Proofs.YthoemenchimggaaDoorW.PrintLast Go.Proofs.YthoemenchimggaaDoorW.PrintMore Go.Proofs.YthoemenchimggaaDoor.A
attribute [local go_sem] max2_int min2_int max_two min_two max_three min_three max_four min_four   -- for this text's walks alone
set_option linter.unusedVariables false
set_option linter.unusedSimpArgs false

/-! ### haspref05_text: function 31 -/
def haspref05_text.l0 : Nat → List Int → Int → List Int → Option (ByteArray × Int × Int)
  | 0, _, _, _ => none
  | k + 1, x0, x1, x7 => if x1 ≥ (x0.length : Int) then (some ((⟨#[]⟩ : ByteArray), x1, 3)) else (if 0 ≤ x1 then (if x1 < (x0.length : Int) then (if (rd x0 x1) = 0 then (if (wrap64 (x1 + 1)) ≥ (x0.length : Int) then (some ((⟨#[]⟩ : ByteArray), wrap64 (x1 + 1), 3)) else (if 0 ≤ (wrap64 (x1 + 1)) then (if (wrap64 (x1 + 1)) < (x0.length : Int) then (if (rd x0 (wrap64 (x1 + 1))) = 1 then (some (strOfNums x7, wrap64 ((wrap64 (x1 + 1)) + 1), 0)) else (if (rd x0 (wrap64 (x1 + 1))) = 255 then (if (x7.length : Int) = 200 then (some ((⟨#[]⟩ : ByteArray), wrap64 ((wrap64 (x1 + 1)) + 1), 1)) else (if x7.length < 140737488355328 then (haspref05_text.l0 k x0 (wrap64 ((wrap64 (x1 + 1)) + 1)) (x7 ++ [rd x0 x1])) else (none))) else (some ((⟨#[]⟩ : ByteArray), wrap64 ((wrap64 (x1 + 1)) + 1), 2)))) else (none)) else (none))) else (if (x7.length : Int) = 200 then (some ((⟨#[]⟩ : ByteArray), wrap64 (x1 + 1), 1)) else (if x7.length < 140737488355328 then (haspref05_text.l0 k x0 (wrap64 (x1 + 1)) (x7 ++ [rd x0 x1])) else (none)))) else (none)) else (none))
def haspref05_text.f (k : Nat) (l0 : List Int) (a1 : Int) : Option (ByteArray × Int × Int) := haspref05_text.l0 k l0 a1 (([] : List Int))
theorem haspref05_text.mono_l : ∀ k, (∀ y0 y1 y2, LeO (haspref05_text.l0 k y0 y1 y2) (haspref05_text.l0 (k + 1) y0 y1 y2))
  | 0 => fun _ _ _ r h => by simp [haspref05_text.l0] at h
  | k + 1 => by
    have ih0 := haspref05_text.mono_l k
    · intro y0 y1 y2
      unfold haspref05_text.l0
      repeat' first
      | (with_reducible exact ih0 _ _ _)
      | (with_reducible exact LeO.refl _)
      | (with_reducible exact LeO.none _)
      | (with_reducible refine LeO.ite ?_ ?_)
      | (with_reducible refine LeO.bind ?_ (fun _ => ?_))
      | exact ih0 _ _ _
      | exact LeO.none _
      | refine LeO.ite ?_ ?_
      | refine LeO.bind ?_ (fun _ => ?_)
theorem haspref05_text.mono : ∀ a0 a1 k, LeO (haspref05_text.f k a0 a1) (haspref05_text.f (k + 1) a0 a1) := by
  intro a0 a1 k
  have ih0 := haspref05_text.mono_l k
  unfold haspref05_text.f
  repeat' first
      | (with_reducible exact ih0 _ _ _)
      | (with_reducible exact LeO.refl _)
      | (with_reducible exact LeO.none _)
      | (with_reducible refine LeO.ite ?_ ?_)
      | (with_reducible refine LeO.bind ?_ (fun _ => ?_))
      | exact ih0 _ _ _
      | exact LeO.none _
      | refine LeO.ite ?_ ?_
      | refine LeO.bind ?_ (fun _ => ?_)
set_option maxHeartbeats 8000000 in
set_option maxRecDepth 100000 in
theorem haspref05_text.calls (k : Nat) (A0 : Option Addr) (c0 : Nat) (l0 : List Int) (a1 : Int) (r1 : ByteArray) (r2 : Int) (r3 : Int) (w : World) (hr0 : Kd.C (Kd.int .u8) w A0 l0.length l0) (hc0 : l0.length ≤ c0) (h : haspref05_text.f k l0 a1 = some (r1, r2, r3)) :
    Calls Tryd.prog 31 #[.slice A0 l0.length c0, .int .i64 a1] w fun e w' => e = .returned (.tuple #[.string r1, .int .i64 r2, .int .i64 r3]) ∧ Below w.heap.size w w' := by
  have HR0 := Aside0.mk hr0
  have HC0 := Aside0.mk hc0
  clear hr0 hc0
  have HB := Aside0.mk (Below.refl w.heap.size w)
  have H : (haspref05_text.l0 k l0 a1 (([] : List Int))) = some (r1, r2, r3) := h
  clear h
  obtain ⟨y217, hy217⟩ : ∃ y_ : List Int, y_ = (([] : List Int)) := ⟨_, rfl⟩
  replace H : (haspref05_text.l0 k l0 a1 y217) = some (r1, r2, r3) := by first | (rw [hy217]; with_reducible exact H) | (have H2_ := (Option.bind_some _ _).symm.trans H; rw [hy217]; with_reducible exact H2_) | (have H2_ := (Option.bind_some _ _).symm.trans H; with_reducible exact H2_) | with_reducible exact H | (rw [hy217]; exact H) | exact H
  have Ny217 := Aside0.mk hy217
  clear hy217
  have H' := Aside0.mk H
  clear H
  go_enter Tryd.func31, Tryd.ntmps31
  go_wp2_with (first | ((with_reducible refine gate_dst (N := 10) rfl ?_); refine Kd.R_lit (Kd.int .u8) _ 5 ?hg (N := 10) ?hd (xs := ([] : List Int)) (inner := []) (ok := fun _ => True) (okp := fun _ => True) ?hr ?hp (fun _ hk => hk) trivial (Below.refl _ _) (Nat.le_refl _) (by simp) ?_; (case hd => rfl); (case hg => rfl); (case hr => first | (go_simp; done) | (go_simp; rfl)); (case hp => exact (Reps.none _ _)); intro v218 w3 ho4 hb hg_ hnew_; clear hg_ hnew_; (first | rw [← Ny217.out] at ho4 | (simp only [Int.reduceToNat] at ho4; rw [← Ny217.out] at ho4)); have n0_ := Aside0.mk (Kd.R_lower ho4 (below_size (by repeat (first | (with_reducible first | exact HB.out | apply below_alloc | apply pw_below_drewN | apply below_drew1) | exact HB.out)))); have n1_ := Aside0.mk (below_step (by repeat (first | (with_reducible first | exact HB.out | apply below_alloc | apply pw_below_drewN | apply below_drew1) | exact HB.out)) hb); clear HB; have HO219 := n0_; have HB := n1_; clear n0_ n1_; clear hb ho4))
  go_loopg [1, 7] k (fun kq v1 v7 w' => ∃ (x1_1 : Int) (x7_1 : List Int), v1 = .int .i64 x1_1 ∧ Aside0 (haspref05_text.l0 kq l0 x1_1 x7_1 = some (r1, r2, r3)) ∧ Aside0 (kq ≤ k) ∧ Aside0 (Kd.R (Kd.int .u8) 5 w' w.heap.size (fun _ => True) v7 x7_1) ∧ Aside0 (Below w.heap.size w w'))
  case atStart => exact ⟨(a1), (y217), (by first | rfl | (simp; done) | (simp [*]; done) | (simp; exact isEmpty_bne _) | (simp [*]; exact isEmpty_bne _)), H', ⟨Nat.le_refl _⟩, ⟨by (with_reducible repeat (first | apply Kd.R_alloc | apply Kd.R_drewN | apply Kd.R_drew)); exact HO219.out⟩, ⟨by repeat (first | (with_reducible first | exact HB.out | apply below_alloc | apply pw_below_drewN | apply below_drew1) | exact HB.out)⟩⟩
  case round =>
    clear H'
    try clear p2
    try clear c3
    obtain ⟨x1_1, x7_1, rfl, HA, HK1, HO_7, HB⟩ := hrel
    cases gk with
    | zero => exact absurd HA.out (by simp [haspref05_text.l0])
    | succ k1 =>
      have H := HA.out
      clear HA
      simp only [haspref05_text.l0] at H
      by_cases c5 : x1_1 ≥ (l0.length : Int)
      · rw [if_pos c5] at H
        have c5b0 : decide ((l0.length : Int) ≤ x1_1) = true := decide_eq_true c5
        clear c5
        simp only [Option.some.injEq, Prod.mk.injEq] at H
        obtain ⟨rfl, rfl, rfl⟩ := H
        go_wp2
        go_ret3
        exact ⟨by first | rfl | (simp [errW_none, errW_some] <;> rfl) | (simp [*, errW_none, errW_some] <;> rfl), by repeat (first | (with_reducible first | exact HB.out | apply below_alloc | apply pw_below_drewN | apply below_drew1) | exact HB.out)⟩
      · rw [if_neg c5] at H
        have c5b0 : decide ((l0.length : Int) ≤ x1_1) = false := decide_eq_false c5
        clear c5
        by_cases c6 : 0 ≤ x1_1
        · rw [if_pos c6] at H
          have c6b0 : decide (0 ≤ x1_1) = true := decide_eq_true c6
          clear c6
          by_cases c7 : x1_1 < (l0.length : Int)
          · rw [if_pos c7] at H
            have c7b0 : decide (x1_1 < (l0.length : Int)) = true := decide_eq_true c7
            clear c7
            by_cases c8 : (rd l0 x1_1) = 0
            · rw [if_pos c8] at H
              have c8b0 : ((rd l0 x1_1) == 0) = true := beq_iff_eq.mpr c8
              have c8b1 : ((rd l0 x1_1) != 0) = false := bne_eq_false_iff_eq.mpr c8
              clear c8
              by_cases c9 : (wrap64 (x1_1 + 1)) ≥ (l0.length : Int)
              · rw [if_pos c9] at H
                have c9b0 : decide ((l0.length : Int) ≤ (wrap64 (x1_1 + 1))) = true := decide_eq_true c9
                clear c9
                simp only [Option.some.injEq, Prod.mk.injEq] at H
                obtain ⟨rfl, rfl, rfl⟩ := H
                have p220 : 0 ≤ (x1_1 : Int) := of_decide_eq_true (by first | (with_reducible assumption) | assumption)
                have q220 : x1_1 < (l0.length : Int) := of_decide_eq_true (by first | (with_reducible assumption) | assumption)
                obtain ⟨ad220, e220, hx220_0⟩ := Kd.at_int HR0.out x1_1 p220 q220
                cases e220
                replace hx220_0 := (HB.out.cell (World.block_lt_of_cell? w _ hx220_0)).trans hx220_0
                replace p220 := eq_true p220
                replace q220 := eq_true q220
                go_wp2
                go_ret3
                exact ⟨by first | rfl | (simp [errW_none, errW_some] <;> rfl) | (simp [*, errW_none, errW_some] <;> rfl), by repeat (first | (with_reducible first | exact HB.out | apply below_alloc | apply pw_below_drewN | apply below_drew1) | exact HB.out)⟩
              · rw [if_neg c9] at H
                have c9b0 : decide ((l0.length : Int) ≤ (wrap64 (x1_1 + 1))) = false := decide_eq_false c9
                clear c9
                obtain ⟨ji10, hji10⟩ : ∃ j_ : Int, (wrap64 (x1_1 + 1)) = j_ := ⟨_, rfl⟩
                replace H : (if 0 ≤ (ji10) then (if (ji10) < (l0.length : Int) then (if (rd l0 (ji10)) = 1 then (some (strOfNums x7_1, wrap64 ((ji10) + 1), 0)) else (if (rd l0 (ji10)) = 255 then (if (x7_1.length : Int) = 200 then (some ((⟨#[]⟩ : ByteArray), wrap64 ((ji10) + 1), 1)) else (if x7_1.length < 140737488355328 then (haspref05_text.l0 k1 l0 (wrap64 ((ji10) + 1)) (x7_1 ++ [rd l0 x1_1])) else (none))) else (some ((⟨#[]⟩ : ByteArray), wrap64 ((ji10) + 1), 2)))) else (none)) else (none)) = some (r1, r2, r3) := by first | (rw [hji10] at H; exact H) | (simp only [hji10] at H ⊢; exact H)
                (try rw [hji10] at c9b0)
                have hji10w : (IntKind.i64.wrap (x1_1 + 1)) = ji10 := (i64_w _).trans hji10
                by_cases c11 : 0 ≤ (ji10)
                · rw [if_pos c11] at H
                  have c11b0 : decide (0 ≤ (ji10)) = true := decide_eq_true c11
                  clear c11
                  by_cases c12 : (ji10) < (l0.length : Int)
                  · rw [if_pos c12] at H
                    have c12b0 : decide ((ji10) < (l0.length : Int)) = true := decide_eq_true c12
                    clear c12
                    by_cases c13 : (rd l0 (ji10)) = 1
                    · rw [if_pos c13] at H
                      have c13b0 : ((rd l0 (ji10)) == 1) = true := beq_iff_eq.mpr c13
                      have c13b1 : ((rd l0 (ji10)) != 1) = false := bne_eq_false_iff_eq.mpr c13
                      clear c13
                      simp only [Option.some.injEq, Prod.mk.injEq] at H
                      obtain ⟨rfl, rfl, rfl⟩ := H
                      have p220 : 0 ≤ (x1_1 : Int) := of_decide_eq_true (by first | (with_reducible assumption) | assumption)
                      have q220 : x1_1 < (l0.length : Int) := of_decide_eq_true (by first | (with_reducible assumption) | assumption)
                      obtain ⟨ad220, e220, hx220_0⟩ := Kd.at_int HR0.out x1_1 p220 q220
                      cases e220
                      replace hx220_0 := (HB.out.cell (World.block_lt_of_cell? w _ hx220_0)).trans hx220_0
                      replace p220 := eq_true p220
                      replace q220 := eq_true q220
                      have p221 : 0 ≤ ((ji10) : Int) := of_decide_eq_true (by first | (with_reducible assumption) | assumption)
                      have q221 : (ji10) < (l0.length : Int) := of_decide_eq_true (by first | (with_reducible assumption) | assumption)
                      obtain ⟨ad221, e221, hx221_0⟩ := Kd.at_int HR0.out (ji10) p221 q221
                      obtain rfl : ad220 = ad221 := (by injection e221)
                      replace hx221_0 := (HB.out.cell (World.block_lt_of_cell? w _ hx221_0)).trans hx221_0
                      replace p221 := eq_true p221
                      replace q221 := eq_true q221
                      have hcv14 := own_string (P := Tryd.prog) Tryd.underlying25 Tryd.underlying5 Tryd.underlying9 (Kd.own_of_R HO_7.out)
                      go_wp2
                      go_ret3
                      exact ⟨by first | rfl | (simp [errW_none, errW_some] <;> rfl) | (simp only [← hji10]; first | rfl | (simp [errW_none, errW_some] <;> rfl)) | (simp [*, errW_none, errW_some] <;> rfl), by repeat (first | (with_reducible first | exact HB.out | apply below_alloc | apply pw_below_drewN | apply below_drew1) | exact HB.out)⟩
                    · rw [if_neg c13] at H
                      have c13b0 : ((rd l0 (ji10)) == 1) = false := beq_eq_false_iff_ne.mpr c13
                      have c13b1 : ((rd l0 (ji10)) != 1) = true := bne_iff_ne.mpr c13
                      by_cases c15 : (rd l0 (ji10)) = 255
                      · rw [if_pos c15] at H
                        have c15b0 : ((rd l0 (ji10)) == 255) = true := beq_iff_eq.mpr c15
                        have c15b1 : ((rd l0 (ji10)) != 255) = false := bne_eq_false_iff_eq.mpr c15
                        clear c15
                        by_cases c16 : (x7_1.length : Int) = 200
                        · rw [if_pos c16] at H
                          have c16b0 : ((x7_1.length : Int) == 200) = true := beq_iff_eq.mpr c16
                          have c16b1 : ((x7_1.length : Int) != 200) = false := bne_eq_false_iff_eq.mpr c16
                          clear c16
                          simp only [Option.some.injEq, Prod.mk.injEq] at H
                          obtain ⟨rfl, rfl, rfl⟩ := H
                          have p220 : 0 ≤ (x1_1 : Int) := of_decide_eq_true (by first | (with_reducible assumption) | assumption)
                          have q220 : x1_1 < (l0.length : Int) := of_decide_eq_true (by first | (with_reducible assumption) | assumption)
                          obtain ⟨ad220, e220, hx220_0⟩ := Kd.at_int HR0.out x1_1 p220 q220
                          cases e220
                          replace hx220_0 := (HB.out.cell (World.block_lt_of_cell? w _ hx220_0)).trans hx220_0
                          replace p220 := eq_true p220
                          replace q220 := eq_true q220
                          have p221 : 0 ≤ ((ji10) : Int) := of_decide_eq_true (by first | (with_reducible assumption) | assumption)
                          have q221 : (ji10) < (l0.length : Int) := of_decide_eq_true (by first | (with_reducible assumption) | assumption)
                          obtain ⟨ad221, e221, hx221_0⟩ := Kd.at_int HR0.out (ji10) p221 q221
                          obtain rfl : ad220 = ad221 := (by injection e221)
                          replace hx221_0 := (HB.out.cell (World.block_lt_of_cell? w _ hx221_0)).trans hx221_0
                          replace p221 := eq_true p221
                          replace q221 := eq_true q221
                          obtain ⟨Ao17, co17, eo17⟩ := Kd.R_slice HO_7.out
                          subst eo17
                          go_wp2
                          go_ret3
                          exact ⟨by first | rfl | (simp [errW_none, errW_some] <;> rfl) | (simp only [← hji10]; first | rfl | (simp [errW_none, errW_some] <;> rfl)) | (simp [*, errW_none, errW_some] <;> rfl), by repeat (first | (with_reducible first | exact HB.out | apply below_alloc | apply pw_below_drewN | apply below_drew1) | exact HB.out)⟩
                        · rw [if_neg c16] at H
                          have c16b0 : ((x7_1.length : Int) == 200) = false := beq_eq_false_iff_ne.mpr c16
                          have c16b1 : ((x7_1.length : Int) != 200) = true := bne_iff_ne.mpr c16
                          by_cases c18 : x7_1.length < 140737488355328
                          · rw [if_pos c18] at H
                            have LMc18 := Aside0.mk c18
                            clear c18
                            obtain ⟨y222, hy222⟩ : ∃ y_ : List Int, y_ = (x7_1 ++ [rd l0 x1_1]) := ⟨_, rfl⟩
                            replace H : (haspref05_text.l0 k1 l0 (wrap64 ((ji10) + 1)) y222) = some (r1, r2, r3) := by first | (rw [hy222]; with_reducible exact H) | (have H2_ := (Option.bind_some _ _).symm.trans H; rw [hy222]; with_reducible exact H2_) | (have H2_ := (Option.bind_some _ _).symm.trans H; with_reducible exact H2_) | with_reducible exact H | (rw [hy222]; exact H) | exact H
                            have Ny222 := Aside0.mk hy222
                            clear hy222
                            have H' := Aside0.mk H
                            clear H
                            have p220 : 0 ≤ (x1_1 : Int) := of_decide_eq_true (by first | (with_reducible assumption) | assumption)
                            have q220 : x1_1 < (l0.length : Int) := of_decide_eq_true (by first | (with_reducible assumption) | assumption)
                            obtain ⟨ad220, e220, hx220_0⟩ := Kd.at_int HR0.out x1_1 p220 q220
                            cases e220
                            replace hx220_0 := (HB.out.cell (World.block_lt_of_cell? w _ hx220_0)).trans hx220_0
                            replace p220 := eq_true p220
                            replace q220 := eq_true q220
                            have p221 : 0 ≤ ((ji10) : Int) := of_decide_eq_true (by first | (with_reducible assumption) | assumption)
                            have q221 : (ji10) < (l0.length : Int) := of_decide_eq_true (by first | (with_reducible assumption) | assumption)
                            obtain ⟨ad221, e221, hx221_0⟩ := Kd.at_int HR0.out (ji10) p221 q221
                            obtain rfl : ad220 = ad221 := (by injection e221)
                            replace hx221_0 := (HB.out.cell (World.block_lt_of_cell? w _ hx221_0)).trans hx221_0
                            replace p221 := eq_true p221
                            replace q221 := eq_true q221
                            obtain ⟨Ao19, co19, eo19⟩ := Kd.R_slice HO_7.out
                            subst eo19
                            go_wp2_with (first | ((with_reducible refine gate_builtin (b := .append) (xs := #[.tmp 47, .tmp 49]) rfl ?_); at_builtin; refine Kd.R_append (Kd.int .u8) (w0 := w) w.heap.size rfl (.tmp 47) (.tmp 49) 25 5 (.int .u8 0) 1 rfl Tryd.underlying25 info5 rfl (by decide) (by omega) (.slice Ao19 x7_1.length co19) x7_1 (rd l0 x1_1) [.int .u8 (rd l0 x1_1)] (fun _ => True) (fun _ => False) rfl rfl ?aP (fun _ hk => hk.elim) ?aF ?aO ?aB ?aS ?aL ?_; (case aP => exact rfl); (case aB => exact (by repeat (first | (with_reducible first | exact HB.out | apply below_alloc | apply pw_below_drewN | apply below_drew1) | exact HB.out))); (case aF => exact (fun _ _ => trivial)); (case aO => exact (by (with_reducible repeat (first | apply Kd.R_alloc | apply Kd.R_drewN | apply Kd.R_drew)); exact HO_7.out)); (case aS => exact (below_size (by repeat (first | (with_reducible first | exact HB.out | apply below_alloc | apply pw_below_drewN | apply below_drew1) | exact HB.out)))); (case aL => have := LMc18.out; omega); intro v223 w20 ho hb hg hat; rw [← Ny222.out] at ho; have n0_ := Aside0.mk (hb); have n1_ := Aside0.mk (ho); clear HB; clear HO_7; have HB := n0_; have HO224 := n1_; clear n0_ n1_; clear ho hb hg hat))
                            go_roundg k1
                            case measure => have := HK1.out; omega
                            case rel => exact ⟨(wrap64 ((ji10) + 1)), (y222), (by first | rfl | (simp; done) | (simp only [← hji10] <;> (first | rfl | simp)) | (simp [*]; done) | (simp; exact isEmpty_bne _) | (simp [*]; exact isEmpty_bne _)), H', ⟨by have := HK1.out; omega⟩, ⟨by (with_reducible repeat (first | apply Kd.R_alloc | apply Kd.R_drewN | apply Kd.R_drew)); exact HO224.out⟩, ⟨by repeat (first | (with_reducible first | exact HB.out | apply below_alloc | apply pw_below_drewN | apply below_drew1) | exact HB.out)⟩⟩
                          · rw [if_neg c18] at H
                            exact absurd H (by simp)
                      · rw [if_neg c15] at H
                        have c15b0 : ((rd l0 (ji10)) == 255) = false := beq_eq_false_iff_ne.mpr c15
                        have c15b1 : ((rd l0 (ji10)) != 255) = true := bne_iff_ne.mpr c15
                        simp only [Option.some.injEq, Prod.mk.injEq] at H
                        obtain ⟨rfl, rfl, rfl⟩ := H
                        have p220 : 0 ≤ (x1_1 : Int) := of_decide_eq_true (by first | (with_reducible assumption) | assumption)
                        have q220 : x1_1 < (l0.length : Int) := of_decide_eq_true (by first | (with_reducible assumption) | assumption)
                        obtain ⟨ad220, e220, hx220_0⟩ := Kd.at_int HR0.out x1_1 p220 q220
                        cases e220
                        replace hx220_0 := (HB.out.cell (World.block_lt_of_cell? w _ hx220_0)).trans hx220_0
                        replace p220 := eq_true p220
                        replace q220 := eq_true q220
                        have p221 : 0 ≤ ((ji10) : Int) := of_decide_eq_true (by first | (with_reducible assumption) | assumption)
                        have q221 : (ji10) < (l0.length : Int) := of_decide_eq_true (by first | (with_reducible assumption) | assumption)
                        obtain ⟨ad221, e221, hx221_0⟩ := Kd.at_int HR0.out (ji10) p221 q221
                        obtain rfl : ad220 = ad221 := (by injection e221)
                        replace hx221_0 := (HB.out.cell (World.block_lt_of_cell? w _ hx221_0)).trans hx221_0
                        replace p221 := eq_true p221
                        replace q221 := eq_true q221
                        go_wp2
                        go_ret3
                        exact ⟨by first | rfl | (simp [errW_none, errW_some] <;> rfl) | (simp only [← hji10]; first | rfl | (simp [errW_none, errW_some] <;> rfl)) | (simp [*, errW_none, errW_some] <;> rfl), by repeat (first | (with_reducible first | exact HB.out | apply below_alloc | apply pw_below_drewN | apply below_drew1) | exact HB.out)⟩
                  · rw [if_neg c12] at H
                    exact absurd H (by simp)
                · rw [if_neg c11] at H
                  exact absurd H (by simp)
            · rw [if_neg c8] at H
              have c8b0 : ((rd l0 x1_1) == 0) = false := beq_eq_false_iff_ne.mpr c8
              have c8b1 : ((rd l0 x1_1) != 0) = true := bne_iff_ne.mpr c8
              by_cases c21 : (x7_1.length : Int) = 200
              · rw [if_pos c21] at H
                have c21b0 : ((x7_1.length : Int) == 200) = true := beq_iff_eq.mpr c21
                have c21b1 : ((x7_1.length : Int) != 200) = false := bne_eq_false_iff_eq.mpr c21
                clear c21
                simp only [Option.some.injEq, Prod.mk.injEq] at H
                obtain ⟨rfl, rfl, rfl⟩ := H
                have p220 : 0 ≤ (x1_1 : Int) := of_decide_eq_true (by first | (with_reducible assumption) | assumption)
                have q220 : x1_1 < (l0.length : Int) := of_decide_eq_true (by first | (with_reducible assumption) | assumption)
                obtain ⟨ad220, e220, hx220_0⟩ := Kd.at_int HR0.out x1_1 p220 q220
                cases e220
                replace hx220_0 := (HB.out.cell (World.block_lt_of_cell? w _ hx220_0)).trans hx220_0
                replace p220 := eq_true p220
                replace q220 := eq_true q220
                obtain ⟨Ao22, co22, eo22⟩ := Kd.R_slice HO_7.out
                subst eo22
                go_wp2
                go_ret3
                exact ⟨by first | rfl | (simp [errW_none, errW_some] <;> rfl) | (simp [*, errW_none, errW_some] <;> rfl), by repeat (first | (with_reducible first | exact HB.out | apply below_alloc | apply pw_below_drewN | apply below_drew1) | exact HB.out)⟩
              · rw [if_neg c21] at H
                have c21b0 : ((x7_1.length : Int) == 200) = false := beq_eq_false_iff_ne.mpr c21
                have c21b1 : ((x7_1.length : Int) != 200) = true := bne_iff_ne.mpr c21
                by_cases c23 : x7_1.length < 140737488355328
                · rw [if_pos c23] at H
                  have LMc23 := Aside0.mk c23
                  clear c23
                  obtain ⟨y225, hy225⟩ : ∃ y_ : List Int, y_ = (x7_1 ++ [rd l0 x1_1]) := ⟨_, rfl⟩
                  replace H : (haspref05_text.l0 k1 l0 (wrap64 (x1_1 + 1)) y225) = some (r1, r2, r3) := by first | (rw [hy225]; with_reducible exact H) | (have H2_ := (Option.bind_some _ _).symm.trans H; rw [hy225]; with_reducible exact H2_) | (have H2_ := (Option.bind_some _ _).symm.trans H; with_reducible exact H2_) | with_reducible exact H | (rw [hy225]; exact H) | exact H
                  have Ny225 := Aside0.mk hy225
                  clear hy225
                  have H' := Aside0.mk H
                  clear H
                  have p220 : 0 ≤ (x1_1 : Int) := of_decide_eq_true (by first | (with_reducible assumption) | assumption)
                  have q220 : x1_1 < (l0.length : Int) := of_decide_eq_true (by first | (with_reducible assumption) | assumption)
                  obtain ⟨ad220, e220, hx220_0⟩ := Kd.at_int HR0.out x1_1 p220 q220
                  cases e220
                  replace hx220_0 := (HB.out.cell (World.block_lt_of_cell? w _ hx220_0)).trans hx220_0
                  replace p220 := eq_true p220
                  replace q220 := eq_true q220
                  obtain ⟨Ao24, co24, eo24⟩ := Kd.R_slice HO_7.out
                  subst eo24
                  go_wp2_with (first | ((with_reducible refine gate_builtin (b := .append) (xs := #[.tmp 47, .tmp 49]) rfl ?_); at_builtin; refine Kd.R_append (Kd.int .u8) (w0 := w) w.heap.size rfl (.tmp 47) (.tmp 49) 25 5 (.int .u8 0) 1 rfl Tryd.underlying25 info5 rfl (by decide) (by omega) (.slice Ao24 x7_1.length co24) x7_1 (rd l0 x1_1) [.int .u8 (rd l0 x1_1)] (fun _ => True) (fun _ => False) rfl rfl ?aP (fun _ hk => hk.elim) ?aF ?aO ?aB ?aS ?aL ?_; (case aP => exact rfl); (case aB => exact (by repeat (first | (with_reducible first | exact HB.out | apply below_alloc | apply pw_below_drewN | apply below_drew1) | exact HB.out))); (case aF => exact (fun _ _ => trivial)); (case aO => exact (by (with_reducible repeat (first | apply Kd.R_alloc | apply Kd.R_drewN | apply Kd.R_drew)); exact HO_7.out)); (case aS => exact (below_size (by repeat (first | (with_reducible first | exact HB.out | apply below_alloc | apply pw_below_drewN | apply below_drew1) | exact HB.out)))); (case aL => have := LMc23.out; omega); intro v226 w25 ho hb hg hat; rw [← Ny225.out] at ho; have n0_ := Aside0.mk (hb); have n1_ := Aside0.mk (ho); clear HB; clear HO_7; have HB := n0_; have HO227 := n1_; clear n0_ n1_; clear ho hb hg hat))
                  go_roundg k1
                  case measure => have := HK1.out; omega
                  case rel => exact ⟨(wrap64 (x1_1 + 1)), (y225), (by first | rfl | (simp; done) | (simp [*]; done) | (simp; exact isEmpty_bne _) | (simp [*]; exact isEmpty_bne _)), H', ⟨by have := HK1.out; omega⟩, ⟨by (with_reducible repeat (first | apply Kd.R_alloc | apply Kd.R_drewN | apply Kd.R_drew)); exact HO227.out⟩, ⟨by repeat (first | (with_reducible first | exact HB.out | apply below_alloc | apply pw_below_drewN | apply below_drew1) | exact HB.out)⟩⟩
                · rw [if_neg c23] at H
                  exact absurd H (by simp)
          · rw [if_neg c7] at H
            exact absurd H (by simp)
        · rw [if_neg c6] at H
          exact absurd H (by simp)

/-! ### haspref01_Canon: function 43 -/
def haspref01_Canon.f (a0 : Int) : Option (Int) := (haspref01_IsNaN.f a0).bind fun t228 => (if t228 = true then (some 9221120237041090560) else (some a0))
set_option maxHeartbeats 8000000 in
set_option maxRecDepth 100000 in
theorem haspref01_Canon.calls (a0 : Int) (r : Int) (w : World) (h : haspref01_Canon.f a0 = some r) :
    Calls Tryd.prog 43 #[.int .i64 a0] w fun e w' => e = .returned (.int .i64 r) ∧ Drawn0 w w' := by
  have H : ((haspref01_IsNaN.f a0).bind fun t228 => (if t228 = true then (some 9221120237041090560) else (some a0))) = some r := h
  clear h
  replace H := Option.bind_eq_some_iff.mp H
  obtain ⟨t228, A20, H⟩ := H
  replace H : (if t228 = true then (some 9221120237041090560) else (some a0)) = some r := H
  have A2 := Aside0.mk A20
  clear A20
  by_cases c3 : t228 = true
  · subst c3
    have H1 : (some 9221120237041090560) = some r := by rw [if_pos rfl] at H; exact H
    clear H
    have H := H1
    clear H1
    obtain rfl := Option.some.inj H
    go_enter Tryd.func43, Tryd.ntmps43
    go_wp2_with (first | ((with_reducible refine gate_callee (f := 36) rfl ?_); refine goesL_ (some 4) rfl rfl Tryd.func36 (by kernel_rfl) rfl #[.int .i64 a0] rfl (by (try simp only [List.map_toArray, List.map_cons, List.map_nil]); first | done | rfl | (simp only [List.length_drop, List.length_take]; rfl)) ?_; (with_reducible refine (haspref01_IsNaN.calls a0 true _ A2.out).mono ?_); rintro e w' ⟨rfl, ⟨nd, rfl⟩⟩; refine ⟨_, rfl, ?_⟩))
    go_ret
    exact ⟨by first | rfl | (simp; done) | (simp [*]; done) | (simp; exact isEmpty_bne _) | (simp [*]; exact isEmpty_bne _), by repeat (first | exact Drawn0.refl _ | apply Drawn0.step)⟩
  · replace c3 := Bool.eq_false_iff.mpr c3
    subst c3
    have H1 : (some a0) = some r := by rw [if_neg (show ¬ (false = true) by decide)] at H; exact H
    clear H
    have H := H1
    clear H1
    obtain rfl := Option.some.inj H
    go_enter Tryd.func43, Tryd.ntmps43
    go_wp2_with (first | ((with_reducible refine gate_callee (f := 36) rfl ?_); refine goesL_ (some 4) rfl rfl Tryd.func36 (by kernel_rfl) rfl #[.int .i64 a0] rfl (by (try simp only [List.map_toArray, List.map_cons, List.map_nil]); first | done | rfl | (simp only [List.length_drop, List.length_take]; rfl)) ?_; (with_reducible refine (haspref01_IsNaN.calls a0 false _ A2.out).mono ?_); rintro e w' ⟨rfl, ⟨nd, rfl⟩⟩; refine ⟨_, rfl, ?_⟩))
    go_ret
    exact ⟨by first | rfl | (simp; done) | (simp [*]; done) | (simp; exact isEmpty_bne _) | (simp [*]; exact isEmpty_bne _), by repeat (first | exact Drawn0.refl _ | apply Drawn0.step)⟩

/-! ### haspref05_number: function 32 -/
def haspref05_number.l0 : Nat → Int → List Int → Int → Int → Option (Int × Int)
  | 0, _, _, _, _ => none
  | k + 1, x0, x1, x6, x7 => if x7 < (x1.length : Int) then (if 0 ≤ x7 then (haspref05_number.l0 k x0 x1 (IntKind.u64.wrap ((IntKind.u64.wrap (x6 * 256)) + (IntKind.u64.wrap (rd x1 x7)))) (wrap64 (x7 + 1))) else (none)) else (if x0 = 1 then (if x6 > 1 then (some (0, 2)) else (some (wrap64 (x6), 0))) else (if x0 = 2 then (some (wrap64 (IntKind.u64.wrap (x6 + 9223372036854775808)), 0)) else (if x6 < 9223372036854775808 then (if (wrap64 ((-1) - (wrap64 (x6)))) = (-9223372036854775808) then (some (0, 2)) else ((haspref01_Canon.f (wrap64 ((-1) - (wrap64 (x6))))).bind fun t230 => (if (wrap64 ((-1) - (wrap64 (x6)))) = t230 then (some (wrap64 ((-1) - (wrap64 (x6))), 0)) else (some (0, 2))))) else (if (wrap64 (IntKind.u64.wrap (x6 + 9223372036854775808))) = (-9223372036854775808) then (some (0, 2)) else ((haspref01_Canon.f (wrap64 (IntKind.u64.wrap (x6 + 9223372036854775808)))).bind fun t231 => (if (wrap64 (IntKind.u64.wrap (x6 + 9223372036854775808))) = t231 then (some (wrap64 (IntKind.u64.wrap (x6 + 9223372036854775808)), 0)) else (some (0, 2))))))))
def haspref05_number.f (k : Nat) (a0 : Int) (l1 : List Int) : Option (Int × Int) := haspref05_number.l0 k a0 l1 0 0
theorem haspref05_number.mono_l : ∀ k, (∀ y0 y1 y2 y3, LeO (haspref05_number.l0 k y0 y1 y2 y3) (haspref05_number.l0 (k + 1) y0 y1 y2 y3))
  | 0 => fun _ _ _ _ r h => by simp [haspref05_number.l0] at h
  | k + 1 => by
    have ih0 := haspref05_number.mono_l k
    · intro y0 y1 y2 y3
      unfold haspref05_number.l0
      repeat' first
      | (with_reducible exact ih0 _ _ _ _)
      | (with_reducible exact LeO.refl _)
      | (with_reducible exact LeO.none _)
      | (with_reducible refine LeO.ite ?_ ?_)
      | (with_reducible refine LeO.bind ?_ (fun _ => ?_))
      | exact ih0 _ _ _ _
      | exact LeO.none _
      | refine LeO.ite ?_ ?_
      | refine LeO.bind ?_ (fun _ => ?_)
theorem haspref05_number.mono : ∀ a0 a1 k, LeO (haspref05_number.f k a0 a1) (haspref05_number.f (k + 1) a0 a1) := by
  intro a0 a1 k
  have ih0 := haspref05_number.mono_l k
  unfold haspref05_number.f
  repeat' first
      | (with_reducible exact ih0 _ _ _ _)
      | (with_reducible exact LeO.refl _)
      | (with_reducible exact LeO.none _)
      | (with_reducible refine LeO.ite ?_ ?_)
      | (with_reducible refine LeO.bind ?_ (fun _ => ?_))
      | exact ih0 _ _ _ _
      | exact LeO.none _
      | refine LeO.ite ?_ ?_
      | refine LeO.bind ?_ (fun _ => ?_)
set_option maxHeartbeats 8000000 in
set_option maxRecDepth 100000 in
theorem haspref05_number.calls (k : Nat) (a0 : Int) (A1 : Option Addr) (c1 : Nat) (l1 : List Int) (r1 : Int) (r2 : Int) (w : World) (hr1 : Kd.C (Kd.int .u8) w A1 l1.length l1) (hc1 : l1.length ≤ c1) (h : haspref05_number.f k a0 l1 = some (r1, r2)) :
    Calls Tryd.prog 32 #[.int .i64 a0, .slice A1 l1.length c1] w fun e w' => e = .returned (.tuple #[.int .i64 r1, .int .i64 r2]) ∧ Drawn0 w w' := by
  have HR1 := Aside0.mk hr1
  have HC1 := Aside0.mk hc1
  clear hr1 hc1
  have H : (haspref05_number.l0 k a0 l1 0 0) = some (r1, r2) := h
  clear h
  have H' := Aside0.mk H
  clear H
  go_enter Tryd.func32, Tryd.ntmps32
  go_wp2
  go_loopg [6, 7] k (fun kq v6 v7 w' => ∃ (x6_1 : Int) (x7_1 : Int), v6 = .int .u64 x6_1 ∧ v7 = .int .i64 x7_1 ∧ Aside0 (haspref05_number.l0 kq a0 l1 x6_1 x7_1 = some (r1, r2)) ∧ Aside0 (kq ≤ k) ∧ Drawn0 w w')
  case atStart => exact ⟨(0), (0), (by first | rfl | (simp; done) | (simp [*]; done) | (simp; exact isEmpty_bne _) | (simp [*]; exact isEmpty_bne _)), (by first | rfl | (simp; done) | (simp [*]; done) | (simp; exact isEmpty_bne _) | (simp [*]; exact isEmpty_bne _)), H', ⟨Nat.le_refl _⟩, by repeat (first | exact Drawn0.refl _ | apply Drawn0.step)⟩
  case round =>
    clear H'
    try clear c1
    try clear p2
    obtain ⟨x6_1, x7_1, rfl, rfl, HA, HK1, ⟨m1, rfl⟩⟩ := hrel
    cases gk with
    | zero => exact absurd HA.out (by simp [haspref05_number.l0])
    | succ k1 =>
      have H := HA.out
      clear HA
      simp only [haspref05_number.l0] at H
      by_cases c3 : x7_1 < (l1.length : Int)
      · rw [if_pos c3] at H
        have c3b0 : decide (x7_1 < (l1.length : Int)) = true := decide_eq_true c3
        clear c3
        by_cases c4 : 0 ≤ x7_1
        · rw [if_pos c4] at H
          have c4b0 : decide (0 ≤ x7_1) = true := decide_eq_true c4
          clear c4
          have H' := Aside0.mk H
          clear H
          have p229 : 0 ≤ (x7_1 : Int) := of_decide_eq_true (by first | (with_reducible assumption) | assumption)
          have q229 : x7_1 < (l1.length : Int) := of_decide_eq_true (by first | (with_reducible assumption) | assumption)
          obtain ⟨ad229, e229, hx229_0⟩ := Kd.at_int HR1.out x7_1 p229 q229
          cases e229
          replace p229 := eq_true p229
          replace q229 := eq_true q229
          go_wp2
          go_roundg k1
          case measure => have := HK1.out; omega
          case rel => exact ⟨(IntKind.u64.wrap ((IntKind.u64.wrap (x6_1 * 256)) + (IntKind.u64.wrap (rd l1 x7_1)))), (wrap64 (x7_1 + 1)), (by first | rfl | (simp; done) | (simp [*]; done) | (simp; exact isEmpty_bne _) | (simp [*]; exact isEmpty_bne _)), (by first | rfl | (simp; done) | (simp [*]; done) | (simp; exact isEmpty_bne _) | (simp [*]; exact isEmpty_bne _)), H', ⟨by have := HK1.out; omega⟩, by repeat (first | exact Drawn0.refl _ | apply Drawn0.step)⟩
        · rw [if_neg c4] at H
          exact absurd H (by simp)
      · rw [if_neg c3] at H
        have c3b0 : decide (x7_1 < (l1.length : Int)) = false := decide_eq_false c3
        clear c3
        by_cases c5 : a0 = 1
        · rw [if_pos c5] at H
          have c5b0 : (a0 == 1) = true := beq_iff_eq.mpr c5
          have c5b1 : (a0 != 1) = false := bne_eq_false_iff_eq.mpr c5
          clear c5
          by_cases c6 : x6_1 > 1
          · rw [if_pos c6] at H
            have c6b0 : decide (1 < x6_1) = true := decide_eq_true c6
            clear c6
            simp only [Option.some.injEq, Prod.mk.injEq] at H
            obtain ⟨rfl, rfl⟩ := H
            go_wp2
            go_ret2
            exact ⟨by first | rfl | (simp; done) | (simp [*]; done) | (simp; exact isEmpty_bne _) | (simp [*]; exact isEmpty_bne _), by repeat (first | exact Drawn0.refl _ | apply Drawn0.step)⟩
          · rw [if_neg c6] at H
            have c6b0 : decide (1 < x6_1) = false := decide_eq_false c6
            clear c6
            simp only [Option.some.injEq, Prod.mk.injEq] at H
            obtain ⟨rfl, rfl⟩ := H
            go_wp2
            go_ret2
            exact ⟨by first | rfl | (simp; done) | (simp [*]; done) | (simp; exact isEmpty_bne _) | (simp [*]; exact isEmpty_bne _), by repeat (first | exact Drawn0.refl _ | apply Drawn0.step)⟩
        · rw [if_neg c5] at H
          have c5b0 : (a0 == 1) = false := beq_eq_false_iff_ne.mpr c5
          have c5b1 : (a0 != 1) = true := bne_iff_ne.mpr c5
          by_cases c7 : a0 = 2
          · rw [if_pos c7] at H
            have c7b0 : (a0 == 2) = true := beq_iff_eq.mpr c7
            have c7b1 : (a0 != 2) = false := bne_eq_false_iff_eq.mpr c7
            clear c7
            simp only [Option.some.injEq, Prod.mk.injEq] at H
            obtain ⟨rfl, rfl⟩ := H
            go_wp2
            go_ret2
            exact ⟨by first | rfl | (simp; done) | (simp [*]; done) | (simp; exact isEmpty_bne _) | (simp [*]; exact isEmpty_bne _), by repeat (first | exact Drawn0.refl _ | apply Drawn0.step)⟩
          · rw [if_neg c7] at H
            have c7b0 : (a0 == 2) = false := beq_eq_false_iff_ne.mpr c7
            have c7b1 : (a0 != 2) = true := bne_iff_ne.mpr c7
            by_cases c8 : x6_1 < 9223372036854775808
            · rw [if_pos c8] at H
              have c8b0 : decide (x6_1 < 9223372036854775808) = true := decide_eq_true c8
              clear c8
              by_cases c9 : (wrap64 ((-1) - (wrap64 (x6_1)))) = (-9223372036854775808)
              · rw [if_pos c9] at H
                have c9b0 : ((wrap64 ((-1) - (wrap64 (x6_1)))) == (-9223372036854775808)) = true := beq_iff_eq.mpr c9
                have c9b1 : ((wrap64 ((-1) - (wrap64 (x6_1)))) != (-9223372036854775808)) = false := bne_eq_false_iff_eq.mpr c9
                clear c9
                simp only [Option.some.injEq, Prod.mk.injEq] at H
                obtain ⟨rfl, rfl⟩ := H
                go_wp2
                go_ret2
                exact ⟨by first | rfl | (simp; done) | (simp [*]; done) | (simp; exact isEmpty_bne _) | (simp [*]; exact isEmpty_bne _), by repeat (first | exact Drawn0.refl _ | apply Drawn0.step)⟩
              · rw [if_neg c9] at H
                have c9b0 : ((wrap64 ((-1) - (wrap64 (x6_1)))) == (-9223372036854775808)) = false := beq_eq_false_iff_ne.mpr c9
                have c9b1 : ((wrap64 ((-1) - (wrap64 (x6_1)))) != (-9223372036854775808)) = true := bne_iff_ne.mpr c9
                replace H := Option.bind_eq_some_iff.mp H
                obtain ⟨t230, A100, H⟩ := H
                replace H : (if (wrap64 ((-1) - (wrap64 (x6_1)))) = t230 then (some (wrap64 ((-1) - (wrap64 (x6_1))), 0)) else (some (0, 2))) = some (r1, r2) := H
                have A10 := Aside0.mk A100
                clear A100
                by_cases c11 : (wrap64 ((-1) - (wrap64 (x6_1)))) = t230
                · rw [if_pos c11] at H
                  have c11b0 : ((wrap64 ((-1) - (wrap64 (x6_1)))) == t230) = true := beq_iff_eq.mpr c11
                  have c11b1 : ((wrap64 ((-1) - (wrap64 (x6_1)))) != t230) = false := bne_eq_false_iff_eq.mpr c11
                  clear c11
                  simp only [Option.some.injEq, Prod.mk.injEq] at H
                  obtain ⟨rfl, rfl⟩ := H
                  go_wp2_with (first | (go_at_call 43; (with_reducible refine (haspref01_Canon.calls (wrap64 ((-1) - (wrap64 (x6_1)))) t230 _ A10.out).mono ?_); rintro e w' ⟨rfl, ⟨nd, rfl⟩⟩))
                  go_ret2
                  exact ⟨by first | rfl | (simp; done) | (simp [*]; done) | (simp; exact isEmpty_bne _) | (simp [*]; exact isEmpty_bne _), by repeat (first | exact Drawn0.refl _ | apply Drawn0.step)⟩
                · rw [if_neg c11] at H
                  have c11b0 : ((wrap64 ((-1) - (wrap64 (x6_1)))) == t230) = false := beq_eq_false_iff_ne.mpr c11
                  have c11b1 : ((wrap64 ((-1) - (wrap64 (x6_1)))) != t230) = true := bne_iff_ne.mpr c11
                  simp only [Option.some.injEq, Prod.mk.injEq] at H
                  obtain ⟨rfl, rfl⟩ := H
                  go_wp2_with (first | (go_at_call 43; (with_reducible refine (haspref01_Canon.calls (wrap64 ((-1) - (wrap64 (x6_1)))) t230 _ A10.out).mono ?_); rintro e w' ⟨rfl, ⟨nd, rfl⟩⟩))
                  go_ret2
                  exact ⟨by first | rfl | (simp; done) | (simp [*]; done) | (simp; exact isEmpty_bne _) | (simp [*]; exact isEmpty_bne _), by repeat (first | exact Drawn0.refl _ | apply Drawn0.step)⟩
            · rw [if_neg c8] at H
              have c8b0 : decide (x6_1 < 9223372036854775808) = false := decide_eq_false c8
              clear c8
              by_cases c12 : (wrap64 (IntKind.u64.wrap (x6_1 + 9223372036854775808))) = (-9223372036854775808)
              · rw [if_pos c12] at H
                have c12b0 : ((wrap64 (IntKind.u64.wrap (x6_1 + 9223372036854775808))) == (-9223372036854775808)) = true := beq_iff_eq.mpr c12
                have c12b1 : ((wrap64 (IntKind.u64.wrap (x6_1 + 9223372036854775808))) != (-9223372036854775808)) = false := bne_eq_false_iff_eq.mpr c12
                clear c12
                simp only [Option.some.injEq, Prod.mk.injEq] at H
                obtain ⟨rfl, rfl⟩ := H
                go_wp2
                go_ret2
                exact ⟨by first | rfl | (simp; done) | (simp [*]; done) | (simp; exact isEmpty_bne _) | (simp [*]; exact isEmpty_bne _), by repeat (first | exact Drawn0.refl _ | apply Drawn0.step)⟩
              · rw [if_neg c12] at H
                have c12b0 : ((wrap64 (IntKind.u64.wrap (x6_1 + 9223372036854775808))) == (-9223372036854775808)) = false := beq_eq_false_iff_ne.mpr c12
                have c12b1 : ((wrap64 (IntKind.u64.wrap (x6_1 + 9223372036854775808))) != (-9223372036854775808)) = true := bne_iff_ne.mpr c12
                replace H := Option.bind_eq_some_iff.mp H
                obtain ⟨t231, A130, H⟩ := H
                replace H : (if (wrap64 (IntKind.u64.wrap (x6_1 + 9223372036854775808))) = t231 then (some (wrap64 (IntKind.u64.wrap (x6_1 + 9223372036854775808)), 0)) else (some (0, 2))) = some (r1, r2) := H
                have A13 := Aside0.mk A130
                clear A130
                by_cases c14 : (wrap64 (IntKind.u64.wrap (x6_1 + 9223372036854775808))) = t231
                · rw [if_pos c14] at H
                  have c14b0 : ((wrap64 (IntKind.u64.wrap (x6_1 + 9223372036854775808))) == t231) = true := beq_iff_eq.mpr c14
                  have c14b1 : ((wrap64 (IntKind.u64.wrap (x6_1 + 9223372036854775808))) != t231) = false := bne_eq_false_iff_eq.mpr c14
                  clear c14
                  simp only [Option.some.injEq, Prod.mk.injEq] at H
                  obtain ⟨rfl, rfl⟩ := H
                  go_wp2_with (first | (go_at_call 43; (with_reducible refine (haspref01_Canon.calls (wrap64 (IntKind.u64.wrap (x6_1 + 9223372036854775808))) t231 _ A13.out).mono ?_); rintro e w' ⟨rfl, ⟨nd, rfl⟩⟩))
                  go_ret2
                  exact ⟨by first | rfl | (simp; done) | (simp [*]; done) | (simp; exact isEmpty_bne _) | (simp [*]; exact isEmpty_bne _), by repeat (first | exact Drawn0.refl _ | apply Drawn0.step)⟩
                · rw [if_neg c14] at H
                  have c14b0 : ((wrap64 (IntKind.u64.wrap (x6_1 + 9223372036854775808))) == t231) = false := beq_eq_false_iff_ne.mpr c14
                  have c14b1 : ((wrap64 (IntKind.u64.wrap (x6_1 + 9223372036854775808))) != t231) = true := bne_iff_ne.mpr c14
                  simp only [Option.some.injEq, Prod.mk.injEq] at H
                  obtain ⟨rfl, rfl⟩ := H
                  go_wp2_with (first | (go_at_call 43; (with_reducible refine (haspref01_Canon.calls (wrap64 (IntKind.u64.wrap (x6_1 + 9223372036854775808))) t231 _ A13.out).mono ?_); rintro e w' ⟨rfl, ⟨nd, rfl⟩⟩))
                  go_ret2
                  exact ⟨by first | rfl | (simp; done) | (simp [*]; done) | (simp; exact isEmpty_bne _) | (simp [*]; exact isEmpty_bne _), by repeat (first | exact Drawn0.refl _ | apply Drawn0.step)⟩

end Go.Proofs.YthoemenchimggaaDoor.V
