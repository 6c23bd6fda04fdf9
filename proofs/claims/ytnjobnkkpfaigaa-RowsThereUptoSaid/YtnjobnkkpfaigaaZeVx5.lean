import Derived.Test.YtnjobnkkpfaigaaZeVx0
import Derived.Test.YtnjobnkkpfaigaaZeVx1
import Derived.Test.YtnjobnkkpfaigaaZeVx4
namespace Go.Proofs.Ytnjobnkkpfaigaa.V
open Go.RowKit Go.Proofs.YtnjobnkkpfaigaaW.PrintWords Go.Proofs.YtnjobnkkpfaigaaW.PrintLast Go.Proofs.YtnjobnkkpfaigaaW.PrintMore Go.Proofs.Ytnjobnkkpfaigaa.A
attribute [local go_sem] max2_int min2_int max_two min_two max_three min_three max_four min_four   -- for this text's walks alone
set_option linter.unusedVariables false
set_option linter.unusedSimpArgs false
attribute [local go_sem high] eqA43
/-! ### rows_Encode: function 11 -/
mutual
def rows_Encode.l0 : Nat → List Int → List (S43) → Int → Int → Option (List Int × Int)
  | 0, _, _, _, _ => none
  | k + 1, x7, x21, x22, x23 => if x23 < x22 then (if 0 ≤ x23 then (if x23 < (x21.length : Int) then (if ((rd_T43 x21 x23).f0) = 0 then (if 0 ≤ (wrap64 (Int.tdiv x23 8)) then (if (wrap64 (Int.tdiv x23 8)) < (x7.length : Int) then (if 0 ≤ (Int.tmod x23 8) then (rows_Encode.l0 k (x7.set ((wrap64 (Int.tdiv x23 8)) : Int).toNat (Go.bits .or .u8 (rd x7 (wrap64 (Int.tdiv x23 8))) (shl .u8 1 (Int.tmod x23 8)))) x21 x22 (wrap64 (x23 + 1))) else (none)) else (none)) else (none)) else (if ((rd_T43 x21 x23).f0) = 1 then (if x7.length < 140737488355328 then (rows_Encode.l0 k (x7 ++ [((rd_T43 x21 x23).f1) % 256]) x21 x22 (wrap64 (x23 + 1))) else (none)) else (if ((rd_T43 x21 x23).f0) = 4 then (if x7.length < 140737488355328 then ((some (x7 ++ [((((rd_T43 x21 x23).f2).size : Int)) % 256] : List Int)).bind fun y120 => (if y120.length + ((rd_T43 x21 x23).f2).size < 140737488355328 then (rows_Encode.l0 k (y120 ++ bytesOf ((rd_T43 x21 x23).f2)) x21 x22 (wrap64 (x23 + 1))) else (none))) else (none)) else (rows_Encode.l1 k x7 0 x21 x22 x23 ((rd_T43 x21 x23).f0) ((rd_T43 x21 x23).f1) ((rd_T43 x21 x23).f2))))) else (none)) else (none)) else (some (x7, 0))
def rows_Encode.l1 : Nat → List Int → Int → List (S43) → Int → Int → Int → Int → ByteArray → Option (List Int × Int)
  | 0, _, _, _, _, _, _, _, _ => none
  | k + 1, x7, x10, x21, x22, x23, x115000, x115001, x115002 => if x10 < 64 then (if 0 ≤ x10 then (if x7.length < 140737488355328 then (rows_Encode.l1 k (x7 ++ [(shr .i64 x115001 x10) % 256]) (wrap64 (x10 + 8)) x21 x22 x23 x115000 x115001 x115002) else (none)) else (none)) else (rows_Encode.l0 k x7 x21 x22 (wrap64 (x23 + 1)))
end
def rows_Encode.f (k : Nat) (l0 : List (S47)) (l1 : List (S43)) : Option (List Int × Int) := (rows_Fit.f k l0 l1).bind fun t108 => (if t108 = 0 then ((rows_bitmap.f (l1.length : Int)).bind fun t109 => (if 0 ≤ t109 then (if (t109 : Int).toNat ≤ 281474976710656 then (rows_Encode.l0 k (List.replicate (t109 : Int).toNat 0) l1 (l1.length : Int) 0) else (none)) else (none))) else (some (([] : List Int), t108)))
theorem rows_Encode.mono_l : ∀ k, (∀ y0 y1 y2 y3, LeO (rows_Encode.l0 k y0 y1 y2 y3) (rows_Encode.l0 (k + 1) y0 y1 y2 y3)) ∧ (∀ y0 y1 y2 y3 y4 y5 y6 y7, LeO (rows_Encode.l1 k y0 y1 y2 y3 y4 y5 y6 y7) (rows_Encode.l1 (k + 1) y0 y1 y2 y3 y4 y5 y6 y7))
  | 0 => ⟨fun _ _ _ _ r h => by simp [rows_Encode.l0] at h, fun _ _ _ _ _ _ _ _ r h => by simp [rows_Encode.l1] at h⟩
  | k + 1 => by
    obtain ⟨ih0, ih1⟩ := rows_Encode.mono_l k
    refine ⟨?_, ?_⟩
    · intro y0 y1 y2 y3
      unfold rows_Encode.l0
      repeat' first
      | (with_reducible exact ih0 _ _ _ _)
      | (with_reducible exact ih1 _ _ _ _ _ _ _ _)
      | (with_reducible exact rows_Fit.mono _ _ _)
      | (with_reducible exact LeO.refl _)
      | (with_reducible exact LeO.none _)
      | (with_reducible refine LeO.ite ?_ ?_)
      | (with_reducible refine LeO.bind ?_ (fun _ => ?_))
      | exact ih0 _ _ _ _
      | exact ih1 _ _ _ _ _ _ _ _
      | exact rows_Fit.mono _ _ _
      | exact LeO.none _
      | refine LeO.ite ?_ ?_
      | refine LeO.bind ?_ (fun _ => ?_)
    · intro y0 y1 y2 y3 y4 y5 y6 y7
      unfold rows_Encode.l1
      repeat' first
      | (with_reducible exact ih0 _ _ _ _)
      | (with_reducible exact ih1 _ _ _ _ _ _ _ _)
      | (with_reducible exact rows_Fit.mono _ _ _)
      | (with_reducible exact LeO.refl _)
      | (with_reducible exact LeO.none _)
      | (with_reducible refine LeO.ite ?_ ?_)
      | (with_reducible refine LeO.bind ?_ (fun _ => ?_))
      | exact ih0 _ _ _ _
      | exact ih1 _ _ _ _ _ _ _ _
      | exact rows_Fit.mono _ _ _
      | exact LeO.none _
      | refine LeO.ite ?_ ?_
      | refine LeO.bind ?_ (fun _ => ?_)
theorem rows_Encode.mono : ∀ a0 a1 k, LeO (rows_Encode.f k a0 a1) (rows_Encode.f (k + 1) a0 a1) := by
  intro a0 a1 k
  obtain ⟨ih0, ih1⟩ := rows_Encode.mono_l k
  unfold rows_Encode.f
  repeat' first
      | (with_reducible exact ih0 _ _ _ _)
      | (with_reducible exact ih1 _ _ _ _ _ _ _ _)
      | (with_reducible exact rows_Fit.mono _ _ _)
      | (with_reducible exact LeO.refl _)
      | (with_reducible exact LeO.none _)
      | (with_reducible refine LeO.ite ?_ ?_)
      | (with_reducible refine LeO.bind ?_ (fun _ => ?_))
      | exact ih0 _ _ _ _
      | exact ih1 _ _ _ _ _ _ _ _
      | exact rows_Fit.mono _ _ _
      | exact LeO.none _
      | refine LeO.ite ?_ ?_
      | refine LeO.bind ?_ (fun _ => ?_)
def rows_Encode.T14 : Bool × List (List Nat × List Nat) := (true, [([], []), ([], []), ([1], [1]), ([0, 2], [0, 2]), ([3], [3]), ([], []), ([5], [5]), ([6], [6]), ([4, 7], [4, 7]), ([0, 2, 0, 1, 2, 3, 4, 5, 6, 7, 8], [0, 2]), ([9, 8, 0, 1, 2, 3, 4, 5, 6, 7, 8], [8, 9])])
def rows_Encode.B14 : List Nat := [0, 0, 2, 7, 15, 0, 32, 96, 255, 511, 1023]
theorem rows_Encode.tab14 : rtab .any (opsOf Try.f11 14) = rows_Encode.T14 := by kernel_rfl
theorem rows_Encode.bits14 : waitsOk rows_Encode.T14.2 rows_Encode.B14 = true := by kernel_rfl
set_option maxHeartbeats 8000000 in
set_option maxRecDepth 100000 in
theorem rows_Encode.calls (k : Nat) (A0 : Option Addr) (c0 : Nat) (l0 : List (S47)) (A1 : Option Addr) (c1 : Nat) (l1 : List (S43)) (r1 : List Int) (r2 : Int) (w : World) (hr0 : Kd.C k47 w A0 l0.length l0) (hc0 : l0.length ≤ c0) (hr1 : Kd.C k43 w A1 l1.length l1) (hc1 : l1.length ≤ c1) (h : rows_Encode.f k l0 l1 = some (r1, r2)) :
    Calls Try.prog 11 #[.slice A0 l0.length c0, .slice A1 l1.length c1] w fun e w' => ∃ v0_ : Value, e = .returned (.tuple #[v0_, .int .i64 r2]) ∧ Kd.R (Kd.int .u8) 5 w' w.heap.size (fun _ => True) v0_ r1 ∧ Below w.heap.size w w' := by
  have hu43 := Try.underlying43
  have HR0 := Aside0.mk hr0
  have HC0 := Aside0.mk hc0
  clear hr0 hc0
  have HR1 := Aside0.mk hr1
  have HC1 := Aside0.mk hc1
  clear hr1 hc1
  have HB := Aside0.mk (Below.refl w.heap.size w)
  have H : ((rows_Fit.f k l0 l1).bind fun t108 => (if t108 = 0 then ((rows_bitmap.f (l1.length : Int)).bind fun t109 => (if 0 ≤ t109 then (if (t109 : Int).toNat ≤ 281474976710656 then (rows_Encode.l0 k (List.replicate (t109 : Int).toNat 0) l1 (l1.length : Int) 0) else (none)) else (none))) else (some (([] : List Int), t108)))) = some (r1, r2) := h
  clear h
  replace H := Option.bind_eq_some_iff.mp H
  obtain ⟨t108, A30, H⟩ := H
  replace H : (if t108 = 0 then ((rows_bitmap.f (l1.length : Int)).bind fun t109 => (if 0 ≤ t109 then (if (t109 : Int).toNat ≤ 281474976710656 then (rows_Encode.l0 k (List.replicate (t109 : Int).toNat 0) l1 (l1.length : Int) 0) else (none)) else (none))) else (some (([] : List Int), t108))) = some (r1, r2) := H
  have A3 := Aside0.mk A30
  clear A30
  by_cases c4 : t108 = 0
  · rw [if_pos c4] at H
    have c4b0 : (t108 == 0) = true := beq_iff_eq.mpr c4
    have c4b1 : (t108 != 0) = false := bne_eq_false_iff_eq.mpr c4
    clear c4
    replace H := Option.bind_eq_some_iff.mp H
    obtain ⟨t109, A50, H⟩ := H
    replace H : (if 0 ≤ t109 then (if (t109 : Int).toNat ≤ 281474976710656 then (rows_Encode.l0 k (List.replicate (t109 : Int).toNat 0) l1 (l1.length : Int) 0) else (none)) else (none)) = some (r1, r2) := H
    have A5 := Aside0.mk A50
    clear A50
    by_cases c6 : 0 ≤ t109
    · rw [if_pos c6] at H
      have c6b0 := eq_true c6
      have c6b1 : decide (0 ≤ t109) = true := decide_eq_true c6
      clear c6
      by_cases c7 : (t109 : Int).toNat ≤ 281474976710656
      · rw [if_pos c7] at H
        have c7b0 := eq_true c7
        have c7b1 : decide ((t109 : Int).toNat ≤ 281474976710656) = true := decide_eq_true c7
        clear c7
        obtain ⟨y110, hy110⟩ : ∃ y_ : List Int, y_ = (List.replicate (t109 : Int).toNat 0) := ⟨_, rfl⟩
        replace H : (rows_Encode.l0 k y110 l1 (l1.length : Int) 0) = some (r1, r2) := by first | (rw [hy110]; with_reducible exact H) | (have H2_ := (Option.bind_some _ _).symm.trans H; rw [hy110]; with_reducible exact H2_) | (have H2_ := (Option.bind_some _ _).symm.trans H; with_reducible exact H2_) | with_reducible exact H | (rw [hy110]; exact H) | exact H
        have Ny110 := Aside0.mk hy110
        clear hy110
        have H' := Aside0.mk H
        clear H
        go_enter Try.func11, Try.ntmps11
        go_wp2_with (first | ((with_reducible refine gate_callee (f := 13) rfl ?_); refine goesL_ (some 13) rfl rfl Try.func13 (by kernel_rfl) rfl #[.slice A0 l0.length c0, .slice A1 l1.length c1] rfl (by (try simp only [List.map_toArray, List.map_cons, List.map_nil]); first | done | rfl | (simp only [List.length_drop, List.length_take]; rfl)) ?_; (with_reducible refine (rows_Fit.calls k _ _ l0 _ _ l1 t108 _ ?side1 ?side2 ?side3 ?side4 A3.out).mono ?_); (case side1 => repeat (first | exact HR0.out | (with_reducible refine Kd.C_alloc ?_ _) | (with_reducible refine Kd.C_drewN ?_ _) | (with_reducible refine Kd.C_drew ?_))); (case side2 => exact HC0.out); (case side3 => repeat (first | exact HR1.out | (with_reducible refine Kd.C_alloc ?_ _) | (with_reducible refine Kd.C_drewN ?_ _) | (with_reducible refine Kd.C_drew ?_))); (case side4 => exact HC1.out); rintro e w8 ⟨rfl, hb⟩; refine ⟨_, rfl, ?_⟩; have n0_ := Aside0.mk (below_step (by repeat (first | (with_reducible first | exact HB.out | apply below_alloc | apply pw_below_drewN | apply below_drew1) | exact HB.out)) hb); clear HB; have HB := n0_; clear n0_; (try clear hb); (try clear hb2); (try clear hk); (try clear hi)) | ((with_reducible refine gate_callee (f := 19) rfl ?_); refine goesL_ (some 19) rfl rfl Try.func19 (by kernel_rfl) rfl #[.int .i64 (l1.length : Int)] rfl (by (try simp only [List.map_toArray, List.map_cons, List.map_nil]); first | done | rfl | (simp only [List.length_drop, List.length_take]; rfl)) ?_; (with_reducible refine (rows_bitmap.calls (l1.length : Int) t109 _ A5.out).mono ?_); rintro e w' ⟨rfl, ⟨nd, rfl⟩⟩; refine ⟨_, rfl, ?_⟩) | ((with_reducible refine gate_dst (N := 20) rfl ?_); refine Kd.R_make (Kd.int .u8) _ 5 rfl (N := 20) rfl 27 _ _ rfl t109 rfl rfl Try.underlying27 (.int .u8 0) 1 info5 rfl (by decide) (by omega) 0 (ok := fun _ => True) (okp := fun _ => True) rfl (fun _ hk => hk) trivial (of_decide_eq_true (by first | (with_reducible assumption) | assumption)) (Nat.le_trans (Nat.mul_le_mul_right _ (of_decide_eq_true (by first | (with_reducible assumption) | assumption) : t109.toNat ≤ 281474976710656)) (by omega)) (Below.refl _ _) (Nat.le_refl _) ?_; intro v111 w9 ho10 hb hg_ hnew_; clear hg_ hnew_; (first | rw [← Ny110.out] at ho10 | (simp only [Int.reduceToNat] at ho10; rw [← Ny110.out] at ho10)); have n0_ := Aside0.mk (Kd.R_lower ho10 (below_size (by repeat (first | (with_reducible first | exact HB.out | apply below_alloc | apply pw_below_drewN | apply below_drew1) | exact HB.out)))); have n1_ := Aside0.mk (below_step (by repeat (first | (with_reducible first | exact HB.out | apply below_alloc | apply pw_below_drewN | apply below_drew1) | exact HB.out)) hb); clear HB; have HO112 := n0_; have HB := n1_; clear n0_ n1_; clear hb ho10))
        go_loopg [7, 23] k (fun kq v7 v23 w' => ∃ (x7_1 : List Int) (x23_1 : Int), v23 = .int .i64 x23_1 ∧ Aside0 (rows_Encode.l0 kq x7_1 l1 (l1.length : Int) x23_1 = some (r1, r2)) ∧ Aside0 (kq ≤ k) ∧ Aside0 (Kd.R (Kd.int .u8) 5 w' w.heap.size (fun _ => True) v7 x7_1) ∧ Aside0 (Below w.heap.size w w'))
        case atStart => exact ⟨(y110), (0), (by first | rfl | (simp; done) | (simp [*]; done) | (simp; exact isEmpty_bne _) | (simp [*]; exact isEmpty_bne _)), H', ⟨Nat.le_refl _⟩, ⟨by (with_reducible repeat (first | apply Kd.R_alloc | apply Kd.R_drewN | apply Kd.R_drew)); exact HO112.out⟩, ⟨by repeat (first | (with_reducible first | exact HB.out | apply below_alloc | apply pw_below_drewN | apply below_drew1) | exact HB.out)⟩⟩
        case round =>
          clear H'
          try clear c1
          try clear p2
          try clear c4
          try clear c4b0
          try clear c4b1
          try clear c6
          try clear c6b0
          try clear c6b1
          try clear c7
          try clear c7b0
          try clear c7b1
          obtain ⟨x7_1, x23_1, rfl, HA, HK1, HO_7, HB⟩ := hrel
          cases gk with
          | zero => exact absurd HA.out (by simp [rows_Encode.l0])
          | succ k1 =>
            have H := HA.out
            clear HA
            simp only [rows_Encode.l0] at H
            by_cases c11 : x23_1 < (l1.length : Int)
            · rw [if_pos c11] at H
              have c11b0 : decide (x23_1 < (l1.length : Int)) = true := decide_eq_true c11
              clear c11
              by_cases c12 : 0 ≤ x23_1
              · rw [if_pos c12] at H
                have c12b0 : decide (0 ≤ x23_1) = true := decide_eq_true c12
                clear c12
                by_cases c13 : x23_1 < (l1.length : Int)
                · rw [if_pos c13] at H
                  have c13b0 : decide (x23_1 < (l1.length : Int)) = true := decide_eq_true c13
                  clear c13
                  by_cases c14 : ((rd_T43 l1 x23_1).f0) = 0
                  · rw [if_pos c14] at H
                    have c14b0 : (((rd_T43 l1 x23_1).f0) == 0) = true := beq_iff_eq.mpr c14
                    have c14b1 : (((rd_T43 l1 x23_1).f0) != 0) = false := bne_eq_false_iff_eq.mpr c14
                    clear c14
                    obtain ⟨ji15, hji15⟩ : ∃ j_ : Int, (wrap64 (Int.tdiv x23_1 8)) = j_ := ⟨_, rfl⟩
                    replace H : (if 0 ≤ (ji15) then (if (ji15) < (x7_1.length : Int) then (if 0 ≤ (Int.tmod x23_1 8) then (rows_Encode.l0 k1 (x7_1.set ((ji15) : Int).toNat (Go.bits .or .u8 (rd x7_1 (ji15)) (shl .u8 1 (Int.tmod x23_1 8)))) l1 (l1.length : Int) (wrap64 (x23_1 + 1))) else (none)) else (none)) else (none)) = some (r1, r2) := by first | (rw [hji15] at H; exact H) | (simp only [hji15] at H ⊢; exact H)
                    have hji15w : (IntKind.i64.wrap (Int.tdiv x23_1 8)) = ji15 := (i64_w _).trans hji15
                    by_cases c16 : 0 ≤ (ji15)
                    · rw [if_pos c16] at H
                      have c16b0 : decide (0 ≤ (ji15)) = true := decide_eq_true c16
                      clear c16
                      by_cases c17 : (ji15) < (x7_1.length : Int)
                      · rw [if_pos c17] at H
                        have c17b0 : decide ((ji15) < (x7_1.length : Int)) = true := decide_eq_true c17
                        clear c17
                        obtain ⟨ji18, hji18⟩ : ∃ j_ : Int, (Int.tmod x23_1 8) = j_ := ⟨_, rfl⟩
                        replace H : (if 0 ≤ (ji18) then (rows_Encode.l0 k1 (x7_1.set ((ji15) : Int).toNat (Go.bits .or .u8 (rd x7_1 (ji15)) (shl .u8 1 (ji18)))) l1 (l1.length : Int) (wrap64 (x23_1 + 1))) else (none)) = some (r1, r2) := by first | (rw [hji18] at H; exact H) | (simp only [hji18] at H ⊢; exact H)
                        by_cases c19 : 0 ≤ (ji18)
                        · rw [if_pos c19] at H
                          have c19b0 := eq_true c19
                          have c19b1 : decide (0 ≤ (ji18)) = true := decide_eq_true c19
                          clear c19
                          obtain ⟨ji20, hji20⟩ : ∃ j_ : Int, (shl .u8 1 (ji18)) = j_ := ⟨_, rfl⟩
                          replace H : (rows_Encode.l0 k1 (x7_1.set ((ji15) : Int).toNat (Go.bits .or .u8 (rd x7_1 (ji15)) (ji20))) l1 (l1.length : Int) (wrap64 (x23_1 + 1))) = some (r1, r2) := by first | (rw [hji20] at H; exact H) | (simp only [hji20] at H ⊢; exact H)
                          have hji20_ : (IntKind.u8.wrap (1 * 2 ^ min (ji18).toNat 8)) = ji20 := hji20
                          have hji20z : (ji18) ≤ 8 → (IntKind.u8.wrap (1 * 2 ^ (ji18).toNat)) = ji20 := shl_small hji20
                          have hji20u : (IntKind.u8.wrap (2 ^ min (ji18).toNat 8)) = ji20 := by have h_ := hji20_; rw [Int.one_mul] at h_; exact h_
                          have hji20v : (ji18) ≤ 8 → (IntKind.u8.wrap (2 ^ (ji18).toNat)) = ji20 := fun hle_ => by have h_ := hji20z hle_; rw [Int.one_mul] at h_; exact h_
                          obtain ⟨y116, hy116⟩ : ∃ y_ : List Int, y_ = (x7_1.set ((ji15) : Int).toNat (Go.bits .or .u8 (rd x7_1 (ji15)) (ji20))) := ⟨_, rfl⟩
                          replace H : (rows_Encode.l0 k1 y116 l1 (l1.length : Int) (wrap64 (x23_1 + 1))) = some (r1, r2) := by first | (rw [hy116]; with_reducible exact H) | (have H2_ := (Option.bind_some _ _).symm.trans H; rw [hy116]; with_reducible exact H2_) | (have H2_ := (Option.bind_some _ _).symm.trans H; with_reducible exact H2_) | with_reducible exact H | (rw [hy116]; exact H) | exact H
                          have Ny116 := Aside0.mk hy116
                          clear hy116
                          have H' := Aside0.mk H
                          clear H
                          have p113 : 0 ≤ (x23_1 : Int) := of_decide_eq_true (by first | (with_reducible assumption) | assumption)
                          have q113 : x23_1 < (l1.length : Int) := of_decide_eq_true (by first | (with_reducible assumption) | assumption)
                          obtain ⟨ad113, e113, hx113_0, hx113_1, hx113_2⟩ := at_T43 HR1.out x23_1 p113 q113
                          cases e113
                          replace hx113_0 := (HB.out.cell (World.block_lt_of_cell? w _ hx113_0)).trans hx113_0
                          replace hx113_1 := (HB.out.cell (World.block_lt_of_cell? w _ hx113_1)).trans hx113_1
                          replace hx113_2 := (HB.out.cell (World.block_lt_of_cell? w _ hx113_2)).trans hx113_2
                          replace p113 := eq_true p113
                          replace q113 := eq_true q113
                          try go_wp2_with (first | ((with_reducible refine gate_dst (N := 9) rfl ?_); refine box_event ?hg (N := 9) ?hd (cs := #[.int .i64 0, .int .i64 0, .string (⟨#[]⟩ : ByteArray)]) (t := 43) ?hr ?_; (case hd => rfl); (case hg => rfl); (case hr => first | (go_simp; done) | (go_simp; rfl)); intro gb114 hg w22 hbox hb; have n0_ := Aside0.mk (Kd.R_below (by (with_reducible repeat (first | apply Kd.R_alloc | apply Kd.R_drewN | apply Kd.R_drew)); exact HO_7.out) hb); have n1_ := Aside0.mk (below_step (by repeat (first | (with_reducible first | exact HB.out | apply below_alloc | apply pw_below_drewN | apply below_drew1) | exact HB.out)) hb); have n2_ := Aside0.mk (hbox); have n3_ := Aside0.mk ((by rw [hg]; exact (below_size (by repeat (first | (with_reducible first | exact HB.out | apply below_alloc | apply pw_below_drewN | apply below_drew1) | exact HB.out))) : w.heap.size ≤ gb114)); have n4_ := Aside0.mk ((by rw [hg]; exact (below_size (by repeat (first | (with_reducible first | exact HB.out | apply below_alloc | apply pw_below_drewN | apply below_drew1) | exact HB.out))) : w.heap.size ≤ gb114)); clear HO_7; clear HB; have HO_7 := n0_; have HB := n1_; have BK114 := n2_; have GW114 := n3_; have GE114 := n4_; clear n0_ n1_ n2_ n3_ n4_; clear hb hbox hg; have hcz23_0 : w22.cell? ⟨gb114, 0, none⟩ = some (.int .i64 0) := (blk_cell BK114.out 0).trans rfl; have hcz23_1 : w22.cell? ⟨gb114, 1, none⟩ = some (.int .i64 0) := (blk_cell BK114.out 1).trans rfl; have hcz23_2 : w22.cell? ⟨gb114, 2, none⟩ = some (.string (⟨#[]⟩ : ByteArray)) := (blk_cell BK114.out 2).trans rfl; have hfz23_0 := blk_frozen BK114.out 0; have hfz23_1 := blk_frozen BK114.out 1; have hfz23_2 := blk_frozen BK114.out 2))
                          have n0_ : Aside0 (Kd.R (Kd.int .u8) 5 (((w22.setCell ⟨gb114, 0, none⟩ (.int .i64 ((rd_T43 l1 x23_1).f0))).setCell ⟨gb114, 1, none⟩ (.int .i64 ((rd_T43 l1 x23_1).f1))).setCell ⟨gb114, 2, none⟩ (.string ((rd_T43 l1 x23_1).f2))) w.heap.size (fun _ => True) u7 x7_1) := ⟨by (with_reducible repeat (first | apply Kd.R_alloc | apply Kd.R_drewN | apply Kd.R_drew)); exact Kd.R_mono (Kd.R_far (p := ⟨gb114, 2, none⟩) (Kd.R_far (p := ⟨gb114, 1, none⟩) (Kd.R_far (p := ⟨gb114, 0, none⟩) (Kd.R_types HO_7.out BK114.out (by decide)) (fun _ hk => hk.2) (.int .i64 ((rd_T43 l1 x23_1).f0))) (fun _ hk => hk.2) (.int .i64 ((rd_T43 l1 x23_1).f1))) (fun _ hk => hk.2) (.string ((rd_T43 l1 x23_1).f2))) (fun _ hk => trivial)⟩
                          have n1_ : Aside0 ((((w22.setCell ⟨gb114, 0, none⟩ (.int .i64 ((rd_T43 l1 x23_1).f0))).setCell ⟨gb114, 1, none⟩ (.int .i64 ((rd_T43 l1 x23_1).f1))).setCell ⟨gb114, 2, none⟩ (.string ((rd_T43 l1 x23_1).f2))).heap[gb114]? = some (.cells #[.int .i64 ((rd_T43 l1 x23_1).f0), .int .i64 ((rd_T43 l1 x23_1).f1), .string ((rd_T43 l1 x23_1).f2)] 43 (0, 0))) := ⟨by (with_reducible repeat (first | refine blk_drewN ?_ _ | refine blk_drew ?_ | refine blk_alloc ?_ _)); refine blk_put (cs := #[.int .i64 ((rd_T43 l1 x23_1).f0), .int .i64 ((rd_T43 l1 x23_1).f1), .string (⟨#[]⟩ : ByteArray)]) ?_ 2 _ rfl; (with_reducible repeat (first | refine blk_drewN ?_ _ | refine blk_drew ?_ | refine blk_alloc ?_ _)); refine blk_put (cs := #[.int .i64 ((rd_T43 l1 x23_1).f0), .int .i64 0, .string (⟨#[]⟩ : ByteArray)]) ?_ 1 _ rfl; (with_reducible repeat (first | refine blk_drewN ?_ _ | refine blk_drew ?_ | refine blk_alloc ?_ _)); refine blk_put (cs := #[.int .i64 0, .int .i64 0, .string (⟨#[]⟩ : ByteArray)]) ?_ 0 _ rfl; (with_reducible repeat (first | refine blk_drewN ?_ _ | refine blk_drew ?_ | refine blk_alloc ?_ _)); exact BK114.out⟩
                          have n2_ : Aside0 (Below w.heap.size w (((w22.setCell ⟨gb114, 0, none⟩ (.int .i64 ((rd_T43 l1 x23_1).f0))).setCell ⟨gb114, 1, none⟩ (.int .i64 ((rd_T43 l1 x23_1).f1))).setCell ⟨gb114, 2, none⟩ (.string ((rd_T43 l1 x23_1).f2)))) := ⟨by repeat (first | (with_reducible first | exact HB.out | apply below_alloc | apply pw_below_drewN | apply below_drew1 | refine below_set ?_ GE114.out) | exact HB.out)⟩
                          (try clear HO_7)
                          (try clear BK114)
                          (try clear HB)
                          generalize (((w22.setCell ⟨gb114, 0, none⟩ (.int .i64 ((rd_T43 l1 x23_1).f0))).setCell ⟨gb114, 1, none⟩ (.int .i64 ((rd_T43 l1 x23_1).f1))).setCell ⟨gb114, 2, none⟩ (.string ((rd_T43 l1 x23_1).f2))) = w24 at n0_ n1_ n2_ ⊢
                          have HO_7 := n0_
                          have BK114 := n1_
                          have HB := n2_
                          clear n0_ n1_ n2_
                          have n0_ := Aside0.mk (Kd.R_drew HO_7.out)
                          have n1_ := Aside0.mk (blk_drew BK114.out)
                          have n2_ := Aside0.mk (below_drew1 HB.out)
                          clear HO_7
                          clear BK114
                          clear HB
                          have HO_7 := n0_
                          have BK114 := n1_
                          have HB := n2_
                          clear n0_ n1_ n2_
                          obtain ⟨Ao26, co26, eo26⟩ := Kd.R_slice HO_7.out
                          (first | subst eo26 | (injection eo26 with f1_ f2_ f3_; have f4_ := f1_.symm; have f5_ := f3_.symm; clear f1_ f2_ f3_; subst f4_; subst f5_))
                          have p115 : 0 ≤ ((ji15) : Int) := of_decide_eq_true (by first | (with_reducible assumption) | assumption)
                          have q115 : (ji15) < (x7_1.length : Int) := of_decide_eq_true (by first | (with_reducible assumption) | assumption)
                          obtain ⟨ad115, e115, hx115_0⟩ := Kd.at_int (Kd.R_reads' HO_7.out).2.2 (ji15) p115 q115
                          cases e115
                          replace p115 := eq_true p115
                          replace q115 := eq_true q115
                          have p21 : 0 ≤ ((ji15) : Int) := of_decide_eq_true (by first | (with_reducible assumption) | assumption)
                          have q21 : ((ji15) : Int) < ((x7_1.length : Int) : Int) := of_decide_eq_true (by first | (with_reducible assumption) | assumption)
                          obtain ⟨go21, co21, eo21, gb21, gl21, cl21, HG21⟩ := Kd.R_form HO_7.out (by omega)
                          (first | cases eo21 | (injection eo21 with ea_ en_ ec_; (first | subst ea_ | (injection ea_ with ea_; subst ea_)); subst ec_; clear en_))
                          have GB21 := Aside0.mk gb21
                          have GG21 := Aside0.mk HG21
                          clear gb21 gl21 HG21
                          (first | simp only [add_plain] at hx115_0 | skip)
                          obtain ⟨hx21_0, hf21_0⟩ := Kd.R_celln 0 HO_7.out ((ji15) : Int) p21 q21
                          replace p21 := eq_true p21
                          replace q21 := eq_true q21
                          have HP27 := Kd.R_putn HO_7.out ((ji15) : Int) (Go.bits .or .u8 (rd x7_1 (ji15)) (ji20))
                          rw [← Ny116.out] at HP27
                          have HQ27 := Aside0.mk HP27
                          clear HP27
                          refine start_ (n := 11) (S := fun w' => w'.cell? ⟨go21, ((ji15)).toNat, none⟩ = some (.int .u8 (rd x7_1 (ji15)))) (ds := [10]) #[false, false, false, false, false, false, false, false, false, false, false] (by kernel_rfl) rfl rfl (hx115_0) (fun hHeld => ?_); refine with_tabW rows_Encode.tab14 rows_Encode.bits14 (fun HT_ HW_ => ?_)
                          generalize w24.drew = w25 at HO_7 BK114 HB GG21 HQ27 hf21_0 hx115_0 hx21_0 hHeld ⊢
                          refine pure_ (i := 0) (N := some 44) (v := ?_) (a' := ?_) #[true, false, false, false, false, false, false, false, false, false, false] rfl rfl (any_of HT_.out (by kernel_rfl)) (fun _ _ _ h => h) (Or.inl ⟨by rfl, ?_⟩) ?_ ?_
                          rotate_left
                          · intro w'
                            go_simp
                            with_reducible rfl
                          rotate_left
                          · simp only [Act.put, List.setIfInBounds_toArray, List.set_cons_zero, List.set_cons_succ, i64_w, i32_w]
                            rfl
                          refine pure_ (i := 1) (N := some 45) (v := ?_) (a' := ?_) #[true, true, false, false, false, false, false, false, false, false, false] rfl rfl (any_of HT_.out (by kernel_rfl)) (fun _ _ _ h => h) (Or.inl ⟨by rfl, ?_⟩) ?_ ?_
                          rotate_left
                          · intro w'
                            go_simp
                            with_reducible rfl
                          rotate_left
                          · simp only [Act.put, List.setIfInBounds_toArray, List.set_cons_zero, List.set_cons_succ, i64_w, i32_w]
                            rfl
                          refine pure_ (i := 2) (N := some 46) (v := ?_) (a' := ?_) #[true, true, true, false, false, false, false, false, false, false, false] rfl rfl (any_of HT_.out (by kernel_rfl)) (fun _ _ _ h => h) (Or.inl ⟨by rfl, ?_⟩) ?_ ?_
                          rotate_left
                          · intro w'
                            go_simp
                            with_reducible rfl
                          rotate_left
                          · simp only [Act.put, List.setIfInBounds_toArray, List.set_cons_zero, List.set_cons_succ, i64_w, i32_w]
                            rfl
                          refine pure_ (i := 3) (N := some 47) (v := ?_) (a' := ?_) #[true, true, true, true, false, false, false, false, false, false, false] rfl rfl (any_of HT_.out (by kernel_rfl)) (fun _ _ _ h => h) (Or.inl ⟨by rfl, ?_⟩) ?_ ?_
                          rotate_left
                          · intro w'
                            go_simp
                            with_reducible rfl
                          rotate_left
                          · simp only [Act.put, List.setIfInBounds_toArray, List.set_cons_zero, List.set_cons_succ, i64_w, i32_w]
                            rfl
                          refine pure_ (i := 5) (N := some 49) (v := ?_) (a' := ?_) #[true, true, true, true, false, true, false, false, false, false, false] rfl rfl (any_of HT_.out (by kernel_rfl)) (fun _ _ _ h => h) (Or.inl ⟨by rfl, ?_⟩) ?_ ?_
                          rotate_left
                          · intro w'
                            go_simp
                            with_reducible rfl
                          rotate_left
                          · simp only [Act.put, List.setIfInBounds_toArray, List.set_cons_zero, List.set_cons_succ, i64_w, i32_w]
                            rfl
                          refine pure_ (i := 6) (N := some 50) (v := ?_) (a' := ?_) #[true, true, true, true, false, true, true, false, false, false, false] rfl rfl (any_of HT_.out (by kernel_rfl)) (fun _ _ _ h => h) (Or.inl ⟨by rfl, ?_⟩) ?_ ?_
                          rotate_left
                          · intro w'
                            go_simp
                            with_reducible rfl
                          rotate_left
                          · simp only [Act.put, List.setIfInBounds_toArray, List.set_cons_zero, List.set_cons_succ, i64_w, i32_w]
                            rfl
                          refine pure_ (i := 7) (N := some 51) (v := ?_) (a' := ?_) #[true, true, true, true, false, true, true, true, false, false, false] rfl rfl (any_of HT_.out (by kernel_rfl)) (fun _ _ _ h => h) (Or.inl ⟨by rfl, ?_⟩) ?_ ?_
                          rotate_left
                          · intro w'
                            go_simp
                            with_reducible rfl
                          rotate_left
                          · simp only [Act.put, List.setIfInBounds_toArray, List.set_cons_zero, List.set_cons_succ, i64_w, i32_w]
                            rfl
                          refine take_ (i := 4) (N := some 48) (v := ?_) (a' := ?_) #[true, true, true, true, true, true, true, true, false, false, false] rfl rfl (take_ofW HT_.out HW_.out (by kernel_rfl)) (fun _ _ _ h => h) (Or.inl ⟨by rfl, ?_⟩) hHeld ?_ ?_
                          rotate_left
                          · intro w' s0
                            go_simp
                            with_reducible rfl
                          rotate_left
                          · simp only [Act.put, List.setIfInBounds_toArray, List.set_cons_zero, List.set_cons_succ, i64_w, i32_w]
                            rfl
                          refine pure_ (i := 8) (N := some 52) (v := ?_) (a' := ?_) #[true, true, true, true, true, true, true, true, true, false, false] rfl rfl (any_of HT_.out (by kernel_rfl)) (fun _ _ _ h => h) (Or.inl ⟨by rfl, ?_⟩) ?_ ?_
                          rotate_left
                          · intro w'
                            go_simp
                            with_reducible rfl
                          rotate_left
                          · simp only [Act.put, List.setIfInBounds_toArray, List.set_cons_zero, List.set_cons_succ, i64_w, i32_w]
                            rfl
                          refine pure_ (i := 9) (N := some 53) (v := ?_) (a' := ?_) #[true, true, true, true, true, true, true, true, true, true, false] rfl rfl (any_of HT_.out (by kernel_rfl)) (fun _ _ _ h => h) (Or.inl ⟨by rfl, ?_⟩) ?_ ?_
                          rotate_left
                          · intro w'
                            go_simp
                            with_reducible rfl
                          rotate_left
                          · simp only [Act.put, List.setIfInBounds_toArray, List.set_cons_zero, List.set_cons_succ, i64_w, i32_w]
                            rfl
                          refine last_ (i := 10) (N := none) #[true, true, true, true, true, true, true, true, true, true, true] rfl rfl (one_of HT_.out (by kernel_rfl)) (by decide) (fun K hK => ?_)
                          refine skip_ (w1 := ?_) (by rfl) rfl ?_ ?_
                          rotate_left
                          · go_simp
                            rfl
                          refine hK.out _ _ ?_
                          clear hK K
                          refine done_ (done_of HT_.out (by kernel_rfl)) ?_
                          try go_wp2
                          go_roundg k1
                          case measure => have := HK1.out; omega
                          case rel => exact ⟨(y116), (wrap64 (x23_1 + 1)), (by first | rfl | (simp; done) | (simp [*]; done) | (simp; exact isEmpty_bne _) | (simp [*]; exact isEmpty_bne _)), H', ⟨by have := HK1.out; omega⟩, ⟨by (with_reducible repeat (first | apply Kd.R_alloc | apply Kd.R_drewN | apply Kd.R_drew)); exact HQ27.out⟩, ⟨by repeat (first | (with_reducible first | exact HB.out | apply below_alloc | apply pw_below_drewN | apply below_drew1 | refine below_set ?_ GB21.out | refine below_set ?_ GE114.out) | exact HB.out)⟩⟩
                        · rw [if_neg c19] at H
                          exact absurd H (by simp)
                      · rw [if_neg c17] at H
                        exact absurd H (by simp)
                    · rw [if_neg c16] at H
                      exact absurd H (by simp)
                  · rw [if_neg c14] at H
                    have c14b0 : (((rd_T43 l1 x23_1).f0) == 0) = false := beq_eq_false_iff_ne.mpr c14
                    have c14b1 : (((rd_T43 l1 x23_1).f0) != 0) = true := bne_iff_ne.mpr c14
                    by_cases c28 : ((rd_T43 l1 x23_1).f0) = 1
                    · rw [if_pos c28] at H
                      have c28b0 : (((rd_T43 l1 x23_1).f0) == 1) = true := beq_iff_eq.mpr c28
                      have c28b1 : (((rd_T43 l1 x23_1).f0) != 1) = false := bne_eq_false_iff_eq.mpr c28
                      clear c28
                      by_cases c29 : x7_1.length < 140737488355328
                      · rw [if_pos c29] at H
                        have LMc29 := Aside0.mk c29
                        clear c29
                        obtain ⟨y117, hy117⟩ : ∃ y_ : List Int, y_ = (x7_1 ++ [((rd_T43 l1 x23_1).f1) % 256]) := ⟨_, rfl⟩
                        replace H : (rows_Encode.l0 k1 y117 l1 (l1.length : Int) (wrap64 (x23_1 + 1))) = some (r1, r2) := by first | (rw [hy117]; with_reducible exact H) | (have H2_ := (Option.bind_some _ _).symm.trans H; rw [hy117]; with_reducible exact H2_) | (have H2_ := (Option.bind_some _ _).symm.trans H; with_reducible exact H2_) | with_reducible exact H | (rw [hy117]; exact H) | exact H
                        have Ny117 := Aside0.mk hy117
                        clear hy117
                        have H' := Aside0.mk H
                        clear H
                        have p113 : 0 ≤ (x23_1 : Int) := of_decide_eq_true (by first | (with_reducible assumption) | assumption)
                        have q113 : x23_1 < (l1.length : Int) := of_decide_eq_true (by first | (with_reducible assumption) | assumption)
                        obtain ⟨ad113, e113, hx113_0, hx113_1, hx113_2⟩ := at_T43 HR1.out x23_1 p113 q113
                        cases e113
                        replace hx113_0 := (HB.out.cell (World.block_lt_of_cell? w _ hx113_0)).trans hx113_0
                        replace hx113_1 := (HB.out.cell (World.block_lt_of_cell? w _ hx113_1)).trans hx113_1
                        replace hx113_2 := (HB.out.cell (World.block_lt_of_cell? w _ hx113_2)).trans hx113_2
                        replace p113 := eq_true p113
                        replace q113 := eq_true q113
                        go_wp2_with (first | ((with_reducible refine gate_dst (N := 9) rfl ?_); refine box_event ?hg (N := 9) ?hd (cs := #[.int .i64 0, .int .i64 0, .string (⟨#[]⟩ : ByteArray)]) (t := 43) ?hr ?_; (case hd => rfl); (case hg => rfl); (case hr => first | (go_simp; done) | (go_simp; rfl)); intro gb114 hg w30 hbox hb; have n0_ := Aside0.mk (Kd.R_below (by (with_reducible repeat (first | apply Kd.R_alloc | apply Kd.R_drewN | apply Kd.R_drew)); exact HO_7.out) hb); have n1_ := Aside0.mk (below_step (by repeat (first | (with_reducible first | exact HB.out | apply below_alloc | apply pw_below_drewN | apply below_drew1) | exact HB.out)) hb); have n2_ := Aside0.mk (hbox); have n3_ := Aside0.mk ((by rw [hg]; exact (below_size (by repeat (first | (with_reducible first | exact HB.out | apply below_alloc | apply pw_below_drewN | apply below_drew1) | exact HB.out))) : w.heap.size ≤ gb114)); have n4_ := Aside0.mk ((by rw [hg]; exact (below_size (by repeat (first | (with_reducible first | exact HB.out | apply below_alloc | apply pw_below_drewN | apply below_drew1) | exact HB.out))) : w.heap.size ≤ gb114)); clear HO_7; clear HB; have HO_7 := n0_; have HB := n1_; have BK114 := n2_; have GW114 := n3_; have GE114 := n4_; clear n0_ n1_ n2_ n3_ n4_; clear hb hbox hg; have hcz31_0 : w30.cell? ⟨gb114, 0, none⟩ = some (.int .i64 0) := (blk_cell BK114.out 0).trans rfl; have hcz31_1 : w30.cell? ⟨gb114, 1, none⟩ = some (.int .i64 0) := (blk_cell BK114.out 1).trans rfl; have hcz31_2 : w30.cell? ⟨gb114, 2, none⟩ = some (.string (⟨#[]⟩ : ByteArray)) := (blk_cell BK114.out 2).trans rfl; have hfz31_0 := blk_frozen BK114.out 0; have hfz31_1 := blk_frozen BK114.out 1; have hfz31_2 := blk_frozen BK114.out 2) | ((with_reducible refine gate_builtin (b := .append) (xs := #[.tmp 56, .tmp 60]) rfl ?_); at_builtin; refine Kd.R_append (Kd.int .u8) (w0 := w) w.heap.size rfl (.tmp 56) (.tmp 60) 27 5 (.int .u8 0) 1 rfl Try.underlying27 info5 rfl (by decide) (by omega) u7 x7_1 (((rd_T43 l1 x23_1).f1) % 256) [.int .u8 (((rd_T43 l1 x23_1).f1) % 256)] (fun _ => True) (fun _ => False) rfl (by first | (go_simp; done) | (go_simp; rfl)) ?aP (fun _ hk => hk.elim) ?aF ?aO ?aB ?aS ?aL ?_; (case aP => exact rfl); (case aB => exact (by repeat (first | (with_reducible first | exact HB.out | apply below_alloc | apply pw_below_drewN | apply below_drew1 | refine below_set ?_ GE114.out) | exact HB.out))); (case aF => exact (fun _ _ => trivial)); (case aO => exact (by (with_reducible repeat (first | apply Kd.R_alloc | apply Kd.R_drewN | apply Kd.R_drew)); exact Kd.R_mono (Kd.R_far (p := ⟨gb114, 2, none⟩) (Kd.R_far (p := ⟨gb114, 1, none⟩) (Kd.R_far (p := ⟨gb114, 0, none⟩) (Kd.R_types HO_7.out BK114.out (by decide)) (fun _ hk => hk.2) (.int .i64 ((rd_T43 l1 x23_1).f0))) (fun _ hk => hk.2) (.int .i64 ((rd_T43 l1 x23_1).f1))) (fun _ hk => hk.2) (.string ((rd_T43 l1 x23_1).f2))) (fun _ hk => trivial))); (case aS => exact (below_size (by repeat (first | (with_reducible first | exact HB.out | apply below_alloc | apply pw_below_drewN | apply below_drew1 | refine below_set ?_ GE114.out) | exact HB.out)))); (case aL => have := LMc29.out; omega); intro v118 w32 ho hb hg hat; rw [← Ny117.out] at ho; have n0_ := Aside0.mk (blk_grown (g := gb114) (o := .cells #[.int .i64 ((rd_T43 l1 x23_1).f0), .int .i64 ((rd_T43 l1 x23_1).f1), .string ((rd_T43 l1 x23_1).f2)] 43 (0, 0)) (by (with_reducible repeat (first | refine blk_drewN ?_ _ | refine blk_drew ?_ | refine blk_alloc ?_ _)); refine blk_put (cs := #[.int .i64 ((rd_T43 l1 x23_1).f0), .int .i64 ((rd_T43 l1 x23_1).f1), .string (⟨#[]⟩ : ByteArray)]) ?_ 2 _ rfl; (with_reducible repeat (first | refine blk_drewN ?_ _ | refine blk_drew ?_ | refine blk_alloc ?_ _)); refine blk_put (cs := #[.int .i64 ((rd_T43 l1 x23_1).f0), .int .i64 0, .string (⟨#[]⟩ : ByteArray)]) ?_ 1 _ rfl; (with_reducible repeat (first | refine blk_drewN ?_ _ | refine blk_drew ?_ | refine blk_alloc ?_ _)); refine blk_put (cs := #[.int .i64 0, .int .i64 0, .string (⟨#[]⟩ : ByteArray)]) ?_ 0 _ rfl; (with_reducible repeat (first | refine blk_drewN ?_ _ | refine blk_drew ?_ | refine blk_alloc ?_ _)); exact BK114.out) hg (Kd.R_ne HO_7.out BK114.out (by decide))); have n1_ := Aside0.mk (hb); have n2_ := Aside0.mk (ho); clear BK114; clear HB; clear HO_7; have BK114 := n0_; have HB := n1_; have HO119 := n2_; clear n0_ n1_ n2_; clear ho hb hg hat))
                        go_roundg k1
                        case measure => have := HK1.out; omega
                        case rel => exact ⟨(y117), (wrap64 (x23_1 + 1)), (by first | rfl | (simp; done) | (simp [*]; done) | (simp; exact isEmpty_bne _) | (simp [*]; exact isEmpty_bne _)), H', ⟨by have := HK1.out; omega⟩, ⟨by (with_reducible repeat (first | apply Kd.R_alloc | apply Kd.R_drewN | apply Kd.R_drew)); exact HO119.out⟩, ⟨by repeat (first | (with_reducible first | exact HB.out | apply below_alloc | apply pw_below_drewN | apply below_drew1 | refine below_set ?_ GE114.out) | exact HB.out)⟩⟩
                      · rw [if_neg c29] at H
                        exact absurd H (by simp)
                    · rw [if_neg c28] at H
                      have c28b0 : (((rd_T43 l1 x23_1).f0) == 1) = false := beq_eq_false_iff_ne.mpr c28
                      have c28b1 : (((rd_T43 l1 x23_1).f0) != 1) = true := bne_iff_ne.mpr c28
                      by_cases c33 : ((rd_T43 l1 x23_1).f0) = 4
                      · rw [if_pos c33] at H
                        have c33b0 : (((rd_T43 l1 x23_1).f0) == 4) = true := beq_iff_eq.mpr c33
                        have c33b1 : (((rd_T43 l1 x23_1).f0) != 4) = false := bne_eq_false_iff_eq.mpr c33
                        clear c33
                        by_cases c34 : x7_1.length < 140737488355328
                        · rw [if_pos c34] at H
                          have LMc34 := Aside0.mk c34
                          clear c34
                          obtain ⟨y120, hy120⟩ : ∃ y_ : List Int, y_ = (x7_1 ++ [((((rd_T43 l1 x23_1).f2).size : Int)) % 256]) := ⟨_, rfl⟩
                          replace H : (if y120.length + ((rd_T43 l1 x23_1).f2).size < 140737488355328 then (rows_Encode.l0 k1 (y120 ++ bytesOf ((rd_T43 l1 x23_1).f2)) l1 (l1.length : Int) (wrap64 (x23_1 + 1))) else (none)) = some (r1, r2) := by first | (rw [hy120]; with_reducible exact H) | (have H2_ := (Option.bind_some _ _).symm.trans H; rw [hy120]; with_reducible exact H2_) | (have H2_ := (Option.bind_some _ _).symm.trans H; with_reducible exact H2_) | with_reducible exact H | (rw [hy120]; exact H) | exact H
                          have Ny120 := Aside0.mk hy120
                          clear hy120
                          by_cases c35 : y120.length + ((rd_T43 l1 x23_1).f2).size < 140737488355328
                          · rw [if_pos c35] at H
                            have LMc35 := Aside0.mk c35
                            clear c35
                            obtain ⟨y123, hy123⟩ : ∃ y_ : List Int, y_ = (y120 ++ bytesOf ((rd_T43 l1 x23_1).f2)) := ⟨_, rfl⟩
                            replace H : (rows_Encode.l0 k1 y123 l1 (l1.length : Int) (wrap64 (x23_1 + 1))) = some (r1, r2) := by first | (rw [hy123]; with_reducible exact H) | (have H2_ := (Option.bind_some _ _).symm.trans H; rw [hy123]; with_reducible exact H2_) | (have H2_ := (Option.bind_some _ _).symm.trans H; with_reducible exact H2_) | with_reducible exact H | (rw [hy123]; exact H) | exact H
                            have Ny123 := Aside0.mk hy123
                            clear hy123
                            have H' := Aside0.mk H
                            clear H
                            have p113 : 0 ≤ (x23_1 : Int) := of_decide_eq_true (by first | (with_reducible assumption) | assumption)
                            have q113 : x23_1 < (l1.length : Int) := of_decide_eq_true (by first | (with_reducible assumption) | assumption)
                            obtain ⟨ad113, e113, hx113_0, hx113_1, hx113_2⟩ := at_T43 HR1.out x23_1 p113 q113
                            cases e113
                            replace hx113_0 := (HB.out.cell (World.block_lt_of_cell? w _ hx113_0)).trans hx113_0
                            replace hx113_1 := (HB.out.cell (World.block_lt_of_cell? w _ hx113_1)).trans hx113_1
                            replace hx113_2 := (HB.out.cell (World.block_lt_of_cell? w _ hx113_2)).trans hx113_2
                            replace p113 := eq_true p113
                            replace q113 := eq_true q113
                            go_wp2_with (first | ((with_reducible refine gate_dst (N := 9) rfl ?_); refine box_event ?hg (N := 9) ?hd (cs := #[.int .i64 0, .int .i64 0, .string (⟨#[]⟩ : ByteArray)]) (t := 43) ?hr ?_; (case hd => rfl); (case hg => rfl); (case hr => first | (go_simp; done) | (go_simp; rfl)); intro gb114 hg w36 hbox hb; have n0_ := Aside0.mk (Kd.R_below (by (with_reducible repeat (first | apply Kd.R_alloc | apply Kd.R_drewN | apply Kd.R_drew)); exact HO_7.out) hb); have n1_ := Aside0.mk (below_step (by repeat (first | (with_reducible first | exact HB.out | apply below_alloc | apply pw_below_drewN | apply below_drew1) | exact HB.out)) hb); have n2_ := Aside0.mk (hbox); have n3_ := Aside0.mk ((by rw [hg]; exact (below_size (by repeat (first | (with_reducible first | exact HB.out | apply below_alloc | apply pw_below_drewN | apply below_drew1) | exact HB.out))) : w.heap.size ≤ gb114)); have n4_ := Aside0.mk ((by rw [hg]; exact (below_size (by repeat (first | (with_reducible first | exact HB.out | apply below_alloc | apply pw_below_drewN | apply below_drew1) | exact HB.out))) : w.heap.size ≤ gb114)); clear HO_7; clear HB; have HO_7 := n0_; have HB := n1_; have BK114 := n2_; have GW114 := n3_; have GE114 := n4_; clear n0_ n1_ n2_ n3_ n4_; clear hb hbox hg; have hcz37_0 : w36.cell? ⟨gb114, 0, none⟩ = some (.int .i64 0) := (blk_cell BK114.out 0).trans rfl; have hcz37_1 : w36.cell? ⟨gb114, 1, none⟩ = some (.int .i64 0) := (blk_cell BK114.out 1).trans rfl; have hcz37_2 : w36.cell? ⟨gb114, 2, none⟩ = some (.string (⟨#[]⟩ : ByteArray)) := (blk_cell BK114.out 2).trans rfl; have hfz37_0 := blk_frozen BK114.out 0; have hfz37_1 := blk_frozen BK114.out 1; have hfz37_2 := blk_frozen BK114.out 2) | ((with_reducible refine gate_builtin (b := .append) (xs := #[.tmp 64, .tmp 69]) rfl ?_); at_builtin; refine Kd.R_append (Kd.int .u8) (w0 := w) w.heap.size rfl (.tmp 64) (.tmp 69) 27 5 (.int .u8 0) 1 rfl Try.underlying27 info5 rfl (by decide) (by omega) u7 x7_1 (((((rd_T43 l1 x23_1).f2).size : Int)) % 256) [.int .u8 (((((rd_T43 l1 x23_1).f2).size : Int)) % 256)] (fun _ => True) (fun _ => False) rfl (by first | (go_simp; done) | (go_simp; rfl)) ?aP (fun _ hk => hk.elim) ?aF ?aO ?aB ?aS ?aL ?_; (case aP => exact rfl); (case aB => exact (by repeat (first | (with_reducible first | exact HB.out | apply below_alloc | apply pw_below_drewN | apply below_drew1 | refine below_set ?_ GE114.out) | exact HB.out))); (case aF => exact (fun _ _ => trivial)); (case aO => exact (by (with_reducible repeat (first | apply Kd.R_alloc | apply Kd.R_drewN | apply Kd.R_drew)); exact Kd.R_mono (Kd.R_far (p := ⟨gb114, 2, none⟩) (Kd.R_far (p := ⟨gb114, 1, none⟩) (Kd.R_far (p := ⟨gb114, 0, none⟩) (Kd.R_types HO_7.out BK114.out (by decide)) (fun _ hk => hk.2) (.int .i64 ((rd_T43 l1 x23_1).f0))) (fun _ hk => hk.2) (.int .i64 ((rd_T43 l1 x23_1).f1))) (fun _ hk => hk.2) (.string ((rd_T43 l1 x23_1).f2))) (fun _ hk => trivial))); (case aS => exact (below_size (by repeat (first | (with_reducible first | exact HB.out | apply below_alloc | apply pw_below_drewN | apply below_drew1 | refine below_set ?_ GE114.out) | exact HB.out)))); (case aL => have := LMc34.out; omega); intro v121 w38 ho hb hg hat; rw [← Ny120.out] at ho; have n0_ := Aside0.mk (blk_grown (g := gb114) (o := .cells #[.int .i64 ((rd_T43 l1 x23_1).f0), .int .i64 ((rd_T43 l1 x23_1).f1), .string ((rd_T43 l1 x23_1).f2)] 43 (0, 0)) (by (with_reducible repeat (first | refine blk_drewN ?_ _ | refine blk_drew ?_ | refine blk_alloc ?_ _)); refine blk_put (cs := #[.int .i64 ((rd_T43 l1 x23_1).f0), .int .i64 ((rd_T43 l1 x23_1).f1), .string (⟨#[]⟩ : ByteArray)]) ?_ 2 _ rfl; (with_reducible repeat (first | refine blk_drewN ?_ _ | refine blk_drew ?_ | refine blk_alloc ?_ _)); refine blk_put (cs := #[.int .i64 ((rd_T43 l1 x23_1).f0), .int .i64 0, .string (⟨#[]⟩ : ByteArray)]) ?_ 1 _ rfl; (with_reducible repeat (first | refine blk_drewN ?_ _ | refine blk_drew ?_ | refine blk_alloc ?_ _)); refine blk_put (cs := #[.int .i64 0, .int .i64 0, .string (⟨#[]⟩ : ByteArray)]) ?_ 0 _ rfl; (with_reducible repeat (first | refine blk_drewN ?_ _ | refine blk_drew ?_ | refine blk_alloc ?_ _)); exact BK114.out) hg (Kd.R_ne HO_7.out BK114.out (by decide))); have n1_ := Aside0.mk (hb); have n2_ := Aside0.mk (ho); clear BK114; clear HB; clear HO_7; have BK114 := n0_; have HB := n1_; have HO122 := n2_; clear n0_ n1_ n2_; clear ho hb hg hat; have hcz39_0 : w38.cell? ⟨gb114, 0, none⟩ = some (.int .i64 ((rd_T43 l1 x23_1).f0)) := (blk_cell BK114.out 0).trans rfl; have hcz39_1 : w38.cell? ⟨gb114, 1, none⟩ = some (.int .i64 ((rd_T43 l1 x23_1).f1)) := (blk_cell BK114.out 1).trans rfl; have hcz39_2 : w38.cell? ⟨gb114, 2, none⟩ = some (.string ((rd_T43 l1 x23_1).f2)) := (blk_cell BK114.out 2).trans rfl; have hfz39_0 := blk_frozen BK114.out 0; have hfz39_1 := blk_frozen BK114.out 1; have hfz39_2 := blk_frozen BK114.out 2) | (at_builtin; refine print_append_str (w0 := w) w.heap.size rfl (.tmp 71) _ 27 9 5 rfl Try.underlying27 Try.underlying9 info5 v121 y120 ((rd_T43 l1 x23_1).f2) rfl rfl ?aO ?aB ?aS ?aL ?_; (case aB => exact (by repeat (first | (with_reducible first | exact HB.out | apply below_alloc | apply pw_below_drewN | apply below_drew1 | refine below_set ?_ GE114.out) | exact HB.out))); (case aO => exact (Kd.own_of_R (by (with_reducible repeat (first | apply Kd.R_alloc | apply Kd.R_drewN | apply Kd.R_drew)); exact HO122.out))); (case aS => exact (below_size (by repeat (first | (with_reducible first | exact HB.out | apply below_alloc | apply pw_below_drewN | apply below_drew1 | refine below_set ?_ GE114.out) | exact HB.out)))); (case aL => have := LMc35.out; omega); intro v124 w40 ho0 hb hg; have ho := Kd.R_of_own (h1 := fun _ => rfl) (ok := fun _ => True) ho0 (fun _ _ => trivial); clear ho0; have hat := True.intro; rw [← Ny123.out] at ho; change Kd.R (Kd.int .u8) 5 w40 w.heap.size (fun _ => True) v124 y123 at ho; have n0_ := Aside0.mk (blk_grown (g := gb114) (o := .cells #[.int .i64 ((rd_T43 l1 x23_1).f0), .int .i64 ((rd_T43 l1 x23_1).f1), .string ((rd_T43 l1 x23_1).f2)] 43 (0, 0)) (by (with_reducible repeat (first | refine blk_drewN ?_ _ | refine blk_drew ?_ | refine blk_alloc ?_ _)); exact BK114.out) hg (Kd.R_ne HO122.out BK114.out (by decide))); have n1_ := Aside0.mk (hb); have n2_ := Aside0.mk (ho); clear BK114; clear HB; clear HO122; have BK114 := n0_; have HB := n1_; have HO125 := n2_; clear n0_ n1_ n2_; clear ho hb hg hat))
                            go_roundg k1
                            case measure => have := HK1.out; omega
                            case rel => exact ⟨(y123), (wrap64 (x23_1 + 1)), (by first | rfl | (simp; done) | (simp [*]; done) | (simp; exact isEmpty_bne _) | (simp [*]; exact isEmpty_bne _)), H', ⟨by have := HK1.out; omega⟩, ⟨by (with_reducible repeat (first | apply Kd.R_alloc | apply Kd.R_drewN | apply Kd.R_drew)); exact HO125.out⟩, ⟨by repeat (first | (with_reducible first | exact HB.out | apply below_alloc | apply pw_below_drewN | apply below_drew1 | refine below_set ?_ GE114.out) | exact HB.out)⟩⟩
                          · rw [if_neg c35] at H
                            exact absurd H (by simp)
                        · rw [if_neg c34] at H
                          exact absurd H (by simp)
                      · rw [if_neg c33] at H
                        have c33b0 : (((rd_T43 l1 x23_1).f0) == 4) = false := beq_eq_false_iff_ne.mpr c33
                        have c33b1 : (((rd_T43 l1 x23_1).f0) != 4) = true := bne_iff_ne.mpr c33
                        have H' := Aside0.mk H
                        clear H
                        have p113 : 0 ≤ (x23_1 : Int) := of_decide_eq_true (by first | (with_reducible assumption) | assumption)
                        have q113 : x23_1 < (l1.length : Int) := of_decide_eq_true (by first | (with_reducible assumption) | assumption)
                        obtain ⟨ad113, e113, hx113_0, hx113_1, hx113_2⟩ := at_T43 HR1.out x23_1 p113 q113
                        cases e113
                        replace hx113_0 := (HB.out.cell (World.block_lt_of_cell? w _ hx113_0)).trans hx113_0
                        replace hx113_1 := (HB.out.cell (World.block_lt_of_cell? w _ hx113_1)).trans hx113_1
                        replace hx113_2 := (HB.out.cell (World.block_lt_of_cell? w _ hx113_2)).trans hx113_2
                        replace p113 := eq_true p113
                        replace q113 := eq_true q113
                        go_wp2_with (first | ((with_reducible refine gate_dst (N := 9) rfl ?_); refine box_event ?hg (N := 9) ?hd (cs := #[.int .i64 0, .int .i64 0, .string (⟨#[]⟩ : ByteArray)]) (t := 43) ?hr ?_; (case hd => rfl); (case hg => rfl); (case hr => first | (go_simp; done) | (go_simp; rfl)); intro gb114 hg w41 hbox hb; have n0_ := Aside0.mk (Kd.R_below (by (with_reducible repeat (first | apply Kd.R_alloc | apply Kd.R_drewN | apply Kd.R_drew)); exact HO_7.out) hb); have n1_ := Aside0.mk (below_step (by repeat (first | (with_reducible first | exact HB.out | apply below_alloc | apply pw_below_drewN | apply below_drew1) | exact HB.out)) hb); have n2_ := Aside0.mk (hbox); have n3_ := Aside0.mk ((by rw [hg]; exact (below_size (by repeat (first | (with_reducible first | exact HB.out | apply below_alloc | apply pw_below_drewN | apply below_drew1) | exact HB.out))) : w.heap.size ≤ gb114)); have n4_ := Aside0.mk ((by rw [hg]; exact (below_size (by repeat (first | (with_reducible first | exact HB.out | apply below_alloc | apply pw_below_drewN | apply below_drew1) | exact HB.out))) : w.heap.size ≤ gb114)); clear HO_7; clear HB; have HO_7 := n0_; have HB := n1_; have BK114 := n2_; have GW114 := n3_; have GE114 := n4_; clear n0_ n1_ n2_ n3_ n4_; clear hb hbox hg; have hcz42_0 : w41.cell? ⟨gb114, 0, none⟩ = some (.int .i64 0) := (blk_cell BK114.out 0).trans rfl; have hcz42_1 : w41.cell? ⟨gb114, 1, none⟩ = some (.int .i64 0) := (blk_cell BK114.out 1).trans rfl; have hcz42_2 : w41.cell? ⟨gb114, 2, none⟩ = some (.string (⟨#[]⟩ : ByteArray)) := (blk_cell BK114.out 2).trans rfl; have hfz42_0 := blk_frozen BK114.out 0; have hfz42_1 := blk_frozen BK114.out 1; have hfz42_2 := blk_frozen BK114.out 2))
                        go_loopg [7, 10] k1 (fun kq v7 v10 w' => ∃ (x7_2 : List Int) (x10_2 : Int), v10 = .int .i64 x10_2 ∧ Aside0 (rows_Encode.l1 kq x7_2 x10_2 l1 (l1.length : Int) x23_1 ((rd_T43 l1 x23_1).f0) ((rd_T43 l1 x23_1).f1) ((rd_T43 l1 x23_1).f2) = some (r1, r2)) ∧ Aside0 (kq ≤ k1) ∧ Aside0 (Kd.R (Kd.int .u8) 5 w' w.heap.size (fun _ => True) v7 x7_2) ∧ Aside0 (w'.heap[gb114]? = some (.cells #[.int .i64 ((rd_T43 l1 x23_1).f0), .int .i64 ((rd_T43 l1 x23_1).f1), .string ((rd_T43 l1 x23_1).f2)] 43 (0, 0))) ∧ Aside0 (Below w.heap.size w w'))
                        case atStart => exact ⟨(x7_1), (0), (by first | rfl | (simp; done) | (simp [*]; done) | (simp; exact isEmpty_bne _) | (simp [*]; exact isEmpty_bne _)), H', ⟨Nat.le_refl _⟩, ⟨by (with_reducible repeat (first | apply Kd.R_alloc | apply Kd.R_drewN | apply Kd.R_drew)); exact Kd.R_mono (Kd.R_far (p := ⟨gb114, 2, none⟩) (Kd.R_far (p := ⟨gb114, 1, none⟩) (Kd.R_far (p := ⟨gb114, 0, none⟩) (Kd.R_types HO_7.out BK114.out (by decide)) (fun _ hk => hk.2) (.int .i64 ((rd_T43 l1 x23_1).f0))) (fun _ hk => hk.2) (.int .i64 ((rd_T43 l1 x23_1).f1))) (fun _ hk => hk.2) (.string ((rd_T43 l1 x23_1).f2))) (fun _ hk => trivial)⟩, ⟨by (with_reducible repeat (first | refine blk_drewN ?_ _ | refine blk_drew ?_ | refine blk_alloc ?_ _)); refine blk_put (cs := #[.int .i64 ((rd_T43 l1 x23_1).f0), .int .i64 ((rd_T43 l1 x23_1).f1), .string (⟨#[]⟩ : ByteArray)]) ?_ 2 _ rfl; (with_reducible repeat (first | refine blk_drewN ?_ _ | refine blk_drew ?_ | refine blk_alloc ?_ _)); refine blk_put (cs := #[.int .i64 ((rd_T43 l1 x23_1).f0), .int .i64 0, .string (⟨#[]⟩ : ByteArray)]) ?_ 1 _ rfl; (with_reducible repeat (first | refine blk_drewN ?_ _ | refine blk_drew ?_ | refine blk_alloc ?_ _)); refine blk_put (cs := #[.int .i64 0, .int .i64 0, .string (⟨#[]⟩ : ByteArray)]) ?_ 0 _ rfl; (with_reducible repeat (first | refine blk_drewN ?_ _ | refine blk_drew ?_ | refine blk_alloc ?_ _)); exact BK114.out⟩, ⟨by repeat (first | (with_reducible first | exact HB.out | apply below_alloc | apply pw_below_drewN | apply below_drew1 | refine below_set ?_ GE114.out) | exact HB.out)⟩⟩
                        case round =>
                          clear H'
                          try clear c1
                          try clear p1
                          try clear q1
                          try clear hx1
                          try clear c2
                          try clear p2
                          try clear q2
                          try clear hx2
                          try clear hf2
                          try clear c3
                          try clear c4
                          try clear c4b0
                          try clear c4b1
                          try clear c6
                          try clear c6b0
                          try clear c6b1
                          try clear p6
                          try clear c7
                          try clear c7b0
                          try clear c7b1
                          try clear c11
                          try clear c11b0
                          try clear p11
                          try clear q11
                          try clear hx11
                          try clear c12
                          try clear c12b0
                          try clear c13
                          try clear c13b0
                          try clear c14
                          try clear c14b0
                          try clear c14b1
                          try clear c16
                          try clear c16b0
                          try clear c17
                          try clear c17b0
                          try clear c19
                          try clear c19b0
                          try clear c19b1
                          try clear p21
                          try clear q21
                          try clear hx21
                          try clear hf21
                          try clear c28
                          try clear c28b0
                          try clear c28b1
                          try clear c29
                          try clear c33
                          try clear c33b0
                          try clear c33b1
                          try clear c34
                          try clear c35
                          try clear hcz23_0
                          try clear hcz23_1
                          try clear hcz23_2
                          try clear hcz31_0
                          try clear hcz31_1
                          try clear hcz31_2
                          try clear hcz37_0
                          try clear hcz37_1
                          try clear hcz37_2
                          try clear hcz39_0
                          try clear hcz39_1
                          try clear hcz39_2
                          try clear hcz42_0
                          try clear hcz42_1
                          try clear hcz42_2
                          try clear hfz23_0
                          try clear hfz23_1
                          try clear hfz23_2
                          try clear hfz31_0
                          try clear hfz31_1
                          try clear hfz31_2
                          try clear hfz37_0
                          try clear hfz37_1
                          try clear hfz37_2
                          try clear hfz39_0
                          try clear hfz39_1
                          try clear hfz39_2
                          try clear hfz42_0
                          try clear hfz42_1
                          try clear hfz42_2
                          try clear hx113_0
                          try clear hx113_1
                          try clear hx113_2
                          try clear hx115_0
                          try clear hx21_0
                          try clear p113
                          try clear p115
                          try clear p2
                          try clear p21
                          try clear q113
                          try clear q115
                          try clear q21
                          obtain ⟨x7_2, x10_2, rfl, HA, HK2, HO_7, BK114, HB⟩ := hrel
                          cases gk with
                          | zero => exact absurd HA.out (by simp [rows_Encode.l1])
                          | succ k2 =>
                            have H := HA.out
                            clear HA
                            simp only [rows_Encode.l1] at H
                            by_cases c43 : x10_2 < 64
                            · rw [if_pos c43] at H
                              have c43b0 : decide (x10_2 < 64) = true := decide_eq_true c43
                              clear c43
                              by_cases c44 : 0 ≤ x10_2
                              · rw [if_pos c44] at H
                                have c44b0 := eq_true c44
                                have c44b1 : decide (0 ≤ x10_2) = true := decide_eq_true c44
                                clear c44
                                obtain ⟨ji45, hji45⟩ : ∃ j_ : Int, (shr .i64 ((rd_T43 l1 x23_1).f1) x10_2) = j_ := ⟨_, rfl⟩
                                replace H : (if x7_2.length < 140737488355328 then (rows_Encode.l1 k2 (x7_2 ++ [(ji45) % 256]) (wrap64 (x10_2 + 8)) l1 (l1.length : Int) x23_1 ((rd_T43 l1 x23_1).f0) ((rd_T43 l1 x23_1).f1) ((rd_T43 l1 x23_1).f2)) else (none)) = some (r1, r2) := by first | (rw [hji45] at H; exact H) | (simp only [hji45] at H ⊢; exact H)
                                have hji45_ : (((rd_T43 l1 x23_1).f1) / 2 ^ min x10_2.toNat 64) = ji45 := hji45
                                have hji45z : x10_2 ≤ 64 → (((rd_T43 l1 x23_1).f1) / 2 ^ x10_2.toNat) = ji45 := shr_small hji45
                                by_cases c46 : x7_2.length < 140737488355328
                                · rw [if_pos c46] at H
                                  have LMc46 := Aside0.mk c46
                                  clear c46
                                  obtain ⟨y126, hy126⟩ : ∃ y_ : List Int, y_ = (x7_2 ++ [(ji45) % 256]) := ⟨_, rfl⟩
                                  replace H : (rows_Encode.l1 k2 y126 (wrap64 (x10_2 + 8)) l1 (l1.length : Int) x23_1 ((rd_T43 l1 x23_1).f0) ((rd_T43 l1 x23_1).f1) ((rd_T43 l1 x23_1).f2)) = some (r1, r2) := by first | (rw [hy126]; with_reducible exact H) | (have H2_ := (Option.bind_some _ _).symm.trans H; rw [hy126]; with_reducible exact H2_) | (have H2_ := (Option.bind_some _ _).symm.trans H; with_reducible exact H2_) | with_reducible exact H | (rw [hy126]; exact H) | exact H
                                  have Ny126 := Aside0.mk hy126
                                  clear hy126
                                  have H' := Aside0.mk H
                                  clear H
                                  have hcz47_0 : wr.cell? ⟨gb114, 0, none⟩ = some (.int .i64 ((rd_T43 l1 x23_1).f0)) := (blk_cell BK114.out 0).trans rfl
                                  have hcz47_1 : wr.cell? ⟨gb114, 1, none⟩ = some (.int .i64 ((rd_T43 l1 x23_1).f1)) := (blk_cell BK114.out 1).trans rfl
                                  have hcz47_2 : wr.cell? ⟨gb114, 2, none⟩ = some (.string ((rd_T43 l1 x23_1).f2)) := (blk_cell BK114.out 2).trans rfl
                                  have hfz47_0 := blk_frozen BK114.out 0
                                  have hfz47_1 := blk_frozen BK114.out 1
                                  have hfz47_2 := blk_frozen BK114.out 2
                                  go_wp2_with (first | ((with_reducible refine gate_builtin (b := .append) (xs := #[.tmp 34, .tmp 40]) rfl ?_); at_builtin; refine Kd.R_append (Kd.int .u8) (w0 := w) w.heap.size rfl (.tmp 34) (.tmp 40) 27 5 (.int .u8 0) 1 rfl Try.underlying27 info5 rfl (by decide) (by omega) u7 x7_2 ((ji45) % 256) [.int .u8 ((ji45) % 256)] (fun _ => True) (fun _ => False) rfl rfl ?aP (fun _ hk => hk.elim) ?aF ?aO ?aB ?aS ?aL ?_; (case aP => exact rfl); (case aB => exact (by repeat (first | (with_reducible first | exact HB.out | apply below_alloc | apply pw_below_drewN | apply below_drew1 | refine below_set ?_ GE114.out) | exact HB.out))); (case aF => exact (fun _ _ => trivial)); (case aO => exact (by (with_reducible repeat (first | apply Kd.R_alloc | apply Kd.R_drewN | apply Kd.R_drew)); exact HO_7.out)); (case aS => exact (below_size (by repeat (first | (with_reducible first | exact HB.out | apply below_alloc | apply pw_below_drewN | apply below_drew1 | refine below_set ?_ GE114.out) | exact HB.out)))); (case aL => have := LMc46.out; omega); intro v127 w48 ho hb hg hat; rw [← Ny126.out] at ho; have n0_ := Aside0.mk (blk_grown (g := gb114) (o := .cells #[.int .i64 ((rd_T43 l1 x23_1).f0), .int .i64 ((rd_T43 l1 x23_1).f1), .string ((rd_T43 l1 x23_1).f2)] 43 (0, 0)) (by (with_reducible repeat (first | refine blk_drewN ?_ _ | refine blk_drew ?_ | refine blk_alloc ?_ _)); exact BK114.out) hg (Kd.R_ne HO_7.out BK114.out (by decide))); have n1_ := Aside0.mk (hb); have n2_ := Aside0.mk (ho); clear BK114; clear HB; clear HO_7; have BK114 := n0_; have HB := n1_; have HO128 := n2_; clear n0_ n1_ n2_; clear ho hb hg hat))
                                  go_roundg k2
                                  case measure => have := HK1.out; have := HK2.out; omega
                                  case rel => exact ⟨(y126), (wrap64 (x10_2 + 8)), (by first | rfl | (simp; done) | (simp [*]; done) | (simp; exact isEmpty_bne _) | (simp [*]; exact isEmpty_bne _)), H', ⟨by have := HK1.out; have := HK2.out; omega⟩, ⟨by (with_reducible repeat (first | apply Kd.R_alloc | apply Kd.R_drewN | apply Kd.R_drew)); exact HO128.out⟩, ⟨by (with_reducible repeat (first | refine blk_drewN ?_ _ | refine blk_drew ?_ | refine blk_alloc ?_ _)); exact BK114.out⟩, ⟨by repeat (first | (with_reducible first | exact HB.out | apply below_alloc | apply pw_below_drewN | apply below_drew1 | refine below_set ?_ GE114.out) | exact HB.out)⟩⟩
                                · rw [if_neg c46] at H
                                  exact absurd H (by simp)
                              · rw [if_neg c44] at H
                                exact absurd H (by simp)
                            · rw [if_neg c43] at H
                              have c43b0 : decide (x10_2 < 64) = false := decide_eq_false c43
                              clear c43
                              have H' := Aside0.mk H
                              clear H
                              go_wp2
                              go_roundg k2
                              case measure => have := HK1.out; have := HK2.out; omega
                              case rel => exact ⟨(x7_2), (wrap64 (x23_1 + 1)), (by first | rfl | (simp; done) | (simp [*]; done) | (simp; exact isEmpty_bne _) | (simp [*]; exact isEmpty_bne _)), H', ⟨by have := HK1.out; have := HK2.out; omega⟩, ⟨by (with_reducible repeat (first | apply Kd.R_alloc | apply Kd.R_drewN | apply Kd.R_drew)); exact HO_7.out⟩, ⟨by repeat (first | (with_reducible first | exact HB.out | apply below_alloc | apply pw_below_drewN | apply below_drew1 | refine below_set ?_ GE114.out) | exact HB.out)⟩⟩
                · rw [if_neg c13] at H
                  exact absurd H (by simp)
              · rw [if_neg c12] at H
                exact absurd H (by simp)
            · rw [if_neg c11] at H
              have c11b0 : decide (x23_1 < (l1.length : Int)) = false := decide_eq_false c11
              clear c11
              simp only [Option.some.injEq, Prod.mk.injEq] at H
              obtain ⟨rfl, rfl⟩ := H
              go_wp2
              go_ret2
              exact ⟨_, by first | rfl | (simp [errW_none, errW_some] <;> rfl) | (simp [*, errW_none, errW_some] <;> rfl), by (with_reducible repeat (first | apply Kd.R_alloc | apply Kd.R_drewN | apply Kd.R_drew)); exact HO_7.out, by repeat (first | (with_reducible first | exact HB.out | apply below_alloc | apply pw_below_drewN | apply below_drew1) | exact HB.out)⟩
      · rw [if_neg c7] at H
        exact absurd H (by simp)
    · rw [if_neg c6] at H
      exact absurd H (by simp)
  · rw [if_neg c4] at H
    have c4b0 : (t108 == 0) = false := beq_eq_false_iff_ne.mpr c4
    have c4b1 : (t108 != 0) = true := bne_iff_ne.mpr c4
    simp only [Option.some.injEq, Prod.mk.injEq] at H
    obtain ⟨rfl, rfl⟩ := H
    go_enter Try.func11, Try.ntmps11
    go_wp2_with (first | ((with_reducible refine gate_callee (f := 13) rfl ?_); refine goesL_ (some 13) rfl rfl Try.func13 (by kernel_rfl) rfl #[.slice A0 l0.length c0, .slice A1 l1.length c1] rfl (by (try simp only [List.map_toArray, List.map_cons, List.map_nil]); first | done | rfl | (simp only [List.length_drop, List.length_take]; rfl)) ?_; (with_reducible refine (rows_Fit.calls k _ _ l0 _ _ l1 t108 _ ?side1 ?side2 ?side3 ?side4 A3.out).mono ?_); (case side1 => repeat (first | exact HR0.out | (with_reducible refine Kd.C_alloc ?_ _) | (with_reducible refine Kd.C_drewN ?_ _) | (with_reducible refine Kd.C_drew ?_))); (case side2 => exact HC0.out); (case side3 => repeat (first | exact HR1.out | (with_reducible refine Kd.C_alloc ?_ _) | (with_reducible refine Kd.C_drewN ?_ _) | (with_reducible refine Kd.C_drew ?_))); (case side4 => exact HC1.out); rintro e w49 ⟨rfl, hb⟩; refine ⟨_, rfl, ?_⟩; have n0_ := Aside0.mk (below_step (by repeat (first | (with_reducible first | exact HB.out | apply below_alloc | apply pw_below_drewN | apply below_drew1) | exact HB.out)) hb); clear HB; have HB := n0_; clear n0_; (try clear hb); (try clear hb2); (try clear hk); (try clear hi)))
    go_ret2
    exact ⟨_, by first | rfl | (simp [errW_none, errW_some] <;> rfl) | (simp [*, errW_none, errW_some] <;> rfl), by first | exact Kd.R_nil _ _ _ _ _ | exact Kd.N_nil _ _ _ _ _ | exact Kd.V_nil _ _ _ _ _ | exact Kd.Q_nil _ _ _ _ _ | exact Kd.S_nil _ _ _ _ _, by repeat (first | (with_reducible first | exact HB.out | apply below_alloc | apply pw_below_drewN | apply below_drew1) | exact HB.out)⟩
/-! ### haspref02_SameRow: function 16 -/
def haspref02_SameRow.l0 : Nat → List (S43) → List (S43) → Int → Option (Bool)
  | 0, _, _, _ => none
  | k + 1, x0, x1, x5 => if x5 < (x0.length : Int) then (if 0 ≤ x5 then (if x5 < (x1.length : Int) then (if (!(((rd_T43 x0 x5).f0) == ((rd_T43 x1 x5).f0)) || (!(((rd_T43 x0 x5).f1) == ((rd_T43 x1 x5).f1)) || (!((((rd_T43 x0 x5).f2).toList) == (((rd_T43 x1 x5).f2).toList))))) = true then (some false) else (haspref02_SameRow.l0 k x0 x1 (wrap64 (x5 + 1)))) else (none)) else (none)) else (some true)
def haspref02_SameRow.f (k : Nat) (l0 : List (S43)) (l1 : List (S43)) : Option (Bool) := if (l0.length : Int) = (l1.length : Int) then (haspref02_SameRow.l0 k l0 l1 0) else (some false)
theorem haspref02_SameRow.mono_l : ∀ k, (∀ y0 y1 y2, LeO (haspref02_SameRow.l0 k y0 y1 y2) (haspref02_SameRow.l0 (k + 1) y0 y1 y2))
  | 0 => fun _ _ _ r h => by simp [haspref02_SameRow.l0] at h
  | k + 1 => by
    have ih0 := haspref02_SameRow.mono_l k
    · intro y0 y1 y2
      unfold haspref02_SameRow.l0
      repeat' first
      | (with_reducible exact ih0 _ _ _)
      | (with_reducible exact LeO.refl _)
      | (with_reducible exact LeO.none _)
      | (with_reducible refine LeO.ite ?_ ?_)
      | (with_reducible refine LeO.bind ?_ (fun _ => ?_))
      | exact ih0 _ _ _
      | exact LeO.none _
      | refine LeO.ite ?_ ?_
      | refine LeO.bind ?_ (fun _ => ?_)
theorem haspref02_SameRow.mono : ∀ a0 a1 k, LeO (haspref02_SameRow.f k a0 a1) (haspref02_SameRow.f (k + 1) a0 a1) := by
  intro a0 a1 k
  have ih0 := haspref02_SameRow.mono_l k
  unfold haspref02_SameRow.f
  repeat' first
      | (with_reducible exact ih0 _ _ _)
      | (with_reducible exact LeO.refl _)
      | (with_reducible exact LeO.none _)
      | (with_reducible refine LeO.ite ?_ ?_)
      | (with_reducible refine LeO.bind ?_ (fun _ => ?_))
      | exact ih0 _ _ _
      | exact LeO.none _
      | refine LeO.ite ?_ ?_
      | refine LeO.bind ?_ (fun _ => ?_)
set_option maxHeartbeats 8000000 in
set_option maxRecDepth 100000 in
theorem haspref02_SameRow.calls (k : Nat) (A0 : Option Addr) (c0 : Nat) (l0 : List (S43)) (A1 : Option Addr) (c1 : Nat) (l1 : List (S43)) (r : Bool) (w : World) (hr0 : Kd.C k43 w A0 l0.length l0) (hc0 : l0.length ≤ c0) (hr1 : Kd.C k43 w A1 l1.length l1) (hc1 : l1.length ≤ c1) (h : haspref02_SameRow.f k l0 l1 = some r) :
    Calls Try.prog 16 #[.slice A0 l0.length c0, .slice A1 l1.length c1] w fun e w' => e = .returned (.bool r) ∧ Drawn0 w w' := by
  have hu43 := Try.underlying43
  have HR0 := Aside0.mk hr0
  have HC0 := Aside0.mk hc0
  clear hr0 hc0
  have HR1 := Aside0.mk hr1
  have HC1 := Aside0.mk hc1
  clear hr1 hc1
  have H : (if (l0.length : Int) = (l1.length : Int) then (haspref02_SameRow.l0 k l0 l1 0) else (some false)) = some r := h
  clear h
  by_cases c3 : (l0.length : Int) = (l1.length : Int)
  · rw [if_pos c3] at H
    have c3b0 : ((l0.length : Int) == (l1.length : Int)) = true := beq_iff_eq.mpr c3
    have c3b1 : ((l0.length : Int) != (l1.length : Int)) = false := bne_eq_false_iff_eq.mpr c3
    have c3b2 : (l0.length == l1.length) = true := by first | simpa using c3 | (simp at c3 ⊢; omega)
    clear c3
    have H' := Aside0.mk H
    clear H
    go_enter Try.func16, Try.ntmps16
    go_wp2
    repeat (go_quiet (fail); try go_wp2)
    go_loopg [5] k (fun kq v5 w' => ∃ (x5_1 : Int), v5 = .int .i64 x5_1 ∧ Aside0 (haspref02_SameRow.l0 kq l0 l1 x5_1 = some r) ∧ Aside0 (kq ≤ k) ∧ Drawn0 w w')
    case atStart => exact ⟨(0), (by first | rfl | (simp; done) | (simp [*]; done) | (simp; exact isEmpty_bne _) | (simp [*]; exact isEmpty_bne _)), H', ⟨Nat.le_refl _⟩, by repeat (first | exact Drawn0.refl _ | apply Drawn0.step)⟩
    case round =>
      clear H'
      try clear c1
      try clear p2
      try clear c3
      try clear c3b0
      try clear c3b1
      try clear c3b2
      obtain ⟨x5_1, rfl, HA, HK1, ⟨m1, rfl⟩⟩ := hrel
      cases gk with
      | zero => exact absurd HA.out (by simp [haspref02_SameRow.l0])
      | succ k1 =>
        have H := HA.out
        clear HA
        simp only [haspref02_SameRow.l0] at H
        by_cases c4 : x5_1 < (l0.length : Int)
        · rw [if_pos c4] at H
          have c4b0 : decide (x5_1 < (l0.length : Int)) = true := decide_eq_true c4
          clear c4
          by_cases c5 : 0 ≤ x5_1
          · rw [if_pos c5] at H
            have c5b0 : decide (0 ≤ x5_1) = true := decide_eq_true c5
            clear c5
            by_cases c6 : x5_1 < (l1.length : Int)
            · rw [if_pos c6] at H
              have c6b0 : decide (x5_1 < (l1.length : Int)) = true := decide_eq_true c6
              clear c6
              by_cases c7 : (!(((rd_T43 l0 x5_1).f0) == ((rd_T43 l1 x5_1).f0)) || (!(((rd_T43 l0 x5_1).f1) == ((rd_T43 l1 x5_1).f1)) || (!((((rd_T43 l0 x5_1).f2).toList) == (((rd_T43 l1 x5_1).f2).toList))))) = true
              · rw [if_pos c7] at H
                have c7b0 : (!(((rd_T43 l0 x5_1).f0) == ((rd_T43 l1 x5_1).f0)) || (!(((rd_T43 l0 x5_1).f1) == ((rd_T43 l1 x5_1).f1)) || (!((((rd_T43 l0 x5_1).f2).toList) == (((rd_T43 l1 x5_1).f2).toList))))) = true := c7
                clear c7
                obtain rfl := Option.some.inj H
                have p129 : 0 ≤ (x5_1 : Int) := of_decide_eq_true (by first | (with_reducible assumption) | assumption)
                have q129 : x5_1 < (l0.length : Int) := of_decide_eq_true (by first | (with_reducible assumption) | assumption)
                obtain ⟨ad129, e129, hx129_0, hx129_1, hx129_2⟩ := at_T43 HR0.out x5_1 p129 q129
                cases e129
                replace p129 := eq_true p129
                replace q129 := eq_true q129
                have p130 : 0 ≤ (x5_1 : Int) := of_decide_eq_true (by first | (with_reducible assumption) | assumption)
                have q130 : x5_1 < (l1.length : Int) := of_decide_eq_true (by first | (with_reducible assumption) | assumption)
                obtain ⟨ad130, e130, hx130_0, hx130_1, hx130_2⟩ := at_T43 HR1.out x5_1 p130 q130
                cases e130
                replace p130 := eq_true p130
                replace q130 := eq_true q130
                go_wp2
                repeat (go_quiet (fail); try go_wp2)
                go_ret
                exact ⟨by first | rfl | (simp; done) | (simp [*]; done) | (simp; exact isEmpty_bne _) | (simp [*]; exact isEmpty_bne _), by repeat (first | exact Drawn0.refl _ | apply Drawn0.step)⟩
              · rw [if_neg c7] at H
                have c7b0 : (!(((rd_T43 l0 x5_1).f0) == ((rd_T43 l1 x5_1).f0)) || (!(((rd_T43 l0 x5_1).f1) == ((rd_T43 l1 x5_1).f1)) || (!((((rd_T43 l0 x5_1).f2).toList) == (((rd_T43 l1 x5_1).f2).toList))))) = false := by simpa using c7
                clear c7
                have H' := Aside0.mk H
                clear H
                have p129 : 0 ≤ (x5_1 : Int) := of_decide_eq_true (by first | (with_reducible assumption) | assumption)
                have q129 : x5_1 < (l0.length : Int) := of_decide_eq_true (by first | (with_reducible assumption) | assumption)
                obtain ⟨ad129, e129, hx129_0, hx129_1, hx129_2⟩ := at_T43 HR0.out x5_1 p129 q129
                cases e129
                replace p129 := eq_true p129
                replace q129 := eq_true q129
                have p130 : 0 ≤ (x5_1 : Int) := of_decide_eq_true (by first | (with_reducible assumption) | assumption)
                have q130 : x5_1 < (l1.length : Int) := of_decide_eq_true (by first | (with_reducible assumption) | assumption)
                obtain ⟨ad130, e130, hx130_0, hx130_1, hx130_2⟩ := at_T43 HR1.out x5_1 p130 q130
                cases e130
                replace p130 := eq_true p130
                replace q130 := eq_true q130
                go_wp2
                repeat (go_quiet (fail); try go_wp2)
                go_roundg k1
                case measure => have := HK1.out; omega
                case rel => exact ⟨(wrap64 (x5_1 + 1)), (by first | rfl | (simp; done) | (simp [*]; done) | (simp; exact isEmpty_bne _) | (simp [*]; exact isEmpty_bne _)), H', ⟨by have := HK1.out; omega⟩, by repeat (first | exact Drawn0.refl _ | apply Drawn0.step)⟩
            · rw [if_neg c6] at H
              exact absurd H (by simp)
          · rw [if_neg c5] at H
            exact absurd H (by simp)
        · rw [if_neg c4] at H
          have c4b0 : decide (x5_1 < (l0.length : Int)) = false := decide_eq_false c4
          clear c4
          obtain rfl := Option.some.inj H
          go_wp2
          repeat (go_quiet (fail); try go_wp2)
          go_ret
          exact ⟨by first | rfl | (simp; done) | (simp [*]; done) | (simp; exact isEmpty_bne _) | (simp [*]; exact isEmpty_bne _), by repeat (first | exact Drawn0.refl _ | apply Drawn0.step)⟩
  · rw [if_neg c3] at H
    have c3b0 : ((l0.length : Int) == (l1.length : Int)) = false := beq_eq_false_iff_ne.mpr c3
    have c3b1 : ((l0.length : Int) != (l1.length : Int)) = true := bne_iff_ne.mpr c3
    have c3b2 : (l0.length == l1.length) = false := by first | simpa using c3 | (simp at c3 ⊢; omega)
    obtain rfl := Option.some.inj H
    go_enter Try.func16, Try.ntmps16
    go_wp2
    repeat (go_quiet (fail); try go_wp2)
    go_ret
    exact ⟨by first | rfl | (simp; done) | (simp [*]; done) | (simp; exact isEmpty_bne _) | (simp [*]; exact isEmpty_bne _), by repeat (first | exact Drawn0.refl _ | apply Drawn0.step)⟩
/-! ### hasplaw06_speaks: function 8 -/
def hasplaw06_speaks.f (k : Nat)  : Option (Bool) := (some (([(⟨(⟨#[]⟩ : ByteArray), 2, false⟩ : S47), (⟨(⟨#[]⟩ : ByteArray), 4, false⟩ : S47), (⟨(⟨#[]⟩ : ByteArray), 1, false⟩ : S47)] : List (S47)) : List (S47))).bind fun y131 => ((some (([(⟨2, 1, (⟨#[]⟩ : ByteArray)⟩ : S43), (⟨0, 0, (⟨#[]⟩ : ByteArray)⟩ : S43), (⟨1, 1, (⟨#[]⟩ : ByteArray)⟩ : S43)] : List (S43)) : List (S43))).bind fun y134 => ((rows_Encode.f k y131 y134).bind fun bt137 => ((rows_Decode.f y131 bt137.1).bind fun bt141 => (if (strOfNums bt137.1).toList = ([2, 1, 0, 0, 0, 0, 0, 0, 0, 1] : List UInt8) then (if bt137.2 = 0 then (if bt141.2 = 0 then ((haspref02_SameRow.f k bt141.1 y134).bind fun t145 => (if t145 = true then ((rows_Fit.f k y131 ([] : List (S43))).bind fun t146 => (some (t146 == 61))) else (some false))) else (some false)) else (some false)) else (some false)))))
theorem hasplaw06_speaks.mono : ∀ k, LeO (hasplaw06_speaks.f k ) (hasplaw06_speaks.f (k + 1) ) := by
  intro  k
  unfold hasplaw06_speaks.f
  repeat' first
      | (with_reducible exact haspref02_SameRow.mono _ _ _)
      | (with_reducible exact rows_Encode.mono _ _ _)
      | (with_reducible exact rows_Fit.mono _ _ _)
      | (with_reducible exact LeO.refl _)
      | (with_reducible exact LeO.none _)
      | (with_reducible refine LeO.ite ?_ ?_)
      | (with_reducible refine LeO.bind ?_ (fun _ => ?_))
      | exact haspref02_SameRow.mono _ _ _
      | exact rows_Encode.mono _ _ _
      | exact rows_Fit.mono _ _ _
      | exact LeO.none _
      | refine LeO.ite ?_ ?_
      | refine LeO.bind ?_ (fun _ => ?_)
set_option maxHeartbeats 8000000 in
set_option maxRecDepth 100000 in
theorem hasplaw06_speaks.calls (k : Nat)  (r : Bool) (w : World) (h : hasplaw06_speaks.f k  = some r) :
    Calls Try.prog 8 #[] w fun e w' => e = .returned (.bool r) ∧ Below w.heap.size w w' := by
  have hu47 := Try.underlying47
  have hu43 := Try.underlying43
  have HB := Aside0.mk (Below.refl w.heap.size w)
  have H : ((some (([(⟨(⟨#[]⟩ : ByteArray), 2, false⟩ : S47), (⟨(⟨#[]⟩ : ByteArray), 4, false⟩ : S47), (⟨(⟨#[]⟩ : ByteArray), 1, false⟩ : S47)] : List (S47)) : List (S47))).bind fun y131 => ((some (([(⟨2, 1, (⟨#[]⟩ : ByteArray)⟩ : S43), (⟨0, 0, (⟨#[]⟩ : ByteArray)⟩ : S43), (⟨1, 1, (⟨#[]⟩ : ByteArray)⟩ : S43)] : List (S43)) : List (S43))).bind fun y134 => ((rows_Encode.f k y131 y134).bind fun bt137 => ((rows_Decode.f y131 bt137.1).bind fun bt141 => (if (strOfNums bt137.1).toList = ([2, 1, 0, 0, 0, 0, 0, 0, 0, 1] : List UInt8) then (if bt137.2 = 0 then (if bt141.2 = 0 then ((haspref02_SameRow.f k bt141.1 y134).bind fun t145 => (if t145 = true then ((rows_Fit.f k y131 ([] : List (S43))).bind fun t146 => (some (t146 == 61))) else (some false))) else (some false)) else (some false)) else (some false)))))) = some r := h
  clear h
  obtain ⟨y131, hy131⟩ : ∃ y_ : List (S47), y_ = (([(⟨(⟨#[]⟩ : ByteArray), 2, false⟩ : S47), (⟨(⟨#[]⟩ : ByteArray), 4, false⟩ : S47), (⟨(⟨#[]⟩ : ByteArray), 1, false⟩ : S47)] : List (S47))) := ⟨_, rfl⟩
  replace H : ((some (([(⟨2, 1, (⟨#[]⟩ : ByteArray)⟩ : S43), (⟨0, 0, (⟨#[]⟩ : ByteArray)⟩ : S43), (⟨1, 1, (⟨#[]⟩ : ByteArray)⟩ : S43)] : List (S43)) : List (S43))).bind fun y134 => ((rows_Encode.f k y131 y134).bind fun bt137 => ((rows_Decode.f y131 bt137.1).bind fun bt141 => (if (strOfNums bt137.1).toList = ([2, 1, 0, 0, 0, 0, 0, 0, 0, 1] : List UInt8) then (if bt137.2 = 0 then (if bt141.2 = 0 then ((haspref02_SameRow.f k bt141.1 y134).bind fun t145 => (if t145 = true then ((rows_Fit.f k y131 ([] : List (S43))).bind fun t146 => (some (t146 == 61))) else (some false))) else (some false)) else (some false)) else (some false))))) = some r := by first | (rw [hy131]; with_reducible exact H) | (have H2_ := (Option.bind_some _ _).symm.trans H; rw [hy131]; with_reducible exact H2_) | (have H2_ := (Option.bind_some _ _).symm.trans H; with_reducible exact H2_) | with_reducible exact H | (rw [hy131]; exact H) | exact H
  have Ny131 := Aside0.mk hy131
  clear hy131
  obtain ⟨y134, hy134⟩ : ∃ y_ : List (S43), y_ = (([(⟨2, 1, (⟨#[]⟩ : ByteArray)⟩ : S43), (⟨0, 0, (⟨#[]⟩ : ByteArray)⟩ : S43), (⟨1, 1, (⟨#[]⟩ : ByteArray)⟩ : S43)] : List (S43))) := ⟨_, rfl⟩
  replace H : ((rows_Encode.f k y131 y134).bind fun bt137 => ((rows_Decode.f y131 bt137.1).bind fun bt141 => (if (strOfNums bt137.1).toList = ([2, 1, 0, 0, 0, 0, 0, 0, 0, 1] : List UInt8) then (if bt137.2 = 0 then (if bt141.2 = 0 then ((haspref02_SameRow.f k bt141.1 y134).bind fun t145 => (if t145 = true then ((rows_Fit.f k y131 ([] : List (S43))).bind fun t146 => (some (t146 == 61))) else (some false))) else (some false)) else (some false)) else (some false)))) = some r := by first | (rw [hy134]; with_reducible exact H) | (have H2_ := (Option.bind_some _ _).symm.trans H; rw [hy134]; with_reducible exact H2_) | (have H2_ := (Option.bind_some _ _).symm.trans H; with_reducible exact H2_) | with_reducible exact H | (rw [hy134]; exact H) | exact H
  have Ny134 := Aside0.mk hy134
  clear hy134
  replace H := Option.bind_eq_some_iff.mp H
  obtain ⟨⟨t137, t138⟩, A10, H⟩ := H
  replace H : ((rows_Decode.f y131 t137).bind fun bt141 => (if (strOfNums t137).toList = ([2, 1, 0, 0, 0, 0, 0, 0, 0, 1] : List UInt8) then (if t138 = 0 then (if bt141.2 = 0 then ((haspref02_SameRow.f k bt141.1 y134).bind fun t145 => (if t145 = true then ((rows_Fit.f k y131 ([] : List (S43))).bind fun t146 => (some (t146 == 61))) else (some false))) else (some false)) else (some false)) else (some false))) = some r := H
  have A1 := Aside0.mk A10
  clear A10
  replace H := Option.bind_eq_some_iff.mp H
  obtain ⟨⟨t141, t142⟩, A20, H⟩ := H
  replace H : (if (strOfNums t137).toList = ([2, 1, 0, 0, 0, 0, 0, 0, 0, 1] : List UInt8) then (if t138 = 0 then (if t142 = 0 then ((haspref02_SameRow.f k t141 y134).bind fun t145 => (if t145 = true then ((rows_Fit.f k y131 ([] : List (S43))).bind fun t146 => (some (t146 == 61))) else (some false))) else (some false)) else (some false)) else (some false)) = some r := H
  have A2 := Aside0.mk A20
  clear A20
  by_cases c3 : (strOfNums t137).toList = ([2, 1, 0, 0, 0, 0, 0, 0, 0, 1] : List UInt8)
  · rw [if_pos c3] at H
    have c3b0 : ((strOfNums t137).toList == ([2, 1, 0, 0, 0, 0, 0, 0, 0, 1] : List UInt8)) = true := beq_iff_eq.mpr c3
    have c3b1 : ((strOfNums t137).toList != ([2, 1, 0, 0, 0, 0, 0, 0, 0, 1] : List UInt8)) = false := bne_eq_false_iff_eq.mpr c3
    clear c3
    by_cases c4 : t138 = 0
    · rw [if_pos c4] at H
      have c4b0 : (t138 == 0) = true := beq_iff_eq.mpr c4
      have c4b1 : (t138 != 0) = false := bne_eq_false_iff_eq.mpr c4
      clear c4
      by_cases c5 : t142 = 0
      · rw [if_pos c5] at H
        have c5b0 : (t142 == 0) = true := beq_iff_eq.mpr c5
        have c5b1 : (t142 != 0) = false := bne_eq_false_iff_eq.mpr c5
        clear c5
        replace H := Option.bind_eq_some_iff.mp H
        obtain ⟨t145, A60, H⟩ := H
        replace H : (if t145 = true then ((rows_Fit.f k y131 ([] : List (S43))).bind fun t146 => (some (t146 == 61))) else (some false)) = some r := H
        have A6 := Aside0.mk A60
        clear A60
        by_cases c7 : t145 = true
        · subst c7
          have H1 : ((rows_Fit.f k y131 ([] : List (S43))).bind fun t146 => (some (t146 == 61))) = some r := by rw [if_pos rfl] at H; exact H
          clear H
          have H := H1
          clear H1
          replace H := Option.bind_eq_some_iff.mp H
          obtain ⟨t146, A80, H⟩ := H
          replace H : (some (t146 == 61)) = some r := H
          have A8 := Aside0.mk A80
          clear A80
          obtain rfl := Option.some.inj H
          go_enter Try.func8, Try.ntmps8
          go_wp2_with (first | ((with_reducible refine gate_dst (N := 10) rfl ?_); refine Kd.R_lit k47 _ 47 ?hg (N := 10) ?hd (xs := ([(⟨(⟨#[]⟩ : ByteArray), 2, false⟩ : S47), (⟨(⟨#[]⟩ : ByteArray), 4, false⟩ : S47), (⟨(⟨#[]⟩ : ByteArray), 1, false⟩ : S47)] : List (S47))) (inner := [.string (⟨#[]⟩ : ByteArray), .int .i64 2, .bool false, .string (⟨#[]⟩ : ByteArray), .int .i64 4, .bool false, .string (⟨#[]⟩ : ByteArray), .int .i64 1, .bool false]) (ok := fun _ => True) (okp := fun _ => True) ?hr ?hp (fun _ hk => hk) trivial (Below.refl _ _) (Nat.le_refl _) (by simp) ?_; (case hd => rfl); (case hg => rfl); (case hr => first | (go_simp; done) | (go_simp; rfl)); (case hp => exact (Reps.c3 (show Kd.M k47 _ _ _ (⟨(⟨#[]⟩ : ByteArray), 2, false⟩ : S47) [.string (⟨#[]⟩ : ByteArray), .int .i64 2, .bool false] from (k47_mkM _ _ _ (⟨(⟨#[]⟩ : ByteArray), 2, false⟩ : S47) )) (Reps.c3 (show Kd.M k47 _ _ _ (⟨(⟨#[]⟩ : ByteArray), 4, false⟩ : S47) [.string (⟨#[]⟩ : ByteArray), .int .i64 4, .bool false] from (k47_mkM _ _ _ (⟨(⟨#[]⟩ : ByteArray), 4, false⟩ : S47) )) (Reps.c3 (show Kd.M k47 _ _ _ (⟨(⟨#[]⟩ : ByteArray), 1, false⟩ : S47) [.string (⟨#[]⟩ : ByteArray), .int .i64 1, .bool false] from (k47_mkM _ _ _ (⟨(⟨#[]⟩ : ByteArray), 1, false⟩ : S47) )) (Reps.none _ _))))); intro v132 w9 ho10 hb hg_ hnew_; clear hg_ hnew_; (first | rw [← Ny131.out] at ho10 | (simp only [Int.reduceToNat] at ho10; rw [← Ny131.out] at ho10)); have n0_ := Aside0.mk (Kd.R_lower ho10 (below_size (by repeat (first | (with_reducible first | exact HB.out | apply below_alloc | apply pw_below_drewN | apply below_drew1) | exact HB.out)))); have n1_ := Aside0.mk (below_step (by repeat (first | (with_reducible first | exact HB.out | apply below_alloc | apply pw_below_drewN | apply below_drew1) | exact HB.out)) hb); clear HB; have HO133 := n0_; have HB := n1_; clear n0_ n1_; clear hb ho10) | ((with_reducible refine gate_dst (N := 14) rfl ?_); refine Kd.R_lit k43 _ 43 ?hg (N := 14) ?hd (xs := ([(⟨2, 1, (⟨#[]⟩ : ByteArray)⟩ : S43), (⟨0, 0, (⟨#[]⟩ : ByteArray)⟩ : S43), (⟨1, 1, (⟨#[]⟩ : ByteArray)⟩ : S43)] : List (S43))) (inner := [.int .i64 2, .int .i64 1, .string (⟨#[]⟩ : ByteArray), .int .i64 0, .int .i64 0, .string (⟨#[]⟩ : ByteArray), .int .i64 1, .int .i64 1, .string (⟨#[]⟩ : ByteArray)]) (ok := fun _ => True) (okp := fun _ => True) ?hr ?hp (fun _ hk => hk) trivial (Below.refl _ _) (Nat.le_refl _) (by simp) ?_; (case hd => rfl); (case hg => rfl); (case hr => first | (go_simp; done) | (go_simp; rfl)); (case hp => exact (Reps.c3 (show Kd.M k43 _ _ _ (⟨2, 1, (⟨#[]⟩ : ByteArray)⟩ : S43) [.int .i64 2, .int .i64 1, .string (⟨#[]⟩ : ByteArray)] from (k43_mkM _ _ _ (⟨2, 1, (⟨#[]⟩ : ByteArray)⟩ : S43) )) (Reps.c3 (show Kd.M k43 _ _ _ (⟨0, 0, (⟨#[]⟩ : ByteArray)⟩ : S43) [.int .i64 0, .int .i64 0, .string (⟨#[]⟩ : ByteArray)] from (k43_mkM _ _ _ (⟨0, 0, (⟨#[]⟩ : ByteArray)⟩ : S43) )) (Reps.c3 (show Kd.M k43 _ _ _ (⟨1, 1, (⟨#[]⟩ : ByteArray)⟩ : S43) [.int .i64 1, .int .i64 1, .string (⟨#[]⟩ : ByteArray)] from (k43_mkM _ _ _ (⟨1, 1, (⟨#[]⟩ : ByteArray)⟩ : S43) )) (Reps.none _ _))))); intro v135 w11 ho12 hb hg_ hnew_; clear hg_ hnew_; (first | rw [← Ny134.out] at ho12 | (simp only [Int.reduceToNat] at ho12; rw [← Ny134.out] at ho12)); have n0_ := Aside0.mk (Kd.R_below (by (with_reducible repeat (first | apply Kd.R_alloc | apply Kd.R_drewN | apply Kd.R_drew)); exact HO133.out) hb); have n1_ := Aside0.mk (Kd.R_lower ho12 (below_size (by repeat (first | (with_reducible first | exact HB.out | apply below_alloc | apply pw_below_drewN | apply below_drew1) | exact HB.out)))); have n2_ := Aside0.mk (below_step (by repeat (first | (with_reducible first | exact HB.out | apply below_alloc | apply pw_below_drewN | apply below_drew1) | exact HB.out)) hb); clear HO133; clear HB; have HO133 := n0_; have HO136 := n1_; have HB := n2_; clear n0_ n1_ n2_; clear hb ho12; obtain ⟨Ao13, co13, eo13⟩ := Kd.R_slice HO133.out; subst eo13; obtain ⟨Ao14, co14, eo14⟩ := Kd.R_slice HO136.out; subst eo14) | ((with_reducible refine gate_callee (f := 11) rfl ?_); refine goesL_ (some 18) rfl rfl Try.func11 (by kernel_rfl) rfl #[.slice Ao13 y131.length co13, .slice Ao14 y134.length co14] rfl (by (try simp only [List.map_toArray, List.map_cons, List.map_nil]); first | done | rfl | (simp only [List.length_drop, List.length_take]; rfl)) ?_; (with_reducible refine (rows_Encode.calls k _ _ y131 _ _ y134 t137 t138 _ ?side1 ?side2 ?side3 ?side4 A1.out).mono ?_); (case side1 => repeat (first | exact (Kd.R_reads' HO133.out).2.2 | (with_reducible refine Kd.C_alloc ?_ _) | (with_reducible refine Kd.C_drewN ?_ _) | (with_reducible refine Kd.C_drew ?_))); (case side2 => exact (Kd.R_reads' HO133.out).2.1); (case side3 => repeat (first | exact (Kd.R_reads' HO136.out).2.2 | (with_reducible refine Kd.C_alloc ?_ _) | (with_reducible refine Kd.C_drewN ?_ _) | (with_reducible refine Kd.C_drew ?_))); (case side4 => exact (Kd.R_reads' HO136.out).2.1); rintro e w15 ⟨v139, rfl, ho0, hb⟩; refine ⟨_, rfl, ?_⟩; have n0_ := Aside0.mk (Kd.R_below (by (with_reducible repeat (first | apply Kd.R_alloc | apply Kd.R_drewN | apply Kd.R_drew)); exact HO133.out) hb); have n1_ := Aside0.mk (Kd.R_below (by (with_reducible repeat (first | apply Kd.R_alloc | apply Kd.R_drewN | apply Kd.R_drew)); exact HO136.out) hb); have n2_ := Aside0.mk (Kd.R_lower ho0 (below_size (by repeat (first | (with_reducible first | exact HB.out | apply below_alloc | apply pw_below_drewN | apply below_drew1) | exact HB.out)))); have n3_ := Aside0.mk (below_step (by repeat (first | (with_reducible first | exact HB.out | apply below_alloc | apply pw_below_drewN | apply below_drew1) | exact HB.out)) hb); clear HO133; clear HO136; clear HB; have HO133 := n0_; have HO136 := n1_; have HO140 := n2_; have HB := n3_; clear n0_ n1_ n2_ n3_; (try clear hb); (try clear hb2); (try clear hk); (try clear hi); (try clear ho0); obtain ⟨Ao16, co16, eo16⟩ := Kd.R_slice HO140.out; subst eo16) | ((with_reducible refine gate_callee (f := 17) rfl ?_); refine goesL_ (some 24) rfl rfl Try.func17 (by kernel_rfl) rfl #[.slice Ao13 y131.length co13, .slice Ao16 t137.length co16] rfl (by (try simp only [List.map_toArray, List.map_cons, List.map_nil]); first | done | rfl | (simp only [List.length_drop, List.length_take]; rfl)) ?_; (with_reducible refine (rows_Decode.calls _ _ y131 _ _ t137 t141 t142 _ ?side1 ?side2 ?side3 ?side4 A2.out).mono ?_); (case side1 => repeat (first | exact (Kd.R_reads' HO133.out).2.2 | (with_reducible refine Kd.C_alloc ?_ _) | (with_reducible refine Kd.C_drewN ?_ _) | (with_reducible refine Kd.C_drew ?_))); (case side2 => exact (Kd.R_reads' HO133.out).2.1); (case side3 => repeat (first | exact (Kd.R_reads' HO140.out).2.2 | (with_reducible refine Kd.C_alloc ?_ _) | (with_reducible refine Kd.C_drewN ?_ _) | (with_reducible refine Kd.C_drew ?_))); (case side4 => exact (Kd.R_reads' HO140.out).2.1); rintro e w17 ⟨v143, rfl, ho0, hb⟩; refine ⟨_, rfl, ?_⟩; have n0_ := Aside0.mk (Kd.R_below (by (with_reducible repeat (first | apply Kd.R_alloc | apply Kd.R_drewN | apply Kd.R_drew)); exact HO133.out) hb); have n1_ := Aside0.mk (Kd.R_elder' (by (with_reducible repeat (first | apply Kd.R_alloc | apply Kd.R_drewN | apply Kd.R_drew)); exact HO136.out) (Kd.R_base ho0) hb); have n2_ := Aside0.mk (Kd.R_below (by (with_reducible repeat (first | apply Kd.R_alloc | apply Kd.R_drewN | apply Kd.R_drew)); exact HO140.out) hb); have n3_ := Aside0.mk (Kd.R_lower (Kd.R_new' ho0 (Kd.R_lt (by (with_reducible repeat (first | apply Kd.R_alloc | apply Kd.R_drewN | apply Kd.R_drew)); exact HO136.out))) (below_size (by repeat (first | (with_reducible first | exact HB.out | apply below_alloc | apply pw_below_drewN | apply below_drew1) | exact HB.out)))); have n4_ := Aside0.mk (below_step (by repeat (first | (with_reducible first | exact HB.out | apply below_alloc | apply pw_below_drewN | apply below_drew1) | exact HB.out)) hb); clear HO133; clear HO136; clear HO140; clear HB; have HO133 := n0_; have HO136 := n1_; have HO140 := n2_; have HO144 := n3_; have HB := n4_; clear n0_ n1_ n2_ n3_ n4_; (try clear hb); (try clear hb2); (try clear hk); (try clear hi); (try clear ho0); have hcv18 := own_string (P := Try.prog) Try.underlying27 Try.underlying5 Try.underlying9 (Kd.own_of_R HO140.out); obtain ⟨Ao19, co19, eo19⟩ := Kd.R_slice HO144.out; subst eo19) | (go_at_call 16; (with_reducible refine (haspref02_SameRow.calls k _ _ t141 _ _ y134 true _ ?side1 ?side2 ?side3 ?side4 A6.out).mono ?_); (case side1 => repeat (first | exact (Kd.R_reads' HO144.out).2.2 | (with_reducible refine Kd.C_alloc ?_ _) | (with_reducible refine Kd.C_drewN ?_ _) | (with_reducible refine Kd.C_drew ?_))); (case side2 => exact (Kd.R_reads' HO144.out).2.1); (case side3 => repeat (first | exact (Kd.R_reads' HO136.out).2.2 | (with_reducible refine Kd.C_alloc ?_ _) | (with_reducible refine Kd.C_drewN ?_ _) | (with_reducible refine Kd.C_drew ?_))); (case side4 => exact (Kd.R_reads' HO136.out).2.1); rintro e w' ⟨rfl, ⟨nd, rfl⟩⟩) | (go_at_call 13; (refine (rows_Fit.calls k _ _ y131 _ _ ([] : List (S43)) t146 _ ?side1 ?side2 ?side3 ?side4 A8.out).mono ?_); (case side1 => repeat (first | exact (Kd.R_reads' HO133.out).2.2 | (with_reducible refine Kd.C_alloc ?_ _) | (with_reducible refine Kd.C_drewN ?_ _) | (with_reducible refine Kd.C_drew ?_))); (case side2 => exact (Kd.R_reads' HO133.out).2.1); (case side3 => exact Kd.C_nil _ _); (case side4 => exact Nat.le_refl _); rintro e w20 ⟨rfl, hb⟩; have n0_ := Aside0.mk (Kd.R_below (by (with_reducible repeat (first | apply Kd.R_alloc | apply Kd.R_drewN | apply Kd.R_drew)); exact HO133.out) hb); have n1_ := Aside0.mk (Kd.R_below (by (with_reducible repeat (first | apply Kd.R_alloc | apply Kd.R_drewN | apply Kd.R_drew)); exact HO136.out) hb); have n2_ := Aside0.mk (Kd.R_below (by (with_reducible repeat (first | apply Kd.R_alloc | apply Kd.R_drewN | apply Kd.R_drew)); exact HO140.out) hb); have n3_ := Aside0.mk (Kd.R_below (by (with_reducible repeat (first | apply Kd.R_alloc | apply Kd.R_drewN | apply Kd.R_drew)); exact HO144.out) hb); have n4_ := Aside0.mk (below_step (by repeat (first | (with_reducible first | exact HB.out | apply below_alloc | apply pw_below_drewN | apply below_drew1) | exact HB.out)) hb); clear HO133; clear HO136; clear HO140; clear HO144; clear HB; have HO133 := n0_; have HO136 := n1_; have HO140 := n2_; have HO144 := n3_; have HB := n4_; clear n0_ n1_ n2_ n3_ n4_; (try clear hb); (try clear hb2); (try clear hk); (try clear hi)))
          go_ret
          exact ⟨by first | rfl | (simp [errW_none, errW_some] <;> rfl) | (simp [*, errW_none, errW_some] <;> rfl), by repeat (first | (with_reducible first | exact HB.out | apply below_alloc | apply pw_below_drewN | apply below_drew1) | exact HB.out)⟩
        · replace c7 := Bool.eq_false_iff.mpr c7
          subst c7
          have H1 : (some false) = some r := by rw [if_neg (show ¬ (false = true) by decide)] at H; exact H
          clear H
          have H := H1
          clear H1
          obtain rfl := Option.some.inj H
          go_enter Try.func8, Try.ntmps8
          go_wp2_with (first | ((with_reducible refine gate_dst (N := 10) rfl ?_); refine Kd.R_lit k47 _ 47 ?hg (N := 10) ?hd (xs := ([(⟨(⟨#[]⟩ : ByteArray), 2, false⟩ : S47), (⟨(⟨#[]⟩ : ByteArray), 4, false⟩ : S47), (⟨(⟨#[]⟩ : ByteArray), 1, false⟩ : S47)] : List (S47))) (inner := [.string (⟨#[]⟩ : ByteArray), .int .i64 2, .bool false, .string (⟨#[]⟩ : ByteArray), .int .i64 4, .bool false, .string (⟨#[]⟩ : ByteArray), .int .i64 1, .bool false]) (ok := fun _ => True) (okp := fun _ => True) ?hr ?hp (fun _ hk => hk) trivial (Below.refl _ _) (Nat.le_refl _) (by simp) ?_; (case hd => rfl); (case hg => rfl); (case hr => first | (go_simp; done) | (go_simp; rfl)); (case hp => exact (Reps.c3 (show Kd.M k47 _ _ _ (⟨(⟨#[]⟩ : ByteArray), 2, false⟩ : S47) [.string (⟨#[]⟩ : ByteArray), .int .i64 2, .bool false] from (k47_mkM _ _ _ (⟨(⟨#[]⟩ : ByteArray), 2, false⟩ : S47) )) (Reps.c3 (show Kd.M k47 _ _ _ (⟨(⟨#[]⟩ : ByteArray), 4, false⟩ : S47) [.string (⟨#[]⟩ : ByteArray), .int .i64 4, .bool false] from (k47_mkM _ _ _ (⟨(⟨#[]⟩ : ByteArray), 4, false⟩ : S47) )) (Reps.c3 (show Kd.M k47 _ _ _ (⟨(⟨#[]⟩ : ByteArray), 1, false⟩ : S47) [.string (⟨#[]⟩ : ByteArray), .int .i64 1, .bool false] from (k47_mkM _ _ _ (⟨(⟨#[]⟩ : ByteArray), 1, false⟩ : S47) )) (Reps.none _ _))))); intro v132 w21 ho22 hb hg_ hnew_; clear hg_ hnew_; (first | rw [← Ny131.out] at ho22 | (simp only [Int.reduceToNat] at ho22; rw [← Ny131.out] at ho22)); have n0_ := Aside0.mk (Kd.R_lower ho22 (below_size (by repeat (first | (with_reducible first | exact HB.out | apply below_alloc | apply pw_below_drewN | apply below_drew1) | exact HB.out)))); have n1_ := Aside0.mk (below_step (by repeat (first | (with_reducible first | exact HB.out | apply below_alloc | apply pw_below_drewN | apply below_drew1) | exact HB.out)) hb); clear HB; have HO133 := n0_; have HB := n1_; clear n0_ n1_; clear hb ho22) | ((with_reducible refine gate_dst (N := 14) rfl ?_); refine Kd.R_lit k43 _ 43 ?hg (N := 14) ?hd (xs := ([(⟨2, 1, (⟨#[]⟩ : ByteArray)⟩ : S43), (⟨0, 0, (⟨#[]⟩ : ByteArray)⟩ : S43), (⟨1, 1, (⟨#[]⟩ : ByteArray)⟩ : S43)] : List (S43))) (inner := [.int .i64 2, .int .i64 1, .string (⟨#[]⟩ : ByteArray), .int .i64 0, .int .i64 0, .string (⟨#[]⟩ : ByteArray), .int .i64 1, .int .i64 1, .string (⟨#[]⟩ : ByteArray)]) (ok := fun _ => True) (okp := fun _ => True) ?hr ?hp (fun _ hk => hk) trivial (Below.refl _ _) (Nat.le_refl _) (by simp) ?_; (case hd => rfl); (case hg => rfl); (case hr => first | (go_simp; done) | (go_simp; rfl)); (case hp => exact (Reps.c3 (show Kd.M k43 _ _ _ (⟨2, 1, (⟨#[]⟩ : ByteArray)⟩ : S43) [.int .i64 2, .int .i64 1, .string (⟨#[]⟩ : ByteArray)] from (k43_mkM _ _ _ (⟨2, 1, (⟨#[]⟩ : ByteArray)⟩ : S43) )) (Reps.c3 (show Kd.M k43 _ _ _ (⟨0, 0, (⟨#[]⟩ : ByteArray)⟩ : S43) [.int .i64 0, .int .i64 0, .string (⟨#[]⟩ : ByteArray)] from (k43_mkM _ _ _ (⟨0, 0, (⟨#[]⟩ : ByteArray)⟩ : S43) )) (Reps.c3 (show Kd.M k43 _ _ _ (⟨1, 1, (⟨#[]⟩ : ByteArray)⟩ : S43) [.int .i64 1, .int .i64 1, .string (⟨#[]⟩ : ByteArray)] from (k43_mkM _ _ _ (⟨1, 1, (⟨#[]⟩ : ByteArray)⟩ : S43) )) (Reps.none _ _))))); intro v135 w23 ho24 hb hg_ hnew_; clear hg_ hnew_; (first | rw [← Ny134.out] at ho24 | (simp only [Int.reduceToNat] at ho24; rw [← Ny134.out] at ho24)); have n0_ := Aside0.mk (Kd.R_below (by (with_reducible repeat (first | apply Kd.R_alloc | apply Kd.R_drewN | apply Kd.R_drew)); exact HO133.out) hb); have n1_ := Aside0.mk (Kd.R_lower ho24 (below_size (by repeat (first | (with_reducible first | exact HB.out | apply below_alloc | apply pw_below_drewN | apply below_drew1) | exact HB.out)))); have n2_ := Aside0.mk (below_step (by repeat (first | (with_reducible first | exact HB.out | apply below_alloc | apply pw_below_drewN | apply below_drew1) | exact HB.out)) hb); clear HO133; clear HB; have HO133 := n0_; have HO136 := n1_; have HB := n2_; clear n0_ n1_ n2_; clear hb ho24; obtain ⟨Ao25, co25, eo25⟩ := Kd.R_slice HO133.out; subst eo25; obtain ⟨Ao26, co26, eo26⟩ := Kd.R_slice HO136.out; subst eo26) | ((with_reducible refine gate_callee (f := 11) rfl ?_); refine goesL_ (some 18) rfl rfl Try.func11 (by kernel_rfl) rfl #[.slice Ao25 y131.length co25, .slice Ao26 y134.length co26] rfl (by (try simp only [List.map_toArray, List.map_cons, List.map_nil]); first | done | rfl | (simp only [List.length_drop, List.length_take]; rfl)) ?_; (with_reducible refine (rows_Encode.calls k _ _ y131 _ _ y134 t137 t138 _ ?side1 ?side2 ?side3 ?side4 A1.out).mono ?_); (case side1 => repeat (first | exact (Kd.R_reads' HO133.out).2.2 | (with_reducible refine Kd.C_alloc ?_ _) | (with_reducible refine Kd.C_drewN ?_ _) | (with_reducible refine Kd.C_drew ?_))); (case side2 => exact (Kd.R_reads' HO133.out).2.1); (case side3 => repeat (first | exact (Kd.R_reads' HO136.out).2.2 | (with_reducible refine Kd.C_alloc ?_ _) | (with_reducible refine Kd.C_drewN ?_ _) | (with_reducible refine Kd.C_drew ?_))); (case side4 => exact (Kd.R_reads' HO136.out).2.1); rintro e w27 ⟨v139, rfl, ho0, hb⟩; refine ⟨_, rfl, ?_⟩; have n0_ := Aside0.mk (Kd.R_below (by (with_reducible repeat (first | apply Kd.R_alloc | apply Kd.R_drewN | apply Kd.R_drew)); exact HO133.out) hb); have n1_ := Aside0.mk (Kd.R_below (by (with_reducible repeat (first | apply Kd.R_alloc | apply Kd.R_drewN | apply Kd.R_drew)); exact HO136.out) hb); have n2_ := Aside0.mk (Kd.R_lower ho0 (below_size (by repeat (first | (with_reducible first | exact HB.out | apply below_alloc | apply pw_below_drewN | apply below_drew1) | exact HB.out)))); have n3_ := Aside0.mk (below_step (by repeat (first | (with_reducible first | exact HB.out | apply below_alloc | apply pw_below_drewN | apply below_drew1) | exact HB.out)) hb); clear HO133; clear HO136; clear HB; have HO133 := n0_; have HO136 := n1_; have HO140 := n2_; have HB := n3_; clear n0_ n1_ n2_ n3_; (try clear hb); (try clear hb2); (try clear hk); (try clear hi); (try clear ho0); obtain ⟨Ao28, co28, eo28⟩ := Kd.R_slice HO140.out; subst eo28) | ((with_reducible refine gate_callee (f := 17) rfl ?_); refine goesL_ (some 24) rfl rfl Try.func17 (by kernel_rfl) rfl #[.slice Ao25 y131.length co25, .slice Ao28 t137.length co28] rfl (by (try simp only [List.map_toArray, List.map_cons, List.map_nil]); first | done | rfl | (simp only [List.length_drop, List.length_take]; rfl)) ?_; (with_reducible refine (rows_Decode.calls _ _ y131 _ _ t137 t141 t142 _ ?side1 ?side2 ?side3 ?side4 A2.out).mono ?_); (case side1 => repeat (first | exact (Kd.R_reads' HO133.out).2.2 | (with_reducible refine Kd.C_alloc ?_ _) | (with_reducible refine Kd.C_drewN ?_ _) | (with_reducible refine Kd.C_drew ?_))); (case side2 => exact (Kd.R_reads' HO133.out).2.1); (case side3 => repeat (first | exact (Kd.R_reads' HO140.out).2.2 | (with_reducible refine Kd.C_alloc ?_ _) | (with_reducible refine Kd.C_drewN ?_ _) | (with_reducible refine Kd.C_drew ?_))); (case side4 => exact (Kd.R_reads' HO140.out).2.1); rintro e w29 ⟨v143, rfl, ho0, hb⟩; refine ⟨_, rfl, ?_⟩; have n0_ := Aside0.mk (Kd.R_below (by (with_reducible repeat (first | apply Kd.R_alloc | apply Kd.R_drewN | apply Kd.R_drew)); exact HO133.out) hb); have n1_ := Aside0.mk (Kd.R_elder' (by (with_reducible repeat (first | apply Kd.R_alloc | apply Kd.R_drewN | apply Kd.R_drew)); exact HO136.out) (Kd.R_base ho0) hb); have n2_ := Aside0.mk (Kd.R_below (by (with_reducible repeat (first | apply Kd.R_alloc | apply Kd.R_drewN | apply Kd.R_drew)); exact HO140.out) hb); have n3_ := Aside0.mk (Kd.R_lower (Kd.R_new' ho0 (Kd.R_lt (by (with_reducible repeat (first | apply Kd.R_alloc | apply Kd.R_drewN | apply Kd.R_drew)); exact HO136.out))) (below_size (by repeat (first | (with_reducible first | exact HB.out | apply below_alloc | apply pw_below_drewN | apply below_drew1) | exact HB.out)))); have n4_ := Aside0.mk (below_step (by repeat (first | (with_reducible first | exact HB.out | apply below_alloc | apply pw_below_drewN | apply below_drew1) | exact HB.out)) hb); clear HO133; clear HO136; clear HO140; clear HB; have HO133 := n0_; have HO136 := n1_; have HO140 := n2_; have HO144 := n3_; have HB := n4_; clear n0_ n1_ n2_ n3_ n4_; (try clear hb); (try clear hb2); (try clear hk); (try clear hi); (try clear ho0); have hcv30 := own_string (P := Try.prog) Try.underlying27 Try.underlying5 Try.underlying9 (Kd.own_of_R HO140.out); obtain ⟨Ao31, co31, eo31⟩ := Kd.R_slice HO144.out; subst eo31) | (go_at_call 16; (with_reducible refine (haspref02_SameRow.calls k _ _ t141 _ _ y134 false _ ?side1 ?side2 ?side3 ?side4 A6.out).mono ?_); (case side1 => repeat (first | exact (Kd.R_reads' HO144.out).2.2 | (with_reducible refine Kd.C_alloc ?_ _) | (with_reducible refine Kd.C_drewN ?_ _) | (with_reducible refine Kd.C_drew ?_))); (case side2 => exact (Kd.R_reads' HO144.out).2.1); (case side3 => repeat (first | exact (Kd.R_reads' HO136.out).2.2 | (with_reducible refine Kd.C_alloc ?_ _) | (with_reducible refine Kd.C_drewN ?_ _) | (with_reducible refine Kd.C_drew ?_))); (case side4 => exact (Kd.R_reads' HO136.out).2.1); rintro e w' ⟨rfl, ⟨nd, rfl⟩⟩))
          go_ret
          exact ⟨by first | rfl | (simp [errW_none, errW_some] <;> rfl) | (simp [*, errW_none, errW_some] <;> rfl), by repeat (first | (with_reducible first | exact HB.out | apply below_alloc | apply pw_below_drewN | apply below_drew1) | exact HB.out)⟩
      · rw [if_neg c5] at H
        have c5b0 : (t142 == 0) = false := beq_eq_false_iff_ne.mpr c5
        have c5b1 : (t142 != 0) = true := bne_iff_ne.mpr c5
        obtain rfl := Option.some.inj H
        go_enter Try.func8, Try.ntmps8
        go_wp2_with (first | ((with_reducible refine gate_dst (N := 10) rfl ?_); refine Kd.R_lit k47 _ 47 ?hg (N := 10) ?hd (xs := ([(⟨(⟨#[]⟩ : ByteArray), 2, false⟩ : S47), (⟨(⟨#[]⟩ : ByteArray), 4, false⟩ : S47), (⟨(⟨#[]⟩ : ByteArray), 1, false⟩ : S47)] : List (S47))) (inner := [.string (⟨#[]⟩ : ByteArray), .int .i64 2, .bool false, .string (⟨#[]⟩ : ByteArray), .int .i64 4, .bool false, .string (⟨#[]⟩ : ByteArray), .int .i64 1, .bool false]) (ok := fun _ => True) (okp := fun _ => True) ?hr ?hp (fun _ hk => hk) trivial (Below.refl _ _) (Nat.le_refl _) (by simp) ?_; (case hd => rfl); (case hg => rfl); (case hr => first | (go_simp; done) | (go_simp; rfl)); (case hp => exact (Reps.c3 (show Kd.M k47 _ _ _ (⟨(⟨#[]⟩ : ByteArray), 2, false⟩ : S47) [.string (⟨#[]⟩ : ByteArray), .int .i64 2, .bool false] from (k47_mkM _ _ _ (⟨(⟨#[]⟩ : ByteArray), 2, false⟩ : S47) )) (Reps.c3 (show Kd.M k47 _ _ _ (⟨(⟨#[]⟩ : ByteArray), 4, false⟩ : S47) [.string (⟨#[]⟩ : ByteArray), .int .i64 4, .bool false] from (k47_mkM _ _ _ (⟨(⟨#[]⟩ : ByteArray), 4, false⟩ : S47) )) (Reps.c3 (show Kd.M k47 _ _ _ (⟨(⟨#[]⟩ : ByteArray), 1, false⟩ : S47) [.string (⟨#[]⟩ : ByteArray), .int .i64 1, .bool false] from (k47_mkM _ _ _ (⟨(⟨#[]⟩ : ByteArray), 1, false⟩ : S47) )) (Reps.none _ _))))); intro v132 w32 ho33 hb hg_ hnew_; clear hg_ hnew_; (first | rw [← Ny131.out] at ho33 | (simp only [Int.reduceToNat] at ho33; rw [← Ny131.out] at ho33)); have n0_ := Aside0.mk (Kd.R_lower ho33 (below_size (by repeat (first | (with_reducible first | exact HB.out | apply below_alloc | apply pw_below_drewN | apply below_drew1) | exact HB.out)))); have n1_ := Aside0.mk (below_step (by repeat (first | (with_reducible first | exact HB.out | apply below_alloc | apply pw_below_drewN | apply below_drew1) | exact HB.out)) hb); clear HB; have HO133 := n0_; have HB := n1_; clear n0_ n1_; clear hb ho33) | ((with_reducible refine gate_dst (N := 14) rfl ?_); refine Kd.R_lit k43 _ 43 ?hg (N := 14) ?hd (xs := ([(⟨2, 1, (⟨#[]⟩ : ByteArray)⟩ : S43), (⟨0, 0, (⟨#[]⟩ : ByteArray)⟩ : S43), (⟨1, 1, (⟨#[]⟩ : ByteArray)⟩ : S43)] : List (S43))) (inner := [.int .i64 2, .int .i64 1, .string (⟨#[]⟩ : ByteArray), .int .i64 0, .int .i64 0, .string (⟨#[]⟩ : ByteArray), .int .i64 1, .int .i64 1, .string (⟨#[]⟩ : ByteArray)]) (ok := fun _ => True) (okp := fun _ => True) ?hr ?hp (fun _ hk => hk) trivial (Below.refl _ _) (Nat.le_refl _) (by simp) ?_; (case hd => rfl); (case hg => rfl); (case hr => first | (go_simp; done) | (go_simp; rfl)); (case hp => exact (Reps.c3 (show Kd.M k43 _ _ _ (⟨2, 1, (⟨#[]⟩ : ByteArray)⟩ : S43) [.int .i64 2, .int .i64 1, .string (⟨#[]⟩ : ByteArray)] from (k43_mkM _ _ _ (⟨2, 1, (⟨#[]⟩ : ByteArray)⟩ : S43) )) (Reps.c3 (show Kd.M k43 _ _ _ (⟨0, 0, (⟨#[]⟩ : ByteArray)⟩ : S43) [.int .i64 0, .int .i64 0, .string (⟨#[]⟩ : ByteArray)] from (k43_mkM _ _ _ (⟨0, 0, (⟨#[]⟩ : ByteArray)⟩ : S43) )) (Reps.c3 (show Kd.M k43 _ _ _ (⟨1, 1, (⟨#[]⟩ : ByteArray)⟩ : S43) [.int .i64 1, .int .i64 1, .string (⟨#[]⟩ : ByteArray)] from (k43_mkM _ _ _ (⟨1, 1, (⟨#[]⟩ : ByteArray)⟩ : S43) )) (Reps.none _ _))))); intro v135 w34 ho35 hb hg_ hnew_; clear hg_ hnew_; (first | rw [← Ny134.out] at ho35 | (simp only [Int.reduceToNat] at ho35; rw [← Ny134.out] at ho35)); have n0_ := Aside0.mk (Kd.R_below (by (with_reducible repeat (first | apply Kd.R_alloc | apply Kd.R_drewN | apply Kd.R_drew)); exact HO133.out) hb); have n1_ := Aside0.mk (Kd.R_lower ho35 (below_size (by repeat (first | (with_reducible first | exact HB.out | apply below_alloc | apply pw_below_drewN | apply below_drew1) | exact HB.out)))); have n2_ := Aside0.mk (below_step (by repeat (first | (with_reducible first | exact HB.out | apply below_alloc | apply pw_below_drewN | apply below_drew1) | exact HB.out)) hb); clear HO133; clear HB; have HO133 := n0_; have HO136 := n1_; have HB := n2_; clear n0_ n1_ n2_; clear hb ho35; obtain ⟨Ao36, co36, eo36⟩ := Kd.R_slice HO133.out; subst eo36; obtain ⟨Ao37, co37, eo37⟩ := Kd.R_slice HO136.out; subst eo37) | ((with_reducible refine gate_callee (f := 11) rfl ?_); refine goesL_ (some 18) rfl rfl Try.func11 (by kernel_rfl) rfl #[.slice Ao36 y131.length co36, .slice Ao37 y134.length co37] rfl (by (try simp only [List.map_toArray, List.map_cons, List.map_nil]); first | done | rfl | (simp only [List.length_drop, List.length_take]; rfl)) ?_; (with_reducible refine (rows_Encode.calls k _ _ y131 _ _ y134 t137 t138 _ ?side1 ?side2 ?side3 ?side4 A1.out).mono ?_); (case side1 => repeat (first | exact (Kd.R_reads' HO133.out).2.2 | (with_reducible refine Kd.C_alloc ?_ _) | (with_reducible refine Kd.C_drewN ?_ _) | (with_reducible refine Kd.C_drew ?_))); (case side2 => exact (Kd.R_reads' HO133.out).2.1); (case side3 => repeat (first | exact (Kd.R_reads' HO136.out).2.2 | (with_reducible refine Kd.C_alloc ?_ _) | (with_reducible refine Kd.C_drewN ?_ _) | (with_reducible refine Kd.C_drew ?_))); (case side4 => exact (Kd.R_reads' HO136.out).2.1); rintro e w38 ⟨v139, rfl, ho0, hb⟩; refine ⟨_, rfl, ?_⟩; have n0_ := Aside0.mk (Kd.R_below (by (with_reducible repeat (first | apply Kd.R_alloc | apply Kd.R_drewN | apply Kd.R_drew)); exact HO133.out) hb); have n1_ := Aside0.mk (Kd.R_below (by (with_reducible repeat (first | apply Kd.R_alloc | apply Kd.R_drewN | apply Kd.R_drew)); exact HO136.out) hb); have n2_ := Aside0.mk (Kd.R_lower ho0 (below_size (by repeat (first | (with_reducible first | exact HB.out | apply below_alloc | apply pw_below_drewN | apply below_drew1) | exact HB.out)))); have n3_ := Aside0.mk (below_step (by repeat (first | (with_reducible first | exact HB.out | apply below_alloc | apply pw_below_drewN | apply below_drew1) | exact HB.out)) hb); clear HO133; clear HO136; clear HB; have HO133 := n0_; have HO136 := n1_; have HO140 := n2_; have HB := n3_; clear n0_ n1_ n2_ n3_; (try clear hb); (try clear hb2); (try clear hk); (try clear hi); (try clear ho0); obtain ⟨Ao39, co39, eo39⟩ := Kd.R_slice HO140.out; subst eo39) | ((with_reducible refine gate_callee (f := 17) rfl ?_); refine goesL_ (some 24) rfl rfl Try.func17 (by kernel_rfl) rfl #[.slice Ao36 y131.length co36, .slice Ao39 t137.length co39] rfl (by (try simp only [List.map_toArray, List.map_cons, List.map_nil]); first | done | rfl | (simp only [List.length_drop, List.length_take]; rfl)) ?_; (with_reducible refine (rows_Decode.calls _ _ y131 _ _ t137 t141 t142 _ ?side1 ?side2 ?side3 ?side4 A2.out).mono ?_); (case side1 => repeat (first | exact (Kd.R_reads' HO133.out).2.2 | (with_reducible refine Kd.C_alloc ?_ _) | (with_reducible refine Kd.C_drewN ?_ _) | (with_reducible refine Kd.C_drew ?_))); (case side2 => exact (Kd.R_reads' HO133.out).2.1); (case side3 => repeat (first | exact (Kd.R_reads' HO140.out).2.2 | (with_reducible refine Kd.C_alloc ?_ _) | (with_reducible refine Kd.C_drewN ?_ _) | (with_reducible refine Kd.C_drew ?_))); (case side4 => exact (Kd.R_reads' HO140.out).2.1); rintro e w40 ⟨v143, rfl, ho0, hb⟩; refine ⟨_, rfl, ?_⟩; have n0_ := Aside0.mk (Kd.R_below (by (with_reducible repeat (first | apply Kd.R_alloc | apply Kd.R_drewN | apply Kd.R_drew)); exact HO133.out) hb); have n1_ := Aside0.mk (Kd.R_elder' (by (with_reducible repeat (first | apply Kd.R_alloc | apply Kd.R_drewN | apply Kd.R_drew)); exact HO136.out) (Kd.R_base ho0) hb); have n2_ := Aside0.mk (Kd.R_below (by (with_reducible repeat (first | apply Kd.R_alloc | apply Kd.R_drewN | apply Kd.R_drew)); exact HO140.out) hb); have n3_ := Aside0.mk (Kd.R_lower (Kd.R_new' ho0 (Kd.R_lt (by (with_reducible repeat (first | apply Kd.R_alloc | apply Kd.R_drewN | apply Kd.R_drew)); exact HO136.out))) (below_size (by repeat (first | (with_reducible first | exact HB.out | apply below_alloc | apply pw_below_drewN | apply below_drew1) | exact HB.out)))); have n4_ := Aside0.mk (below_step (by repeat (first | (with_reducible first | exact HB.out | apply below_alloc | apply pw_below_drewN | apply below_drew1) | exact HB.out)) hb); clear HO133; clear HO136; clear HO140; clear HB; have HO133 := n0_; have HO136 := n1_; have HO140 := n2_; have HO144 := n3_; have HB := n4_; clear n0_ n1_ n2_ n3_ n4_; (try clear hb); (try clear hb2); (try clear hk); (try clear hi); (try clear ho0); have hcv41 := own_string (P := Try.prog) Try.underlying27 Try.underlying5 Try.underlying9 (Kd.own_of_R HO140.out)))
        go_ret
        exact ⟨by first | rfl | (simp [errW_none, errW_some] <;> rfl) | (simp [*, errW_none, errW_some] <;> rfl), by repeat (first | (with_reducible first | exact HB.out | apply below_alloc | apply pw_below_drewN | apply below_drew1) | exact HB.out)⟩
    · rw [if_neg c4] at H
      have c4b0 : (t138 == 0) = false := beq_eq_false_iff_ne.mpr c4
      have c4b1 : (t138 != 0) = true := bne_iff_ne.mpr c4
      obtain rfl := Option.some.inj H
      go_enter Try.func8, Try.ntmps8
      go_wp2_with (first | ((with_reducible refine gate_dst (N := 10) rfl ?_); refine Kd.R_lit k47 _ 47 ?hg (N := 10) ?hd (xs := ([(⟨(⟨#[]⟩ : ByteArray), 2, false⟩ : S47), (⟨(⟨#[]⟩ : ByteArray), 4, false⟩ : S47), (⟨(⟨#[]⟩ : ByteArray), 1, false⟩ : S47)] : List (S47))) (inner := [.string (⟨#[]⟩ : ByteArray), .int .i64 2, .bool false, .string (⟨#[]⟩ : ByteArray), .int .i64 4, .bool false, .string (⟨#[]⟩ : ByteArray), .int .i64 1, .bool false]) (ok := fun _ => True) (okp := fun _ => True) ?hr ?hp (fun _ hk => hk) trivial (Below.refl _ _) (Nat.le_refl _) (by simp) ?_; (case hd => rfl); (case hg => rfl); (case hr => first | (go_simp; done) | (go_simp; rfl)); (case hp => exact (Reps.c3 (show Kd.M k47 _ _ _ (⟨(⟨#[]⟩ : ByteArray), 2, false⟩ : S47) [.string (⟨#[]⟩ : ByteArray), .int .i64 2, .bool false] from (k47_mkM _ _ _ (⟨(⟨#[]⟩ : ByteArray), 2, false⟩ : S47) )) (Reps.c3 (show Kd.M k47 _ _ _ (⟨(⟨#[]⟩ : ByteArray), 4, false⟩ : S47) [.string (⟨#[]⟩ : ByteArray), .int .i64 4, .bool false] from (k47_mkM _ _ _ (⟨(⟨#[]⟩ : ByteArray), 4, false⟩ : S47) )) (Reps.c3 (show Kd.M k47 _ _ _ (⟨(⟨#[]⟩ : ByteArray), 1, false⟩ : S47) [.string (⟨#[]⟩ : ByteArray), .int .i64 1, .bool false] from (k47_mkM _ _ _ (⟨(⟨#[]⟩ : ByteArray), 1, false⟩ : S47) )) (Reps.none _ _))))); intro v132 w42 ho43 hb hg_ hnew_; clear hg_ hnew_; (first | rw [← Ny131.out] at ho43 | (simp only [Int.reduceToNat] at ho43; rw [← Ny131.out] at ho43)); have n0_ := Aside0.mk (Kd.R_lower ho43 (below_size (by repeat (first | (with_reducible first | exact HB.out | apply below_alloc | apply pw_below_drewN | apply below_drew1) | exact HB.out)))); have n1_ := Aside0.mk (below_step (by repeat (first | (with_reducible first | exact HB.out | apply below_alloc | apply pw_below_drewN | apply below_drew1) | exact HB.out)) hb); clear HB; have HO133 := n0_; have HB := n1_; clear n0_ n1_; clear hb ho43) | ((with_reducible refine gate_dst (N := 14) rfl ?_); refine Kd.R_lit k43 _ 43 ?hg (N := 14) ?hd (xs := ([(⟨2, 1, (⟨#[]⟩ : ByteArray)⟩ : S43), (⟨0, 0, (⟨#[]⟩ : ByteArray)⟩ : S43), (⟨1, 1, (⟨#[]⟩ : ByteArray)⟩ : S43)] : List (S43))) (inner := [.int .i64 2, .int .i64 1, .string (⟨#[]⟩ : ByteArray), .int .i64 0, .int .i64 0, .string (⟨#[]⟩ : ByteArray), .int .i64 1, .int .i64 1, .string (⟨#[]⟩ : ByteArray)]) (ok := fun _ => True) (okp := fun _ => True) ?hr ?hp (fun _ hk => hk) trivial (Below.refl _ _) (Nat.le_refl _) (by simp) ?_; (case hd => rfl); (case hg => rfl); (case hr => first | (go_simp; done) | (go_simp; rfl)); (case hp => exact (Reps.c3 (show Kd.M k43 _ _ _ (⟨2, 1, (⟨#[]⟩ : ByteArray)⟩ : S43) [.int .i64 2, .int .i64 1, .string (⟨#[]⟩ : ByteArray)] from (k43_mkM _ _ _ (⟨2, 1, (⟨#[]⟩ : ByteArray)⟩ : S43) )) (Reps.c3 (show Kd.M k43 _ _ _ (⟨0, 0, (⟨#[]⟩ : ByteArray)⟩ : S43) [.int .i64 0, .int .i64 0, .string (⟨#[]⟩ : ByteArray)] from (k43_mkM _ _ _ (⟨0, 0, (⟨#[]⟩ : ByteArray)⟩ : S43) )) (Reps.c3 (show Kd.M k43 _ _ _ (⟨1, 1, (⟨#[]⟩ : ByteArray)⟩ : S43) [.int .i64 1, .int .i64 1, .string (⟨#[]⟩ : ByteArray)] from (k43_mkM _ _ _ (⟨1, 1, (⟨#[]⟩ : ByteArray)⟩ : S43) )) (Reps.none _ _))))); intro v135 w44 ho45 hb hg_ hnew_; clear hg_ hnew_; (first | rw [← Ny134.out] at ho45 | (simp only [Int.reduceToNat] at ho45; rw [← Ny134.out] at ho45)); have n0_ := Aside0.mk (Kd.R_below (by (with_reducible repeat (first | apply Kd.R_alloc | apply Kd.R_drewN | apply Kd.R_drew)); exact HO133.out) hb); have n1_ := Aside0.mk (Kd.R_lower ho45 (below_size (by repeat (first | (with_reducible first | exact HB.out | apply below_alloc | apply pw_below_drewN | apply below_drew1) | exact HB.out)))); have n2_ := Aside0.mk (below_step (by repeat (first | (with_reducible first | exact HB.out | apply below_alloc | apply pw_below_drewN | apply below_drew1) | exact HB.out)) hb); clear HO133; clear HB; have HO133 := n0_; have HO136 := n1_; have HB := n2_; clear n0_ n1_ n2_; clear hb ho45; obtain ⟨Ao46, co46, eo46⟩ := Kd.R_slice HO133.out; subst eo46; obtain ⟨Ao47, co47, eo47⟩ := Kd.R_slice HO136.out; subst eo47) | ((with_reducible refine gate_callee (f := 11) rfl ?_); refine goesL_ (some 18) rfl rfl Try.func11 (by kernel_rfl) rfl #[.slice Ao46 y131.length co46, .slice Ao47 y134.length co47] rfl (by (try simp only [List.map_toArray, List.map_cons, List.map_nil]); first | done | rfl | (simp only [List.length_drop, List.length_take]; rfl)) ?_; (with_reducible refine (rows_Encode.calls k _ _ y131 _ _ y134 t137 t138 _ ?side1 ?side2 ?side3 ?side4 A1.out).mono ?_); (case side1 => repeat (first | exact (Kd.R_reads' HO133.out).2.2 | (with_reducible refine Kd.C_alloc ?_ _) | (with_reducible refine Kd.C_drewN ?_ _) | (with_reducible refine Kd.C_drew ?_))); (case side2 => exact (Kd.R_reads' HO133.out).2.1); (case side3 => repeat (first | exact (Kd.R_reads' HO136.out).2.2 | (with_reducible refine Kd.C_alloc ?_ _) | (with_reducible refine Kd.C_drewN ?_ _) | (with_reducible refine Kd.C_drew ?_))); (case side4 => exact (Kd.R_reads' HO136.out).2.1); rintro e w48 ⟨v139, rfl, ho0, hb⟩; refine ⟨_, rfl, ?_⟩; have n0_ := Aside0.mk (Kd.R_below (by (with_reducible repeat (first | apply Kd.R_alloc | apply Kd.R_drewN | apply Kd.R_drew)); exact HO133.out) hb); have n1_ := Aside0.mk (Kd.R_below (by (with_reducible repeat (first | apply Kd.R_alloc | apply Kd.R_drewN | apply Kd.R_drew)); exact HO136.out) hb); have n2_ := Aside0.mk (Kd.R_lower ho0 (below_size (by repeat (first | (with_reducible first | exact HB.out | apply below_alloc | apply pw_below_drewN | apply below_drew1) | exact HB.out)))); have n3_ := Aside0.mk (below_step (by repeat (first | (with_reducible first | exact HB.out | apply below_alloc | apply pw_below_drewN | apply below_drew1) | exact HB.out)) hb); clear HO133; clear HO136; clear HB; have HO133 := n0_; have HO136 := n1_; have HO140 := n2_; have HB := n3_; clear n0_ n1_ n2_ n3_; (try clear hb); (try clear hb2); (try clear hk); (try clear hi); (try clear ho0); obtain ⟨Ao49, co49, eo49⟩ := Kd.R_slice HO140.out; subst eo49) | ((with_reducible refine gate_callee (f := 17) rfl ?_); refine goesL_ (some 24) rfl rfl Try.func17 (by kernel_rfl) rfl #[.slice Ao46 y131.length co46, .slice Ao49 t137.length co49] rfl (by (try simp only [List.map_toArray, List.map_cons, List.map_nil]); first | done | rfl | (simp only [List.length_drop, List.length_take]; rfl)) ?_; (with_reducible refine (rows_Decode.calls _ _ y131 _ _ t137 t141 t142 _ ?side1 ?side2 ?side3 ?side4 A2.out).mono ?_); (case side1 => repeat (first | exact (Kd.R_reads' HO133.out).2.2 | (with_reducible refine Kd.C_alloc ?_ _) | (with_reducible refine Kd.C_drewN ?_ _) | (with_reducible refine Kd.C_drew ?_))); (case side2 => exact (Kd.R_reads' HO133.out).2.1); (case side3 => repeat (first | exact (Kd.R_reads' HO140.out).2.2 | (with_reducible refine Kd.C_alloc ?_ _) | (with_reducible refine Kd.C_drewN ?_ _) | (with_reducible refine Kd.C_drew ?_))); (case side4 => exact (Kd.R_reads' HO140.out).2.1); rintro e w50 ⟨v143, rfl, ho0, hb⟩; refine ⟨_, rfl, ?_⟩; have n0_ := Aside0.mk (Kd.R_below (by (with_reducible repeat (first | apply Kd.R_alloc | apply Kd.R_drewN | apply Kd.R_drew)); exact HO133.out) hb); have n1_ := Aside0.mk (Kd.R_elder' (by (with_reducible repeat (first | apply Kd.R_alloc | apply Kd.R_drewN | apply Kd.R_drew)); exact HO136.out) (Kd.R_base ho0) hb); have n2_ := Aside0.mk (Kd.R_below (by (with_reducible repeat (first | apply Kd.R_alloc | apply Kd.R_drewN | apply Kd.R_drew)); exact HO140.out) hb); have n3_ := Aside0.mk (Kd.R_lower (Kd.R_new' ho0 (Kd.R_lt (by (with_reducible repeat (first | apply Kd.R_alloc | apply Kd.R_drewN | apply Kd.R_drew)); exact HO136.out))) (below_size (by repeat (first | (with_reducible first | exact HB.out | apply below_alloc | apply pw_below_drewN | apply below_drew1) | exact HB.out)))); have n4_ := Aside0.mk (below_step (by repeat (first | (with_reducible first | exact HB.out | apply below_alloc | apply pw_below_drewN | apply below_drew1) | exact HB.out)) hb); clear HO133; clear HO136; clear HO140; clear HB; have HO133 := n0_; have HO136 := n1_; have HO140 := n2_; have HO144 := n3_; have HB := n4_; clear n0_ n1_ n2_ n3_ n4_; (try clear hb); (try clear hb2); (try clear hk); (try clear hi); (try clear ho0); have hcv51 := own_string (P := Try.prog) Try.underlying27 Try.underlying5 Try.underlying9 (Kd.own_of_R HO140.out)))
      go_ret
      exact ⟨by first | rfl | (simp [errW_none, errW_some] <;> rfl) | (simp [*, errW_none, errW_some] <;> rfl), by repeat (first | (with_reducible first | exact HB.out | apply below_alloc | apply pw_below_drewN | apply below_drew1) | exact HB.out)⟩
  · rw [if_neg c3] at H
    have c3b0 : ((strOfNums t137).toList == ([2, 1, 0, 0, 0, 0, 0, 0, 0, 1] : List UInt8)) = false := beq_eq_false_iff_ne.mpr c3
    have c3b1 : ((strOfNums t137).toList != ([2, 1, 0, 0, 0, 0, 0, 0, 0, 1] : List UInt8)) = true := bne_iff_ne.mpr c3
    obtain rfl := Option.some.inj H
    go_enter Try.func8, Try.ntmps8
    go_wp2_with (first | ((with_reducible refine gate_dst (N := 10) rfl ?_); refine Kd.R_lit k47 _ 47 ?hg (N := 10) ?hd (xs := ([(⟨(⟨#[]⟩ : ByteArray), 2, false⟩ : S47), (⟨(⟨#[]⟩ : ByteArray), 4, false⟩ : S47), (⟨(⟨#[]⟩ : ByteArray), 1, false⟩ : S47)] : List (S47))) (inner := [.string (⟨#[]⟩ : ByteArray), .int .i64 2, .bool false, .string (⟨#[]⟩ : ByteArray), .int .i64 4, .bool false, .string (⟨#[]⟩ : ByteArray), .int .i64 1, .bool false]) (ok := fun _ => True) (okp := fun _ => True) ?hr ?hp (fun _ hk => hk) trivial (Below.refl _ _) (Nat.le_refl _) (by simp) ?_; (case hd => rfl); (case hg => rfl); (case hr => first | (go_simp; done) | (go_simp; rfl)); (case hp => exact (Reps.c3 (show Kd.M k47 _ _ _ (⟨(⟨#[]⟩ : ByteArray), 2, false⟩ : S47) [.string (⟨#[]⟩ : ByteArray), .int .i64 2, .bool false] from (k47_mkM _ _ _ (⟨(⟨#[]⟩ : ByteArray), 2, false⟩ : S47) )) (Reps.c3 (show Kd.M k47 _ _ _ (⟨(⟨#[]⟩ : ByteArray), 4, false⟩ : S47) [.string (⟨#[]⟩ : ByteArray), .int .i64 4, .bool false] from (k47_mkM _ _ _ (⟨(⟨#[]⟩ : ByteArray), 4, false⟩ : S47) )) (Reps.c3 (show Kd.M k47 _ _ _ (⟨(⟨#[]⟩ : ByteArray), 1, false⟩ : S47) [.string (⟨#[]⟩ : ByteArray), .int .i64 1, .bool false] from (k47_mkM _ _ _ (⟨(⟨#[]⟩ : ByteArray), 1, false⟩ : S47) )) (Reps.none _ _))))); intro v132 w52 ho53 hb hg_ hnew_; clear hg_ hnew_; (first | rw [← Ny131.out] at ho53 | (simp only [Int.reduceToNat] at ho53; rw [← Ny131.out] at ho53)); have n0_ := Aside0.mk (Kd.R_lower ho53 (below_size (by repeat (first | (with_reducible first | exact HB.out | apply below_alloc | apply pw_below_drewN | apply below_drew1) | exact HB.out)))); have n1_ := Aside0.mk (below_step (by repeat (first | (with_reducible first | exact HB.out | apply below_alloc | apply pw_below_drewN | apply below_drew1) | exact HB.out)) hb); clear HB; have HO133 := n0_; have HB := n1_; clear n0_ n1_; clear hb ho53) | ((with_reducible refine gate_dst (N := 14) rfl ?_); refine Kd.R_lit k43 _ 43 ?hg (N := 14) ?hd (xs := ([(⟨2, 1, (⟨#[]⟩ : ByteArray)⟩ : S43), (⟨0, 0, (⟨#[]⟩ : ByteArray)⟩ : S43), (⟨1, 1, (⟨#[]⟩ : ByteArray)⟩ : S43)] : List (S43))) (inner := [.int .i64 2, .int .i64 1, .string (⟨#[]⟩ : ByteArray), .int .i64 0, .int .i64 0, .string (⟨#[]⟩ : ByteArray), .int .i64 1, .int .i64 1, .string (⟨#[]⟩ : ByteArray)]) (ok := fun _ => True) (okp := fun _ => True) ?hr ?hp (fun _ hk => hk) trivial (Below.refl _ _) (Nat.le_refl _) (by simp) ?_; (case hd => rfl); (case hg => rfl); (case hr => first | (go_simp; done) | (go_simp; rfl)); (case hp => exact (Reps.c3 (show Kd.M k43 _ _ _ (⟨2, 1, (⟨#[]⟩ : ByteArray)⟩ : S43) [.int .i64 2, .int .i64 1, .string (⟨#[]⟩ : ByteArray)] from (k43_mkM _ _ _ (⟨2, 1, (⟨#[]⟩ : ByteArray)⟩ : S43) )) (Reps.c3 (show Kd.M k43 _ _ _ (⟨0, 0, (⟨#[]⟩ : ByteArray)⟩ : S43) [.int .i64 0, .int .i64 0, .string (⟨#[]⟩ : ByteArray)] from (k43_mkM _ _ _ (⟨0, 0, (⟨#[]⟩ : ByteArray)⟩ : S43) )) (Reps.c3 (show Kd.M k43 _ _ _ (⟨1, 1, (⟨#[]⟩ : ByteArray)⟩ : S43) [.int .i64 1, .int .i64 1, .string (⟨#[]⟩ : ByteArray)] from (k43_mkM _ _ _ (⟨1, 1, (⟨#[]⟩ : ByteArray)⟩ : S43) )) (Reps.none _ _))))); intro v135 w54 ho55 hb hg_ hnew_; clear hg_ hnew_; (first | rw [← Ny134.out] at ho55 | (simp only [Int.reduceToNat] at ho55; rw [← Ny134.out] at ho55)); have n0_ := Aside0.mk (Kd.R_below (by (with_reducible repeat (first | apply Kd.R_alloc | apply Kd.R_drewN | apply Kd.R_drew)); exact HO133.out) hb); have n1_ := Aside0.mk (Kd.R_lower ho55 (below_size (by repeat (first | (with_reducible first | exact HB.out | apply below_alloc | apply pw_below_drewN | apply below_drew1) | exact HB.out)))); have n2_ := Aside0.mk (below_step (by repeat (first | (with_reducible first | exact HB.out | apply below_alloc | apply pw_below_drewN | apply below_drew1) | exact HB.out)) hb); clear HO133; clear HB; have HO133 := n0_; have HO136 := n1_; have HB := n2_; clear n0_ n1_ n2_; clear hb ho55; obtain ⟨Ao56, co56, eo56⟩ := Kd.R_slice HO133.out; subst eo56; obtain ⟨Ao57, co57, eo57⟩ := Kd.R_slice HO136.out; subst eo57) | ((with_reducible refine gate_callee (f := 11) rfl ?_); refine goesL_ (some 18) rfl rfl Try.func11 (by kernel_rfl) rfl #[.slice Ao56 y131.length co56, .slice Ao57 y134.length co57] rfl (by (try simp only [List.map_toArray, List.map_cons, List.map_nil]); first | done | rfl | (simp only [List.length_drop, List.length_take]; rfl)) ?_; (with_reducible refine (rows_Encode.calls k _ _ y131 _ _ y134 t137 t138 _ ?side1 ?side2 ?side3 ?side4 A1.out).mono ?_); (case side1 => repeat (first | exact (Kd.R_reads' HO133.out).2.2 | (with_reducible refine Kd.C_alloc ?_ _) | (with_reducible refine Kd.C_drewN ?_ _) | (with_reducible refine Kd.C_drew ?_))); (case side2 => exact (Kd.R_reads' HO133.out).2.1); (case side3 => repeat (first | exact (Kd.R_reads' HO136.out).2.2 | (with_reducible refine Kd.C_alloc ?_ _) | (with_reducible refine Kd.C_drewN ?_ _) | (with_reducible refine Kd.C_drew ?_))); (case side4 => exact (Kd.R_reads' HO136.out).2.1); rintro e w58 ⟨v139, rfl, ho0, hb⟩; refine ⟨_, rfl, ?_⟩; have n0_ := Aside0.mk (Kd.R_below (by (with_reducible repeat (first | apply Kd.R_alloc | apply Kd.R_drewN | apply Kd.R_drew)); exact HO133.out) hb); have n1_ := Aside0.mk (Kd.R_below (by (with_reducible repeat (first | apply Kd.R_alloc | apply Kd.R_drewN | apply Kd.R_drew)); exact HO136.out) hb); have n2_ := Aside0.mk (Kd.R_lower ho0 (below_size (by repeat (first | (with_reducible first | exact HB.out | apply below_alloc | apply pw_below_drewN | apply below_drew1) | exact HB.out)))); have n3_ := Aside0.mk (below_step (by repeat (first | (with_reducible first | exact HB.out | apply below_alloc | apply pw_below_drewN | apply below_drew1) | exact HB.out)) hb); clear HO133; clear HO136; clear HB; have HO133 := n0_; have HO136 := n1_; have HO140 := n2_; have HB := n3_; clear n0_ n1_ n2_ n3_; (try clear hb); (try clear hb2); (try clear hk); (try clear hi); (try clear ho0); obtain ⟨Ao59, co59, eo59⟩ := Kd.R_slice HO140.out; subst eo59) | ((with_reducible refine gate_callee (f := 17) rfl ?_); refine goesL_ (some 24) rfl rfl Try.func17 (by kernel_rfl) rfl #[.slice Ao56 y131.length co56, .slice Ao59 t137.length co59] rfl (by (try simp only [List.map_toArray, List.map_cons, List.map_nil]); first | done | rfl | (simp only [List.length_drop, List.length_take]; rfl)) ?_; (with_reducible refine (rows_Decode.calls _ _ y131 _ _ t137 t141 t142 _ ?side1 ?side2 ?side3 ?side4 A2.out).mono ?_); (case side1 => repeat (first | exact (Kd.R_reads' HO133.out).2.2 | (with_reducible refine Kd.C_alloc ?_ _) | (with_reducible refine Kd.C_drewN ?_ _) | (with_reducible refine Kd.C_drew ?_))); (case side2 => exact (Kd.R_reads' HO133.out).2.1); (case side3 => repeat (first | exact (Kd.R_reads' HO140.out).2.2 | (with_reducible refine Kd.C_alloc ?_ _) | (with_reducible refine Kd.C_drewN ?_ _) | (with_reducible refine Kd.C_drew ?_))); (case side4 => exact (Kd.R_reads' HO140.out).2.1); rintro e w60 ⟨v143, rfl, ho0, hb⟩; refine ⟨_, rfl, ?_⟩; have n0_ := Aside0.mk (Kd.R_below (by (with_reducible repeat (first | apply Kd.R_alloc | apply Kd.R_drewN | apply Kd.R_drew)); exact HO133.out) hb); have n1_ := Aside0.mk (Kd.R_elder' (by (with_reducible repeat (first | apply Kd.R_alloc | apply Kd.R_drewN | apply Kd.R_drew)); exact HO136.out) (Kd.R_base ho0) hb); have n2_ := Aside0.mk (Kd.R_below (by (with_reducible repeat (first | apply Kd.R_alloc | apply Kd.R_drewN | apply Kd.R_drew)); exact HO140.out) hb); have n3_ := Aside0.mk (Kd.R_lower (Kd.R_new' ho0 (Kd.R_lt (by (with_reducible repeat (first | apply Kd.R_alloc | apply Kd.R_drewN | apply Kd.R_drew)); exact HO136.out))) (below_size (by repeat (first | (with_reducible first | exact HB.out | apply below_alloc | apply pw_below_drewN | apply below_drew1) | exact HB.out)))); have n4_ := Aside0.mk (below_step (by repeat (first | (with_reducible first | exact HB.out | apply below_alloc | apply pw_below_drewN | apply below_drew1) | exact HB.out)) hb); clear HO133; clear HO136; clear HO140; clear HB; have HO133 := n0_; have HO136 := n1_; have HO140 := n2_; have HO144 := n3_; have HB := n4_; clear n0_ n1_ n2_ n3_ n4_; (try clear hb); (try clear hb2); (try clear hk); (try clear hi); (try clear ho0); have hcv61 := own_string (P := Try.prog) Try.underlying27 Try.underlying5 Try.underlying9 (Kd.own_of_R HO140.out)))
    go_ret
    exact ⟨by first | rfl | (simp [errW_none, errW_some] <;> rfl) | (simp [*, errW_none, errW_some] <;> rfl), by repeat (first | (with_reducible first | exact HB.out | apply below_alloc | apply pw_below_drewN | apply below_drew1) | exact HB.out)⟩
/-! ### haspref01_Parts: function 33 -/
def haspref01_Parts.f (a0 : Int) : Option (Int × Int × Int) := some (wrap64 ((IntKind.u64.wrap (a0)) / 9223372036854775808), wrap64 (Go.bits .and .u64 ((IntKind.u64.wrap (a0)) / 4503599627370496) 2047), wrap64 (Go.bits .and .u64 (IntKind.u64.wrap (a0)) 4503599627370495))
end Go.Proofs.Ytnjobnkkpfaigaa.V
