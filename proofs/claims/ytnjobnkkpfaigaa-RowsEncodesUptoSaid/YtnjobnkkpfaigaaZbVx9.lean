import Derived.Test.YtnjobnkkpfaigaaZbVx0
import Derived.Test.YtnjobnkkpfaigaaZbVx8
namespace Go.Proofs.Ytnjobnkkpfaigaa.V
open Go.RowKit Go.Proofs.YtnjobnkkpfaigaaW.PrintWords Go.Proofs.YtnjobnkkpfaigaaW.PrintLast Go.Proofs.YtnjobnkkpfaigaaW.PrintMore Go.Proofs.Ytnjobnkkpfaigaa.A
attribute [local go_sem] max2_int min2_int max_two min_two max_three min_three max_four min_four   -- for this text's walks alone
set_option linter.unusedVariables false
set_option linter.unusedSimpArgs false
/-! ### haspref06_Encode: function 12 -/
mutual
def haspref06_Encode.l0 : Nat → List (S43) → List Int → Int → Option (List Int × Int)
  | 0, _, _, _ => none
  | k + 1, x1, x7, x8 => if x8 < (x1.length : Int) then (haspref06_Encode.l1 k x1 x7 x8 0 0) else (haspref06_Encode.l2 k x1 x7 0)
def haspref06_Encode.l1 : Nat → List (S43) → List Int → Int → Int → Int → Option (List Int × Int)
  | 0, _, _, _, _, _ => none
  | k + 1, x1, x7, x8, x9, x10 => if x10 < 8 then (haspref06_Encode.j2 k x1 x7 x8 x9 x10 (decide ((wrap64 (x8 + x10)) < (x1.length : Int)))) else (haspref06_Encode.j2 k x1 x7 x8 x9 x10 false)
def haspref06_Encode.j2 : Nat → List (S43) → List Int → Int → Int → Int → Bool → Option (List Int × Int)
  | 0, _, _, _, _, _, _ => none
  | k + 1, x1, x7, x8, x9, x10, x38 => if x38 = true then (if 0 ≤ (wrap64 (x8 + x10)) then (if (wrap64 (x8 + x10)) < (x1.length : Int) then (if ((rd_T43 x1 (wrap64 (x8 + x10))).f0) = 0 then (if 0 ≤ (IntKind.u64.wrap (x10)) then (haspref06_Encode.l1 k x1 x7 x8 (wrap64 (x9 + (shl .i64 1 (IntKind.u64.wrap (x10))))) (wrap64 (x10 + 1))) else (none)) else (haspref06_Encode.l1 k x1 x7 x8 x9 (wrap64 (x10 + 1)))) else (none)) else (none)) else (if x7.length < 140737488355328 then (haspref06_Encode.l0 k x1 (x7 ++ [(x9) % 256]) (wrap64 (x8 + 8))) else (none))
def haspref06_Encode.l2 : Nat → List (S43) → List Int → Int → Option (List Int × Int)
  | 0, _, _, _ => none
  | k + 1, x1, x7, x11 => if x11 < (x1.length : Int) then (if 0 ≤ x11 then (if ((rd_T43 x1 x11).f0) = 1 then (if x7.length < 140737488355328 then (haspref06_Encode.j4 k x1 (x7 ++ [((rd_T43 x1 x11).f1) % 256]) x11 ((rd_T43 x1 x11).f0) ((rd_T43 x1 x11).f1) ((rd_T43 x1 x11).f2)) else (none)) else (haspref06_Encode.j4 k x1 x7 x11 ((rd_T43 x1 x11).f0) ((rd_T43 x1 x11).f1) ((rd_T43 x1 x11).f2))) else (none)) else (some (x7, 0))
def haspref06_Encode.j4 : Nat → List (S43) → List Int → Int → Int → Int → ByteArray → Option (List Int × Int)
  | 0, _, _, _, _, _, _ => none
  | k + 1, x1, x7, x11, x171000, x171001, x171002 => if x171000 = 2 then (haspref06_Encode.j5 k x1 x7 x11 true x171000 x171001 x171002) else (haspref06_Encode.j5 k x1 x7 x11 (x171000 == 3) x171000 x171001 x171002)
def haspref06_Encode.j5 : Nat → List (S43) → List Int → Int → Bool → Int → Int → ByteArray → Option (List Int × Int)
  | 0, _, _, _, _, _, _, _ => none
  | k + 1, x1, x7, x11, x85, x171000, x171001, x171002 => if x85 = true then (haspref06_Encode.l3 k x1 x7 x11 0 x171000 x171001 x171002) else (haspref06_Encode.j7 k x1 x7 x11 x171000 x171001 x171002)
def haspref06_Encode.j7 : Nat → List (S43) → List Int → Int → Int → Int → ByteArray → Option (List Int × Int)
  | 0, _, _, _, _, _, _ => none
  | k + 1, x1, x7, x11, x171000, x171001, x171002 => if x171000 = 4 then (if x7.length < 140737488355328 then (haspref06_Encode.l4 k x1 (x7 ++ [((x171002.size : Int)) % 256]) x11 0 x171000 x171001 x171002) else (none)) else (haspref06_Encode.l2 k x1 x7 (wrap64 (x11 + 1)))
def haspref06_Encode.l4 : Nat → List (S43) → List Int → Int → Int → Int → Int → ByteArray → Option (List Int × Int)
  | 0, _, _, _, _, _, _, _ => none
  | k + 1, x1, x7, x11, x14, x171000, x171001, x171002 => if x14 < (x171002.size : Int) then (if 0 ≤ x14 then (if x7.length < 140737488355328 then (haspref06_Encode.l4 k x1 (x7 ++ [bt x171002 x14]) x11 (wrap64 (x14 + 1)) x171000 x171001 x171002) else (none)) else (none)) else (haspref06_Encode.l2 k x1 x7 (wrap64 (x11 + 1)))
def haspref06_Encode.l3 : Nat → List (S43) → List Int → Int → Int → Int → Int → ByteArray → Option (List Int × Int)
  | 0, _, _, _, _, _, _, _ => none
  | k + 1, x1, x7, x11, x13, x171000, x171001, x171002 => if x13 < 64 then (if 0 ≤ (IntKind.u64.wrap (x13)) then (if x7.length < 140737488355328 then (haspref06_Encode.l3 k x1 (x7 ++ [(shr .u64 (IntKind.u64.wrap (x171001)) (IntKind.u64.wrap (x13))) % 256]) x11 (wrap64 (x13 + 8)) x171000 x171001 x171002) else (none)) else (none)) else (haspref06_Encode.j7 k x1 x7 x11 x171000 x171001 x171002)
end
def haspref06_Encode.f (k : Nat) (l0 : List (S47)) (l1 : List (S43)) : Option (List Int × Int) := (haspref06_Fit.f k l0 l1).bind fun t158 => (if t158 = 0 then (haspref06_Encode.l0 k l1 (([] : List Int)) 0) else (some ((([] : List Int)), t158)))
set_option maxHeartbeats 8000000 in
set_option maxRecDepth 100000 in
theorem haspref06_Encode.calls (k : Nat) (A0 : Option Addr) (c0 : Nat) (l0 : List (S47)) (A1 : Option Addr) (c1 : Nat) (l1 : List (S43)) (r1 : List Int) (r2 : Int) (w : World) (hr0 : Kd.C k47 w A0 l0.length l0) (hc0 : l0.length ≤ c0) (hr1 : Kd.C k43 w A1 l1.length l1) (hc1 : l1.length ≤ c1) (h : haspref06_Encode.f k l0 l1 = some (r1, r2)) :
    Calls Try.prog 12 #[.slice A0 l0.length c0, .slice A1 l1.length c1] w fun e w' => ∃ v0_ : Value, e = .returned (.tuple #[v0_, .int .i64 r2]) ∧ Kd.R (Kd.int .u8) 5 w' w.heap.size (fun _ => True) v0_ r1 ∧ Below w.heap.size w w' := by
  have hu43 := Try.underlying43
  have HR0 := Aside0.mk hr0
  have HC0 := Aside0.mk hc0
  clear hr0 hc0
  have HR1 := Aside0.mk hr1
  have HC1 := Aside0.mk hc1
  clear hr1 hc1
  have HB := Aside0.mk (Below.refl w.heap.size w)
  have H : ((haspref06_Fit.f k l0 l1).bind fun t158 => (if t158 = 0 then (haspref06_Encode.l0 k l1 (([] : List Int)) 0) else (some ((([] : List Int)), t158)))) = some (r1, r2) := h
  clear h
  replace H := Option.bind_eq_some_iff.mp H
  obtain ⟨t158, A30, H⟩ := H
  replace H : (if t158 = 0 then (haspref06_Encode.l0 k l1 (([] : List Int)) 0) else (some ((([] : List Int)), t158))) = some (r1, r2) := H
  have A3 := Aside0.mk A30
  clear A30
  by_cases c4 : t158 = 0
  · rw [if_pos c4] at H
    have c4b0 : (t158 == 0) = true := beq_iff_eq.mpr c4
    have c4b1 : (t158 != 0) = false := bne_eq_false_iff_eq.mpr c4
    clear c4
    obtain ⟨y162, hy162⟩ : ∃ y_ : List Int, y_ = (([] : List Int)) := ⟨_, rfl⟩
    replace H : (haspref06_Encode.l0 k l1 y162 0) = some (r1, r2) := by first | (rw [hy162]; with_reducible exact H) | (have H2_ := (Option.bind_some _ _).symm.trans H; rw [hy162]; with_reducible exact H2_) | (have H2_ := (Option.bind_some _ _).symm.trans H; with_reducible exact H2_) | with_reducible exact H | (rw [hy162]; exact H) | exact H
    have Ny162 := Aside0.mk hy162
    clear hy162
    have H' := Aside0.mk H
    clear H
    go_enter Try.func12, Try.ntmps12
    go_wp2_with (first | ((with_reducible refine gate_callee (f := 14) rfl ?_); refine goesL_ (some 17) rfl rfl Try.func14 (by kernel_rfl) rfl #[.slice A0 l0.length c0, .slice A1 l1.length c1] rfl (by (try simp only [List.map_toArray, List.map_cons, List.map_nil]); first | done | rfl | (simp only [List.length_drop, List.length_take]; rfl)) ?_; (with_reducible refine (haspref06_Fit.calls k _ _ l0 _ _ l1 t158 _ ?side1 ?side2 ?side3 ?side4 A3.out).mono ?_); (case side1 => repeat (first | exact HR0.out | (with_reducible refine Kd.C_alloc ?_ _) | (with_reducible refine Kd.C_drewN ?_ _) | (with_reducible refine Kd.C_drew ?_))); (case side2 => exact HC0.out); (case side3 => repeat (first | exact HR1.out | (with_reducible refine Kd.C_alloc ?_ _) | (with_reducible refine Kd.C_drewN ?_ _) | (with_reducible refine Kd.C_drew ?_))); (case side4 => exact HC1.out); rintro e w5 ⟨rfl, hb⟩; refine ⟨_, rfl, ?_⟩; have n0_ := Aside0.mk (below_step (by repeat (first | (with_reducible first | exact HB.out | apply below_alloc | apply pw_below_drewN | apply below_drew1) | exact HB.out)) hb); clear HB; have HB := n0_; clear n0_; (try clear hb); (try clear hb2); (try clear hk); (try clear hi)) | ((with_reducible refine gate_dst (N := 22) rfl ?_); (try (refine gate_guard (by rfl) ?_; dsimp only)); refine Kd.R_lit (Kd.int .u8) _ 5 ?hg (N := 22) ?hd (xs := ([] : List Int)) (inner := []) (ok := fun _ => True) (okp := fun _ => True) ?hr ?hp (fun _ hk => hk) trivial (Below.refl _ _) (Nat.le_refl _) (by simp) ?_; (case hd => rfl); (case hg => rfl); (case hr => first | (go_simp; done) | (go_simp; rfl)); (case hp => exact (Reps.none _ _)); intro v163 w6 ho7 hb hg_ hnew_; clear hg_ hnew_; (first | rw [← Ny162.out] at ho7 | (simp only [Int.reduceToNat] at ho7; rw [← Ny162.out] at ho7)); have n0_ := Aside0.mk (Kd.R_lower ho7 (below_size (by repeat (first | (with_reducible first | exact HB.out | apply below_alloc | apply pw_below_drewN | apply below_drew1) | exact HB.out)))); have n1_ := Aside0.mk (below_step (by repeat (first | (with_reducible first | exact HB.out | apply below_alloc | apply pw_below_drewN | apply below_drew1) | exact HB.out)) hb); clear HB; have HO164 := n0_; have HB := n1_; clear n0_ n1_; clear hb ho7))
    go_loopg [7, 8] k (fun kq v7 v8 w' => ∃ (x7_1 : List Int) (x8_1 : Int), v8 = .int .i64 x8_1 ∧ Aside0 (haspref06_Encode.l0 kq l1 x7_1 x8_1 = some (r1, r2)) ∧ Aside0 (kq ≤ k) ∧ Aside0 (Kd.R (Kd.int .u8) 5 w' w.heap.size (fun _ => True) v7 x7_1) ∧ Aside0 (Below w.heap.size w w'))
    case atStart => exact ⟨(y162), (0), (by first | rfl | (simp; done) | (simp [*]; done) | (simp; exact isEmpty_bne _) | (simp [*]; exact isEmpty_bne _)), H', ⟨Nat.le_refl _⟩, ⟨by (with_reducible repeat (first | apply Kd.R_alloc | apply Kd.R_drewN | apply Kd.R_drew)); exact HO164.out⟩, ⟨by repeat (first | (with_reducible first | exact HB.out | apply below_alloc | apply pw_below_drewN | apply below_drew1) | exact HB.out)⟩⟩
    case round =>
      clear H'
      try clear c1
      try clear p2
      try clear c4
      try clear c4b0
      try clear c4b1
      obtain ⟨x7_1, x8_1, rfl, HA, HK1, HO_7, HB⟩ := hrel
      cases gk with
      | zero => exact absurd HA.out (by simp [haspref06_Encode.l0])
      | succ k1 =>
        have H := HA.out
        clear HA
        simp only [haspref06_Encode.l0] at H
        by_cases c8 : x8_1 < (l1.length : Int)
        · rw [if_pos c8] at H
          have c8b0 : decide (x8_1 < (l1.length : Int)) = true := decide_eq_true c8
          clear c8
          have H' := Aside0.mk H
          clear H
          go_wp2
          go_loopg [9, 10] k1 (fun kq v9 v10 w' => ∃ (x9_2 : Int) (x10_2 : Int), v9 = .int .i64 x9_2 ∧ v10 = .int .i64 x10_2 ∧ Aside0 (haspref06_Encode.l1 kq l1 x7_1 x8_1 x9_2 x10_2 = some (r1, r2)) ∧ Aside0 (kq ≤ k1) ∧ Aside0 (Kd.R (Kd.int .u8) 5 w' w.heap.size (fun _ => True) u7 x7_1) ∧ Aside0 (Below w.heap.size w w'))
          case atStart => exact ⟨(0), (0), (by first | rfl | (simp; done) | (simp [*]; done) | (simp; exact isEmpty_bne _) | (simp [*]; exact isEmpty_bne _)), (by first | rfl | (simp; done) | (simp [*]; done) | (simp; exact isEmpty_bne _) | (simp [*]; exact isEmpty_bne _)), H', ⟨Nat.le_refl _⟩, ⟨by (with_reducible repeat (first | apply Kd.R_alloc | apply Kd.R_drewN | apply Kd.R_drew)); exact HO_7.out⟩, ⟨by repeat (first | (with_reducible first | exact HB.out | apply below_alloc | apply pw_below_drewN | apply below_drew1) | exact HB.out)⟩⟩
          case round =>
            clear H'
            try clear c1
            try clear p2
            try clear c4
            try clear c4b0
            try clear c4b1
            try clear c8
            try clear c8b0
            try clear p2
            obtain ⟨x9_2, x10_2, rfl, rfl, HA, HK2, HO_7, HB⟩ := hrel
            cases gk with
            | zero => exact absurd HA.out (by simp [haspref06_Encode.l1])
            | succ k2 =>
              have H := HA.out
              clear HA
              simp only [haspref06_Encode.l1] at H
              have HC9 := Aside0.mk H
              clear H
              go_upto_region 10 with (fail)
              go_cut [38] (fun v38 wc => ∃ (kq : Nat) (x38_8 : Bool), v38 = .bool x38_8 ∧ Aside0 (haspref06_Encode.j2 kq l1 x7_1 x8_1 x9_2 x10_2 x38_8 = some (r1, r2)) ∧ Aside0 (kq ≤ k2) ∧ Aside0 (Kd.R (Kd.int .u8) 5 wc w.heap.size (fun _ => True) u7 x7_1) ∧ Aside0 (Below w.heap.size w wc))
              case first =>
                have H := HC9.out
                clear HC9
                by_cases c10 : x10_2 < 8
                · rw [if_pos c10] at H
                  have c10b0 : decide (x10_2 < 8) = true := decide_eq_true c10
                  clear c10
                  (first | rw [c10b0] | (simp only [i64_w, i32_w]; rw [c10b0]) | skip)
                  have H' := Aside0.mk H
                  clear H
                  go_wp2
                  go_meet
                  case rel => exact ⟨_, (decide ((wrap64 (x8_1 + x10_2)) < (l1.length : Int))), (by first | rfl | (simp; done) | (simp [*]; done) | (simp; exact isEmpty_bne _) | (simp [*]; exact isEmpty_bne _)), H', ⟨by have := HK1.out; have := HK2.out; first | omega | exact Nat.le_refl _⟩, ⟨by (with_reducible repeat (first | apply Kd.R_alloc | apply Kd.R_drewN | apply Kd.R_drew)); exact HO_7.out⟩, ⟨by repeat (first | (with_reducible first | exact HB.out | apply below_alloc | apply pw_below_drewN | apply below_drew1) | exact HB.out)⟩⟩
                · rw [if_neg c10] at H
                  have c10b0 : decide (x10_2 < 8) = false := decide_eq_false c10
                  clear c10
                  (first | rw [c10b0] | (simp only [i64_w, i32_w]; rw [c10b0]) | skip)
                  have H' := Aside0.mk H
                  clear H
                  go_wp2
                  go_meet
                  case rel => exact ⟨_, (false), (by first | rfl | (simp; done) | (simp [*]; done) | (simp; exact isEmpty_bne _) | (simp [*]; exact isEmpty_bne _)), H', ⟨by have := HK1.out; have := HK2.out; first | omega | exact Nat.le_refl _⟩, ⟨by (with_reducible repeat (first | apply Kd.R_alloc | apply Kd.R_drewN | apply Kd.R_drew)); exact HO_7.out⟩, ⟨by repeat (first | (with_reducible first | exact HB.out | apply below_alloc | apply pw_below_drewN | apply below_drew1) | exact HB.out)⟩⟩
              case rest =>
                clear HC9
                try clear c1
                try clear p2
                try clear c4
                try clear c4b0
                try clear c4b1
                try clear p6
                try clear c8
                try clear c8b0
                try clear c10
                try clear c10b0
                try clear p2
                obtain ⟨kq, x38_8, rfl, HA, HJ8, HO_7, HB⟩ := hcut
                cases kq with
                | zero => exact absurd HA.out (by simp [haspref06_Encode.j2])
                | succ kj8 =>
                  have H := HA.out
                  clear HA
                  simp only [haspref06_Encode.j2] at H
                  by_cases c11 : x38_8 = true
                  · subst c11
                    have H1 : (if 0 ≤ (wrap64 (x8_1 + x10_2)) then (if (wrap64 (x8_1 + x10_2)) < (l1.length : Int) then (if ((rd_T43 l1 (wrap64 (x8_1 + x10_2))).f0) = 0 then (if 0 ≤ (IntKind.u64.wrap (x10_2)) then (haspref06_Encode.l1 kj8 l1 x7_1 x8_1 (wrap64 (x9_2 + (shl .i64 1 (IntKind.u64.wrap (x10_2))))) (wrap64 (x10_2 + 1))) else (none)) else (haspref06_Encode.l1 kj8 l1 x7_1 x8_1 x9_2 (wrap64 (x10_2 + 1)))) else (none)) else (none)) = some (r1, r2) := by rw [if_pos rfl] at H; exact H
                    clear H
                    have H := H1
                    clear H1
                    obtain ⟨ji12, hji12⟩ : ∃ j_ : Int, (wrap64 (x8_1 + x10_2)) = j_ := ⟨_, rfl⟩
                    replace H : (if 0 ≤ (ji12) then (if (ji12) < (l1.length : Int) then (if ((rd_T43 l1 (ji12)).f0) = 0 then (if 0 ≤ (IntKind.u64.wrap (x10_2)) then (haspref06_Encode.l1 kj8 l1 x7_1 x8_1 (wrap64 (x9_2 + (shl .i64 1 (IntKind.u64.wrap (x10_2))))) (wrap64 (x10_2 + 1))) else (none)) else (haspref06_Encode.l1 kj8 l1 x7_1 x8_1 x9_2 (wrap64 (x10_2 + 1)))) else (none)) else (none)) = some (r1, r2) := by first | (rw [hji12] at H; exact H) | (simp only [hji12] at H ⊢; exact H)
                    have hji12w : (IntKind.i64.wrap (x8_1 + x10_2)) = ji12 := (i64_w _).trans hji12
                    by_cases c13 : 0 ≤ (ji12)
                    · rw [if_pos c13] at H
                      have c13b0 : decide (0 ≤ (ji12)) = true := decide_eq_true c13
                      clear c13
                      by_cases c14 : (ji12) < (l1.length : Int)
                      · rw [if_pos c14] at H
                        have c14b0 : decide ((ji12) < (l1.length : Int)) = true := decide_eq_true c14
                        clear c14
                        by_cases c15 : ((rd_T43 l1 (ji12)).f0) = 0
                        · rw [if_pos c15] at H
                          have c15b0 : (((rd_T43 l1 (ji12)).f0) == 0) = true := beq_iff_eq.mpr c15
                          have c15b1 : (((rd_T43 l1 (ji12)).f0) != 0) = false := bne_eq_false_iff_eq.mpr c15
                          clear c15
                          obtain ⟨ji16, hji16⟩ : ∃ j_ : Int, (IntKind.u64.wrap (x10_2)) = j_ := ⟨_, rfl⟩
                          replace H : (if 0 ≤ (ji16) then (haspref06_Encode.l1 kj8 l1 x7_1 x8_1 (wrap64 (x9_2 + (shl .i64 1 (ji16)))) (wrap64 (x10_2 + 1))) else (none)) = some (r1, r2) := by first | (rw [hji16] at H; exact H) | (simp only [hji16] at H ⊢; exact H)
                          by_cases c17 : 0 ≤ (ji16)
                          · rw [if_pos c17] at H
                            have c17b0 := eq_true c17
                            have c17b1 : decide (0 ≤ (ji16)) = true := decide_eq_true c17
                            clear c17
                            obtain ⟨ji18, hji18⟩ : ∃ j_ : Int, (shl .i64 1 (ji16)) = j_ := ⟨_, rfl⟩
                            replace H : (haspref06_Encode.l1 kj8 l1 x7_1 x8_1 (wrap64 (x9_2 + (ji18))) (wrap64 (x10_2 + 1))) = some (r1, r2) := by first | (rw [hji18] at H; exact H) | (simp only [hji18] at H ⊢; exact H)
                            have hji18_ : (IntKind.i64.wrap (1 * 2 ^ min (ji16).toNat 64)) = ji18 := hji18
                            have hji18z : (ji16) ≤ 64 → (IntKind.i64.wrap (1 * 2 ^ (ji16).toNat)) = ji18 := shl_small hji18
                            have hji18u : (IntKind.i64.wrap (2 ^ min (ji16).toNat 64)) = ji18 := by have h_ := hji18_; rw [Int.one_mul] at h_; exact h_
                            have hji18v : (ji16) ≤ 64 → (IntKind.i64.wrap (2 ^ (ji16).toNat)) = ji18 := fun hle_ => by have h_ := hji18z hle_; rw [Int.one_mul] at h_; exact h_
                            have hji18y : (wrap64 (1 * 2 ^ min (ji16).toNat 64)) = ji18 := (i64_w _).symm.trans hji18_
                            have hji18x : (ji16) ≤ 64 → (wrap64 (1 * 2 ^ (ji16).toNat)) = ji18 := fun h_ => (i64_w _).symm.trans (hji18z h_)
                            have H' := Aside0.mk H
                            clear H
                            have p165 : 0 ≤ ((ji12) : Int) := of_decide_eq_true (by first | (with_reducible assumption) | assumption)
                            have q165 : (ji12) < (l1.length : Int) := of_decide_eq_true (by first | (with_reducible assumption) | assumption)
                            obtain ⟨ad165, e165, hx165_0, hx165_1, hx165_2⟩ := at_T43 HR1.out (ji12) p165 q165
                            cases e165
                            replace hx165_0 := (HB.out.cell (World.block_lt_of_cell? w _ hx165_0)).trans hx165_0
                            replace hx165_1 := (HB.out.cell (World.block_lt_of_cell? w _ hx165_1)).trans hx165_1
                            replace hx165_2 := (HB.out.cell (World.block_lt_of_cell? w _ hx165_2)).trans hx165_2
                            replace p165 := eq_true p165
                            replace q165 := eq_true q165
                            go_wp2
                            go_roundg kj8
                            case measure => have := HK1.out; have := HK2.out; have := HJ8.out; omega
                            case rel => exact ⟨(wrap64 (x9_2 + (ji18))), (wrap64 (x10_2 + 1)), (by first | rfl | (simp; done) | (simp only [← hji18] <;> (first | rfl | simp)) | (simp [*]; done) | (simp; exact isEmpty_bne _) | (simp [*]; exact isEmpty_bne _)), (by first | rfl | (simp; done) | (simp [*]; done) | (simp; exact isEmpty_bne _) | (simp [*]; exact isEmpty_bne _)), H', ⟨by have := HK1.out; have := HK2.out; have := HJ8.out; omega⟩, ⟨by (with_reducible repeat (first | apply Kd.R_alloc | apply Kd.R_drewN | apply Kd.R_drew)); exact HO_7.out⟩, ⟨by repeat (first | (with_reducible first | exact HB.out | apply below_alloc | apply pw_below_drewN | apply below_drew1) | exact HB.out)⟩⟩
                          · rw [if_neg c17] at H
                            exact absurd H (by simp)
                        · rw [if_neg c15] at H
                          have c15b0 : (((rd_T43 l1 (ji12)).f0) == 0) = false := beq_eq_false_iff_ne.mpr c15
                          have c15b1 : (((rd_T43 l1 (ji12)).f0) != 0) = true := bne_iff_ne.mpr c15
                          have H' := Aside0.mk H
                          clear H
                          have p165 : 0 ≤ ((ji12) : Int) := of_decide_eq_true (by first | (with_reducible assumption) | assumption)
                          have q165 : (ji12) < (l1.length : Int) := of_decide_eq_true (by first | (with_reducible assumption) | assumption)
                          obtain ⟨ad165, e165, hx165_0, hx165_1, hx165_2⟩ := at_T43 HR1.out (ji12) p165 q165
                          cases e165
                          replace hx165_0 := (HB.out.cell (World.block_lt_of_cell? w _ hx165_0)).trans hx165_0
                          replace hx165_1 := (HB.out.cell (World.block_lt_of_cell? w _ hx165_1)).trans hx165_1
                          replace hx165_2 := (HB.out.cell (World.block_lt_of_cell? w _ hx165_2)).trans hx165_2
                          replace p165 := eq_true p165
                          replace q165 := eq_true q165
                          go_wp2
                          go_roundg kj8
                          case measure => have := HK1.out; have := HK2.out; have := HJ8.out; omega
                          case rel => exact ⟨(x9_2), (wrap64 (x10_2 + 1)), (by first | rfl | (simp; done) | (simp [*]; done) | (simp; exact isEmpty_bne _) | (simp [*]; exact isEmpty_bne _)), (by first | rfl | (simp; done) | (simp [*]; done) | (simp; exact isEmpty_bne _) | (simp [*]; exact isEmpty_bne _)), H', ⟨by have := HK1.out; have := HK2.out; have := HJ8.out; omega⟩, ⟨by (with_reducible repeat (first | apply Kd.R_alloc | apply Kd.R_drewN | apply Kd.R_drew)); exact HO_7.out⟩, ⟨by repeat (first | (with_reducible first | exact HB.out | apply below_alloc | apply pw_below_drewN | apply below_drew1) | exact HB.out)⟩⟩
                      · rw [if_neg c14] at H
                        exact absurd H (by simp)
                    · rw [if_neg c13] at H
                      exact absurd H (by simp)
                  · replace c11 := Bool.eq_false_iff.mpr c11
                    subst c11
                    have H1 : (if x7_1.length < 140737488355328 then (haspref06_Encode.l0 kj8 l1 (x7_1 ++ [(x9_2) % 256]) (wrap64 (x8_1 + 8))) else (none)) = some (r1, r2) := by rw [if_neg (show ¬ (false = true) by decide)] at H; exact H
                    clear H
                    have H := H1
                    clear H1
                    by_cases c19 : x7_1.length < 140737488355328
                    · rw [if_pos c19] at H
                      have LMc19 := Aside0.mk c19
                      clear c19
                      obtain ⟨y166, hy166⟩ : ∃ y_ : List Int, y_ = (x7_1 ++ [(x9_2) % 256]) := ⟨_, rfl⟩
                      replace H : (haspref06_Encode.l0 kj8 l1 y166 (wrap64 (x8_1 + 8))) = some (r1, r2) := by first | (rw [hy166]; with_reducible exact H) | (have H2_ := (Option.bind_some _ _).symm.trans H; rw [hy166]; with_reducible exact H2_) | (have H2_ := (Option.bind_some _ _).symm.trans H; with_reducible exact H2_) | with_reducible exact H | (rw [hy166]; exact H) | exact H
                      have Ny166 := Aside0.mk hy166
                      clear hy166
                      have H' := Aside0.mk H
                      clear H
                      go_wp2_with (first | ((with_reducible refine gate_builtin (b := .append) (xs := #[.tmp 54, .tmp 57]) rfl ?_); (try (refine gate_guard (by rfl) ?_; dsimp only)); at_builtin; refine Kd.R_append (Kd.int .u8) (w0 := w) w.heap.size rfl (.tmp 54) (.tmp 57) 27 5 (.int .u8 0) 1 rfl Try.underlying27 info5 rfl (by decide) (by omega) u7 x7_1 ((x9_2) % 256) [.int .u8 ((x9_2) % 256)] (fun _ => True) (fun _ => False) rfl rfl ?aP (fun _ hk => hk.elim) ?aF ?aO ?aB ?aS ?aL ?_; (case aP => exact rfl); (case aB => exact (by repeat (first | (with_reducible first | exact HB.out | apply below_alloc | apply pw_below_drewN | apply below_drew1) | exact HB.out))); (case aF => exact (fun _ _ => trivial)); (case aO => exact (by (with_reducible repeat (first | apply Kd.R_alloc | apply Kd.R_drewN | apply Kd.R_drew)); exact HO_7.out)); (case aS => exact (below_size (by repeat (first | (with_reducible first | exact HB.out | apply below_alloc | apply pw_below_drewN | apply below_drew1) | exact HB.out)))); (case aL => have := LMc19.out; omega); intro v167 w20 ho hb hg hat; rw [← Ny166.out] at ho; have n0_ := Aside0.mk (hb); have n1_ := Aside0.mk (ho); clear HB; clear HO_7; have HB := n0_; have HO168 := n1_; clear n0_ n1_; clear ho hb hg hat))
                      go_roundg kj8
                      case measure => have := HK1.out; have := HK2.out; have := HJ8.out; omega
                      case rel => exact ⟨(y166), (wrap64 (x8_1 + 8)), (by first | rfl | (simp; done) | (simp [*]; done) | (simp; exact isEmpty_bne _) | (simp [*]; exact isEmpty_bne _)), H', ⟨by have := HK1.out; have := HK2.out; have := HJ8.out; omega⟩, ⟨by (with_reducible repeat (first | apply Kd.R_alloc | apply Kd.R_drewN | apply Kd.R_drew)); exact HO168.out⟩, ⟨by repeat (first | (with_reducible first | exact HB.out | apply below_alloc | apply pw_below_drewN | apply below_drew1) | exact HB.out)⟩⟩
                    · rw [if_neg c19] at H
                      exact absurd H (by simp)
        · rw [if_neg c8] at H
          have c8b0 : decide (x8_1 < (l1.length : Int)) = false := decide_eq_false c8
          clear c8
          have H' := Aside0.mk H
          clear H
          go_wp2
          go_loopg [7, 11] k1 (fun kq v7 v11 w' => ∃ (x7_2 : List Int) (x11_2 : Int), v11 = .int .i64 x11_2 ∧ Aside0 (haspref06_Encode.l2 kq l1 x7_2 x11_2 = some (r1, r2)) ∧ Aside0 (kq ≤ k1) ∧ Aside0 (Kd.R (Kd.int .u8) 5 w' w.heap.size (fun _ => True) v7 x7_2) ∧ Aside0 (Below w.heap.size w w'))
          case atStart => exact ⟨(x7_1), (0), (by first | rfl | (simp; done) | (simp [*]; done) | (simp; exact isEmpty_bne _) | (simp [*]; exact isEmpty_bne _)), H', ⟨Nat.le_refl _⟩, ⟨by (with_reducible repeat (first | apply Kd.R_alloc | apply Kd.R_drewN | apply Kd.R_drew)); exact HO_7.out⟩, ⟨by repeat (first | (with_reducible first | exact HB.out | apply below_alloc | apply pw_below_drewN | apply below_drew1) | exact HB.out)⟩⟩
          case round =>
            clear H'
            try clear c1
            try clear p1
            try clear q1
            try clear hx1
            try clear p2
            try clear c4
            try clear c4b0
            try clear c4b1
            try clear p6
            try clear c8
            try clear c8b0
            try clear c10
            try clear c10b0
            try clear c11
            try clear c12
            try clear c13
            try clear c13b0
            try clear c14
            try clear c14b0
            try clear c15
            try clear c15b0
            try clear c15b1
            try clear p16
            try clear q16
            try clear hx16
            try clear c17
            try clear c17b0
            try clear c17b1
            try clear c19
            try clear hx165_0
            try clear hx165_1
            try clear hx165_2
            try clear p165
            try clear p2
            try clear p6
            try clear q165
            obtain ⟨x7_2, x11_2, rfl, HA, HK2, HO_7, HB⟩ := hrel
            cases gk with
            | zero => exact absurd HA.out (by simp [haspref06_Encode.l2])
            | succ k2 =>
              have H := HA.out
              clear HA
              simp only [haspref06_Encode.l2] at H
              by_cases c21 : x11_2 < (l1.length : Int)
              · rw [if_pos c21] at H
                have c21b0 : decide (x11_2 < (l1.length : Int)) = true := decide_eq_true c21
                clear c21
                by_cases c22 : 0 ≤ x11_2
                · rw [if_pos c22] at H
                  have c22b0 : decide (0 ≤ x11_2) = true := decide_eq_true c22
                  clear c22
                  have HC23 := Aside0.mk H
                  clear H
                  have p169 : 0 ≤ (x11_2 : Int) := of_decide_eq_true (by first | (with_reducible assumption) | assumption)
                  have q169 : x11_2 < (l1.length : Int) := of_decide_eq_true (by first | (with_reducible assumption) | assumption)
                  obtain ⟨ad169, e169, hx169_0, hx169_1, hx169_2⟩ := at_T43 HR1.out x11_2 p169 q169
                  cases e169
                  replace hx169_0 := (HB.out.cell (World.block_lt_of_cell? w _ hx169_0)).trans hx169_0
                  replace hx169_1 := (HB.out.cell (World.block_lt_of_cell? w _ hx169_1)).trans hx169_1
                  replace hx169_2 := (HB.out.cell (World.block_lt_of_cell? w _ hx169_2)).trans hx169_2
                  replace p169 := eq_true p169
                  replace q169 := eq_true q169
                  go_upto_if 71 with (first | ((with_reducible refine gate_dst (N := 12) rfl ?_); (try (refine gate_guard (by rfl) ?_; dsimp only)); refine box_event ?hg (N := 12) ?hd (cs := #[.int .i64 0, .int .i64 0, .string (⟨#[]⟩ : ByteArray)]) (t := 43) ?hr ?_; (case hd => rfl); (case hg => rfl); (case hr => first | (go_simp; done) | (go_simp; rfl)); intro gb170 hg w24 hbox hb; have n0_ := Aside0.mk (Kd.R_below (by (with_reducible repeat (first | apply Kd.R_alloc | apply Kd.R_drewN | apply Kd.R_drew)); exact HO_7.out) hb); have n1_ := Aside0.mk (below_step (by repeat (first | (with_reducible first | exact HB.out | apply below_alloc | apply pw_below_drewN | apply below_drew1) | exact HB.out)) hb); have n2_ := Aside0.mk (hbox); have n3_ := Aside0.mk ((by rw [hg]; exact (below_size (by repeat (first | (with_reducible first | exact HB.out | apply below_alloc | apply pw_below_drewN | apply below_drew1) | exact HB.out))) : w.heap.size ≤ gb170)); have n4_ := Aside0.mk ((by rw [hg]; exact (below_size (by repeat (first | (with_reducible first | exact HB.out | apply below_alloc | apply pw_below_drewN | apply below_drew1) | exact HB.out))) : w.heap.size ≤ gb170)); clear HO_7; clear HB; have HO_7 := n0_; have HB := n1_; have BK170 := n2_; have GW170 := n3_; have GE170 := n4_; clear n0_ n1_ n2_ n3_ n4_; clear hb hbox hg; have hcz25_0 : w24.cell? ⟨gb170, 0, none⟩ = some (.int .i64 0) := (blk_cell BK170.out 0).trans rfl; have hcz25_1 : w24.cell? ⟨gb170, 1, none⟩ = some (.int .i64 0) := (blk_cell BK170.out 1).trans rfl; have hcz25_2 : w24.cell? ⟨gb170, 2, none⟩ = some (.string (⟨#[]⟩ : ByteArray)) := (blk_cell BK170.out 2).trans rfl; have hfz25_0 := blk_frozen BK170.out 0; have hfz25_1 := blk_frozen BK170.out 1; have hfz25_2 := blk_frozen BK170.out 2))
                  (try simp only [Act.put, List.setIfInBounds_toArray, List.set_cons_zero, List.set_cons_succ])
                  go_cut [7] (fun v7 wc => ∃ (kq : Nat) (x7_22 : List Int), Aside0 (haspref06_Encode.j4 kq l1 x7_22 x11_2 ((rd_T43 l1 x11_2).f0) ((rd_T43 l1 x11_2).f1) ((rd_T43 l1 x11_2).f2) = some (r1, r2)) ∧ Aside0 (kq ≤ k2) ∧ Aside0 (Kd.R (Kd.int .u8) 5 wc w.heap.size (fun _ => True) v7 x7_22) ∧ Aside0 (wc.heap[gb170]? = some (.cells #[.int .i64 ((rd_T43 l1 x11_2).f0), .int .i64 ((rd_T43 l1 x11_2).f1), .string ((rd_T43 l1 x11_2).f2)] 43 (0, 0))) ∧ Aside0 (Below w.heap.size w wc))
                  case first =>
                    have H := HC23.out
                    clear HC23
                    by_cases c26 : ((rd_T43 l1 x11_2).f0) = 1
                    · rw [if_pos c26] at H
                      have c26b0 : (((rd_T43 l1 x11_2).f0) == 1) = true := beq_iff_eq.mpr c26
                      have c26b1 : (((rd_T43 l1 x11_2).f0) != 1) = false := bne_eq_false_iff_eq.mpr c26
                      clear c26
                      (first | rw [c26b0] | (simp only [i64_w, i32_w]; rw [c26b0]) | skip)
                      by_cases c27 : x7_2.length < 140737488355328
                      · rw [if_pos c27] at H
                        have LMc27 := Aside0.mk c27
                        clear c27
                        obtain ⟨y171, hy171⟩ : ∃ y_ : List Int, y_ = (x7_2 ++ [((rd_T43 l1 x11_2).f1) % 256]) := ⟨_, rfl⟩
                        replace H : (haspref06_Encode.j4 k2 l1 y171 x11_2 ((rd_T43 l1 x11_2).f0) ((rd_T43 l1 x11_2).f1) ((rd_T43 l1 x11_2).f2)) = some (r1, r2) := by first | (rw [hy171]; with_reducible exact H) | (have H2_ := (Option.bind_some _ _).symm.trans H; rw [hy171]; with_reducible exact H2_) | (have H2_ := (Option.bind_some _ _).symm.trans H; with_reducible exact H2_) | with_reducible exact H | (rw [hy171]; exact H) | exact H
                        have Ny171 := Aside0.mk hy171
                        clear hy171
                        have H' := Aside0.mk H
                        clear H
                        have hcz28_0 : w24.cell? ⟨gb170, 0, none⟩ = some (.int .i64 0) := (blk_cell BK170.out 0).trans rfl
                        have hcz28_1 : w24.cell? ⟨gb170, 1, none⟩ = some (.int .i64 0) := (blk_cell BK170.out 1).trans rfl
                        have hcz28_2 : w24.cell? ⟨gb170, 2, none⟩ = some (.string (⟨#[]⟩ : ByteArray)) := (blk_cell BK170.out 2).trans rfl
                        have hfz28_0 := blk_frozen BK170.out 0
                        have hfz28_1 := blk_frozen BK170.out 1
                        have hfz28_2 := blk_frozen BK170.out 2
                        go_wp2_with (first | ((with_reducible refine gate_builtin (b := .append) (xs := #[.tmp 72, .tmp 76]) rfl ?_); (try (refine gate_guard (by rfl) ?_; dsimp only)); at_builtin; refine Kd.R_append (Kd.int .u8) (w0 := w) w.heap.size rfl (.tmp 72) (.tmp 76) 27 5 (.int .u8 0) 1 rfl Try.underlying27 info5 rfl (by decide) (by omega) u7 x7_2 (((rd_T43 l1 x11_2).f1) % 256) [.int .u8 (((rd_T43 l1 x11_2).f1) % 256)] (fun _ => True) (fun _ => False) rfl (by first | (go_simp; done) | (go_simp; rfl)) ?aP (fun _ hk => hk.elim) ?aF ?aO ?aB ?aS ?aL ?_; (case aP => exact rfl); (case aB => exact (by repeat (first | (with_reducible first | exact HB.out | apply below_alloc | apply pw_below_drewN | apply below_drew1 | refine below_set ?_ GE170.out) | exact HB.out))); (case aF => exact (fun _ _ => trivial)); (case aO => exact (by (with_reducible repeat (first | apply Kd.R_alloc | apply Kd.R_drewN | apply Kd.R_drew)); exact Kd.R_mono (Kd.R_far (p := ⟨gb170, 2, none⟩) (Kd.R_far (p := ⟨gb170, 1, none⟩) (Kd.R_far (p := ⟨gb170, 0, none⟩) (Kd.R_types HO_7.out BK170.out (by decide)) (fun _ hk => hk.2) (.int .i64 ((rd_T43 l1 x11_2).f0))) (fun _ hk => hk.2) (.int .i64 ((rd_T43 l1 x11_2).f1))) (fun _ hk => hk.2) (.string ((rd_T43 l1 x11_2).f2))) (fun _ hk => trivial))); (case aS => exact (below_size (by repeat (first | (with_reducible first | exact HB.out | apply below_alloc | apply pw_below_drewN | apply below_drew1 | refine below_set ?_ GE170.out) | exact HB.out)))); (case aL => have := LMc27.out; omega); intro v172 w29 ho hb hg hat; rw [← Ny171.out] at ho; have n0_ := Aside0.mk (blk_grown (g := gb170) (o := .cells #[.int .i64 ((rd_T43 l1 x11_2).f0), .int .i64 ((rd_T43 l1 x11_2).f1), .string ((rd_T43 l1 x11_2).f2)] 43 (0, 0)) (by (with_reducible repeat (first | refine blk_drewN ?_ _ | refine blk_drew ?_ | refine blk_alloc ?_ _)); refine blk_put (cs := #[.int .i64 ((rd_T43 l1 x11_2).f0), .int .i64 ((rd_T43 l1 x11_2).f1), .string (⟨#[]⟩ : ByteArray)]) ?_ 2 _ rfl; (with_reducible repeat (first | refine blk_drewN ?_ _ | refine blk_drew ?_ | refine blk_alloc ?_ _)); refine blk_put (cs := #[.int .i64 ((rd_T43 l1 x11_2).f0), .int .i64 0, .string (⟨#[]⟩ : ByteArray)]) ?_ 1 _ rfl; (with_reducible repeat (first | refine blk_drewN ?_ _ | refine blk_drew ?_ | refine blk_alloc ?_ _)); refine blk_put (cs := #[.int .i64 0, .int .i64 0, .string (⟨#[]⟩ : ByteArray)]) ?_ 0 _ rfl; (with_reducible repeat (first | refine blk_drewN ?_ _ | refine blk_drew ?_ | refine blk_alloc ?_ _)); exact BK170.out) hg (Kd.R_ne HO_7.out BK170.out (by decide))); have n1_ := Aside0.mk (hb); have n2_ := Aside0.mk (ho); clear BK170; clear HB; clear HO_7; have BK170 := n0_; have HB := n1_; have HO173 := n2_; clear n0_ n1_ n2_; clear ho hb hg hat))
                        go_meet
                        case rel => exact ⟨_, (y171), H', ⟨by have := HK1.out; have := HK2.out; first | omega | exact Nat.le_refl _⟩, ⟨by (with_reducible repeat (first | apply Kd.R_alloc | apply Kd.R_drewN | apply Kd.R_drew)); exact HO173.out⟩, ⟨by (with_reducible repeat (first | refine blk_drewN ?_ _ | refine blk_drew ?_ | refine blk_alloc ?_ _)); exact BK170.out⟩, ⟨by repeat (first | (with_reducible first | exact HB.out | apply below_alloc | apply pw_below_drewN | apply below_drew1 | refine below_set ?_ GE170.out) | exact HB.out)⟩⟩
                      · rw [if_neg c27] at H
                        exact absurd H (by simp)
                    · rw [if_neg c26] at H
                      have c26b0 : (((rd_T43 l1 x11_2).f0) == 1) = false := beq_eq_false_iff_ne.mpr c26
                      have c26b1 : (((rd_T43 l1 x11_2).f0) != 1) = true := bne_iff_ne.mpr c26
                      (first | rw [c26b0] | (simp only [i64_w, i32_w]; rw [c26b0]) | skip)
                      have H' := Aside0.mk H
                      clear H
                      go_wp2
                      go_meet
                      case rel => exact ⟨_, (x7_2), H', ⟨by have := HK1.out; have := HK2.out; first | omega | exact Nat.le_refl _⟩, ⟨by (with_reducible repeat (first | apply Kd.R_alloc | apply Kd.R_drewN | apply Kd.R_drew)); exact Kd.R_mono (Kd.R_far (p := ⟨gb170, 2, none⟩) (Kd.R_far (p := ⟨gb170, 1, none⟩) (Kd.R_far (p := ⟨gb170, 0, none⟩) (Kd.R_types HO_7.out BK170.out (by decide)) (fun _ hk => hk.2) (.int .i64 ((rd_T43 l1 x11_2).f0))) (fun _ hk => hk.2) (.int .i64 ((rd_T43 l1 x11_2).f1))) (fun _ hk => hk.2) (.string ((rd_T43 l1 x11_2).f2))) (fun _ hk => trivial)⟩, ⟨by (with_reducible repeat (first | refine blk_drewN ?_ _ | refine blk_drew ?_ | refine blk_alloc ?_ _)); refine blk_put (cs := #[.int .i64 ((rd_T43 l1 x11_2).f0), .int .i64 ((rd_T43 l1 x11_2).f1), .string (⟨#[]⟩ : ByteArray)]) ?_ 2 _ rfl; (with_reducible repeat (first | refine blk_drewN ?_ _ | refine blk_drew ?_ | refine blk_alloc ?_ _)); refine blk_put (cs := #[.int .i64 ((rd_T43 l1 x11_2).f0), .int .i64 0, .string (⟨#[]⟩ : ByteArray)]) ?_ 1 _ rfl; (with_reducible repeat (first | refine blk_drewN ?_ _ | refine blk_drew ?_ | refine blk_alloc ?_ _)); refine blk_put (cs := #[.int .i64 0, .int .i64 0, .string (⟨#[]⟩ : ByteArray)]) ?_ 0 _ rfl; (with_reducible repeat (first | refine blk_drewN ?_ _ | refine blk_drew ?_ | refine blk_alloc ?_ _)); exact BK170.out⟩, ⟨by repeat (first | (with_reducible first | exact HB.out | apply below_alloc | apply pw_below_drewN | apply below_drew1 | refine below_set ?_ GE170.out) | exact HB.out)⟩⟩
                  case rest =>
                    clear HC23
                    try clear c1
                    try clear p1
                    try clear q1
                    try clear hx1
                    try clear c2
                    try clear p2
                    try clear c4
                    try clear c4b0
                    try clear c4b1
                    try clear p6
                    try clear c8
                    try clear c8b0
                    try clear c10
                    try clear c10b0
                    try clear c11
                    try clear c12
                    try clear c13
                    try clear c13b0
                    try clear c14
                    try clear c14b0
                    try clear c15
                    try clear c15b0
                    try clear c15b1
                    try clear p16
                    try clear q16
                    try clear hx16
                    try clear c17
                    try clear c17b0
                    try clear c17b1
                    try clear c19
                    try clear c21
                    try clear c21b0
                    try clear c22
                    try clear c22b0
                    try clear c26
                    try clear c26b0
                    try clear c26b1
                    try clear c27
                    try clear hcz25_0
                    try clear hcz25_1
                    try clear hcz25_2
                    try clear hcz28_0
                    try clear hcz28_1
                    try clear hcz28_2
                    try clear hfz25_0
                    try clear hfz25_1
                    try clear hfz25_2
                    try clear hfz28_0
                    try clear hfz28_1
                    try clear hfz28_2
                    try clear hx165_0
                    try clear hx165_1
                    try clear hx165_2
                    try clear hx169_0
                    try clear hx169_1
                    try clear hx169_2
                    try clear p1
                    try clear p16
                    try clear p165
                    try clear p169
                    try clear p2
                    try clear p6
                    try clear q1
                    try clear q16
                    try clear q165
                    try clear q169
                    obtain ⟨kq, x7_22, HA, HJ22, HO_7, BK170, HB⟩ := hcut
                    cases kq with
                    | zero => exact absurd HA.out (by simp [haspref06_Encode.j4])
                    | succ kj22 =>
                      have H := HA.out
                      clear HA
                      simp only [haspref06_Encode.j4] at H
                      have HC30 := Aside0.mk H
                      clear H
                      go_upto_region 21 with (fail)
                      go_cut [85] (fun v85 wc => ∃ (kq : Nat) (x85_29 : Bool), v85 = .bool x85_29 ∧ Aside0 (haspref06_Encode.j5 kq l1 x7_22 x11_2 x85_29 ((rd_T43 l1 x11_2).f0) ((rd_T43 l1 x11_2).f1) ((rd_T43 l1 x11_2).f2) = some (r1, r2)) ∧ Aside0 (kq ≤ kj22) ∧ Aside0 (Kd.R (Kd.int .u8) 5 wc w.heap.size (fun _ => True) u7 x7_22) ∧ Aside0 (wc.heap[gb170]? = some (.cells #[.int .i64 ((rd_T43 l1 x11_2).f0), .int .i64 ((rd_T43 l1 x11_2).f1), .string ((rd_T43 l1 x11_2).f2)] 43 (0, 0))) ∧ Aside0 (Below w.heap.size w wc))
                      case first =>
                        have H := HC30.out
                        clear HC30
                        by_cases c31 : ((rd_T43 l1 x11_2).f0) = 2
                        · rw [if_pos c31] at H
                          have c31b0 : (((rd_T43 l1 x11_2).f0) == 2) = true := beq_iff_eq.mpr c31
                          have c31b1 : (((rd_T43 l1 x11_2).f0) != 2) = false := bne_eq_false_iff_eq.mpr c31
                          clear c31
                          (first | rw [c31b0] | (simp only [i64_w, i32_w]; rw [c31b0]) | skip)
                          have H' := Aside0.mk H
                          clear H
                          have hcz32_0 : wc.cell? ⟨gb170, 0, none⟩ = some (.int .i64 ((rd_T43 l1 x11_2).f0)) := (blk_cell BK170.out 0).trans rfl
                          have hcz32_1 : wc.cell? ⟨gb170, 1, none⟩ = some (.int .i64 ((rd_T43 l1 x11_2).f1)) := (blk_cell BK170.out 1).trans rfl
                          have hcz32_2 : wc.cell? ⟨gb170, 2, none⟩ = some (.string ((rd_T43 l1 x11_2).f2)) := (blk_cell BK170.out 2).trans rfl
                          have hfz32_0 := blk_frozen BK170.out 0
                          have hfz32_1 := blk_frozen BK170.out 1
                          have hfz32_2 := blk_frozen BK170.out 2
                          go_wp2
                          go_meet
                          case rel => exact ⟨_, (true), (by first | rfl | (simp; done) | (simp [*]; done) | (simp; exact isEmpty_bne _) | (simp [*]; exact isEmpty_bne _)), H', ⟨by have := HK1.out; have := HK2.out; have := HJ22.out; first | omega | exact Nat.le_refl _⟩, ⟨by (with_reducible repeat (first | apply Kd.R_alloc | apply Kd.R_drewN | apply Kd.R_drew)); exact HO_7.out⟩, ⟨by (with_reducible repeat (first | refine blk_drewN ?_ _ | refine blk_drew ?_ | refine blk_alloc ?_ _)); exact BK170.out⟩, ⟨by repeat (first | (with_reducible first | exact HB.out | apply below_alloc | apply pw_below_drewN | apply below_drew1 | refine below_set ?_ GE170.out) | exact HB.out)⟩⟩
                        · rw [if_neg c31] at H
                          have c31b0 : (((rd_T43 l1 x11_2).f0) == 2) = false := beq_eq_false_iff_ne.mpr c31
                          have c31b1 : (((rd_T43 l1 x11_2).f0) != 2) = true := bne_iff_ne.mpr c31
                          (first | rw [c31b0] | (simp only [i64_w, i32_w]; rw [c31b0]) | skip)
                          have H' := Aside0.mk H
                          clear H
                          have hcz33_0 : wc.cell? ⟨gb170, 0, none⟩ = some (.int .i64 ((rd_T43 l1 x11_2).f0)) := (blk_cell BK170.out 0).trans rfl
                          have hcz33_1 : wc.cell? ⟨gb170, 1, none⟩ = some (.int .i64 ((rd_T43 l1 x11_2).f1)) := (blk_cell BK170.out 1).trans rfl
                          have hcz33_2 : wc.cell? ⟨gb170, 2, none⟩ = some (.string ((rd_T43 l1 x11_2).f2)) := (blk_cell BK170.out 2).trans rfl
                          have hfz33_0 := blk_frozen BK170.out 0
                          have hfz33_1 := blk_frozen BK170.out 1
                          have hfz33_2 := blk_frozen BK170.out 2
                          go_wp2
                          go_meet
                          case rel => exact ⟨_, ((((rd_T43 l1 x11_2).f0) == 3)), (by first | rfl | (simp; done) | (simp [*]; done) | (simp; exact isEmpty_bne _) | (simp [*]; exact isEmpty_bne _)), H', ⟨by have := HK1.out; have := HK2.out; have := HJ22.out; first | omega | exact Nat.le_refl _⟩, ⟨by (with_reducible repeat (first | apply Kd.R_alloc | apply Kd.R_drewN | apply Kd.R_drew)); exact HO_7.out⟩, ⟨by (with_reducible repeat (first | refine blk_drewN ?_ _ | refine blk_drew ?_ | refine blk_alloc ?_ _)); exact BK170.out⟩, ⟨by repeat (first | (with_reducible first | exact HB.out | apply below_alloc | apply pw_below_drewN | apply below_drew1 | refine below_set ?_ GE170.out) | exact HB.out)⟩⟩
                      case rest =>
                        clear HC30
                        try clear c1
                        try clear p1
                        try clear q1
                        try clear hx1
                        try clear c2
                        try clear p2
                        try clear c3
                        try clear c4
                        try clear c4b0
                        try clear c4b1
                        try clear p6
                        try clear c8
                        try clear c8b0
                        try clear c10
                        try clear c10b0
                        try clear c11
                        try clear c12
                        try clear c13
                        try clear c13b0
                        try clear c14
                        try clear c14b0
                        try clear c15
                        try clear c15b0
                        try clear c15b1
                        try clear p16
                        try clear q16
                        try clear hx16
                        try clear c17
                        try clear c17b0
                        try clear c17b1
                        try clear c19
                        try clear c21
                        try clear c21b0
                        try clear c22
                        try clear c22b0
                        try clear c26
                        try clear c26b0
                        try clear c26b1
                        try clear c27
                        try clear c31
                        try clear c31b0
                        try clear c31b1
                        try clear hcz25_0
                        try clear hcz25_1
                        try clear hcz25_2
                        try clear hcz28_0
                        try clear hcz28_1
                        try clear hcz28_2
                        try clear hcz32_0
                        try clear hcz32_1
                        try clear hcz32_2
                        try clear hcz33_0
                        try clear hcz33_1
                        try clear hcz33_2
                        try clear hfz25_0
                        try clear hfz25_1
                        try clear hfz25_2
                        try clear hfz28_0
                        try clear hfz28_1
                        try clear hfz28_2
                        try clear hfz32_0
                        try clear hfz32_1
                        try clear hfz32_2
                        try clear hfz33_0
                        try clear hfz33_1
                        try clear hfz33_2
                        try clear hx165_0
                        try clear hx165_1
                        try clear hx165_2
                        try clear hx169_0
                        try clear hx169_1
                        try clear hx169_2
                        try clear p1
                        try clear p16
                        try clear p165
                        try clear p169
                        try clear p2
                        try clear p6
                        try clear q1
                        try clear q16
                        try clear q165
                        try clear q169
                        obtain ⟨kq, x85_29, rfl, HA, HJ29, HO_7, BK170, HB⟩ := hcut
                        cases kq with
                        | zero => exact absurd HA.out (by simp [haspref06_Encode.j5])
                        | succ kj29 =>
                          have H := HA.out
                          clear HA
                          simp only [haspref06_Encode.j5] at H
                          have HC34 := Aside0.mk H
                          clear H
                          go_upto_if 85 with (fail)
                          go_cut [7] (fun v7 wc => ∃ (kq : Nat) (x7_33 : List Int), Aside0 (haspref06_Encode.j7 kq l1 x7_33 x11_2 ((rd_T43 l1 x11_2).f0) ((rd_T43 l1 x11_2).f1) ((rd_T43 l1 x11_2).f2) = some (r1, r2)) ∧ Aside0 (kq ≤ kj29) ∧ Aside0 (Kd.R (Kd.int .u8) 5 wc w.heap.size (fun _ => True) v7 x7_33) ∧ Aside0 (wc.heap[gb170]? = some (.cells #[.int .i64 ((rd_T43 l1 x11_2).f0), .int .i64 ((rd_T43 l1 x11_2).f1), .string ((rd_T43 l1 x11_2).f2)] 43 (0, 0))) ∧ Aside0 (Below w.heap.size w wc))
                          case first =>
                            have H := HC34.out
                            clear HC34
                            by_cases c35 : x85_29 = true
                            · subst c35
                              have H1 : (haspref06_Encode.l3 kj29 l1 x7_22 x11_2 0 ((rd_T43 l1 x11_2).f0) ((rd_T43 l1 x11_2).f1) ((rd_T43 l1 x11_2).f2)) = some (r1, r2) := by rw [if_pos rfl] at H; exact H
                              clear H
                              have H := H1
                              clear H1
                              have H' := Aside0.mk H
                              clear H
                              go_wp2
                              go_loopg [7, 13] kj29 (fun kq v7 v13 w' => ∃ (x7_5 : List Int) (x13_5 : Int), v13 = .int .i64 x13_5 ∧ Aside0 (haspref06_Encode.l3 kq l1 x7_5 x11_2 x13_5 ((rd_T43 l1 x11_2).f0) ((rd_T43 l1 x11_2).f1) ((rd_T43 l1 x11_2).f2) = some (r1, r2)) ∧ Aside0 (kq ≤ kj29) ∧ Aside0 (Kd.R (Kd.int .u8) 5 w' w.heap.size (fun _ => True) v7 x7_5) ∧ Aside0 (w'.heap[gb170]? = some (.cells #[.int .i64 ((rd_T43 l1 x11_2).f0), .int .i64 ((rd_T43 l1 x11_2).f1), .string ((rd_T43 l1 x11_2).f2)] 43 (0, 0))) ∧ Aside0 (Below w.heap.size w w'))
                              case atStart => exact ⟨(x7_22), (0), (by first | rfl | (simp; done) | (simp [*]; done) | (simp; exact isEmpty_bne _) | (simp [*]; exact isEmpty_bne _)), H', ⟨Nat.le_refl _⟩, ⟨by (with_reducible repeat (first | apply Kd.R_alloc | apply Kd.R_drewN | apply Kd.R_drew)); exact HO_7.out⟩, ⟨by (with_reducible repeat (first | refine blk_drewN ?_ _ | refine blk_drew ?_ | refine blk_alloc ?_ _)); exact BK170.out⟩, ⟨by repeat (first | (with_reducible first | exact HB.out | apply below_alloc | apply pw_below_drewN | apply below_drew1 | refine below_set ?_ GE170.out) | exact HB.out)⟩⟩
                              case round =>
                                clear H'
                                try clear c1
                                try clear p1
                                try clear q1
                                try clear hx1
                                try clear c2
                                try clear p2
                                try clear c3
                                try clear c4
                                try clear c4b0
                                try clear c4b1
                                try clear p6
                                try clear c8
                                try clear c8b0
                                try clear c10
                                try clear c10b0
                                try clear c11
                                try clear c12
                                try clear c13
                                try clear c13b0
                                try clear c14
                                try clear c14b0
                                try clear c15
                                try clear c15b0
                                try clear c15b1
                                try clear p16
                                try clear q16
                                try clear hx16
                                try clear c17
                                try clear c17b0
                                try clear c17b1
                                try clear c19
                                try clear c21
                                try clear c21b0
                                try clear c22
                                try clear c22b0
                                try clear c26
                                try clear c26b0
                                try clear c26b1
                                try clear c27
                                try clear c31
                                try clear c31b0
                                try clear c31b1
                                try clear c35
                                try clear hcz25_0
                                try clear hcz25_1
                                try clear hcz25_2
                                try clear hcz28_0
                                try clear hcz28_1
                                try clear hcz28_2
                                try clear hcz32_0
                                try clear hcz32_1
                                try clear hcz32_2
                                try clear hcz33_0
                                try clear hcz33_1
                                try clear hcz33_2
                                try clear hfz25_0
                                try clear hfz25_1
                                try clear hfz25_2
                                try clear hfz28_0
                                try clear hfz28_1
                                try clear hfz28_2
                                try clear hfz32_0
                                try clear hfz32_1
                                try clear hfz32_2
                                try clear hfz33_0
                                try clear hfz33_1
                                try clear hfz33_2
                                try clear hx165_0
                                try clear hx165_1
                                try clear hx165_2
                                try clear hx169_0
                                try clear hx169_1
                                try clear hx169_2
                                try clear p1
                                try clear p16
                                try clear p165
                                try clear p169
                                try clear p2
                                try clear p6
                                try clear q1
                                try clear q16
                                try clear q165
                                try clear q169
                                obtain ⟨x7_5, x13_5, rfl, HA, HK5, HO_7, BK170, HB⟩ := hrel
                                cases gk with
                                | zero => exact absurd HA.out (by simp [haspref06_Encode.l3])
                                | succ k5 =>
                                  have H := HA.out
                                  clear HA
                                  simp only [haspref06_Encode.l3] at H
                                  by_cases c36 : x13_5 < 64
                                  · rw [if_pos c36] at H
                                    have c36b0 : decide (x13_5 < 64) = true := decide_eq_true c36
                                    clear c36
                                    (first | rw [c36b0] | (simp only [i64_w, i32_w]; rw [c36b0]) | skip)
                                    obtain ⟨ji37, hji37⟩ : ∃ j_ : Int, (IntKind.u64.wrap (x13_5)) = j_ := ⟨_, rfl⟩
                                    replace H : (if 0 ≤ (ji37) then (if x7_5.length < 140737488355328 then (haspref06_Encode.l3 k5 l1 (x7_5 ++ [(shr .u64 (IntKind.u64.wrap (((rd_T43 l1 x11_2).f1))) (ji37)) % 256]) x11_2 (wrap64 (x13_5 + 8)) ((rd_T43 l1 x11_2).f0) ((rd_T43 l1 x11_2).f1) ((rd_T43 l1 x11_2).f2)) else (none)) else (none)) = some (r1, r2) := by first | (rw [hji37] at H; exact H) | (simp only [hji37] at H ⊢; exact H)
                                    by_cases c38 : 0 ≤ (ji37)
                                    · rw [if_pos c38] at H
                                      have c38b0 := eq_true c38
                                      have c38b1 : decide (0 ≤ (ji37)) = true := decide_eq_true c38
                                      clear c38
                                      obtain ⟨ji39, hji39⟩ : ∃ j_ : Int, (shr .u64 (IntKind.u64.wrap (((rd_T43 l1 x11_2).f1))) (ji37)) = j_ := ⟨_, rfl⟩
                                      replace H : (if x7_5.length < 140737488355328 then (haspref06_Encode.l3 k5 l1 (x7_5 ++ [(ji39) % 256]) x11_2 (wrap64 (x13_5 + 8)) ((rd_T43 l1 x11_2).f0) ((rd_T43 l1 x11_2).f1) ((rd_T43 l1 x11_2).f2)) else (none)) = some (r1, r2) := by first | (rw [hji39] at H; exact H) | (simp only [hji39] at H ⊢; exact H)
                                      have hji39_ : ((IntKind.u64.wrap (((rd_T43 l1 x11_2).f1))) / 2 ^ min (ji37).toNat 64) = ji39 := hji39
                                      have hji39z : (ji37) ≤ 64 → ((IntKind.u64.wrap (((rd_T43 l1 x11_2).f1))) / 2 ^ (ji37).toNat) = ji39 := shr_small hji39
                                      by_cases c40 : x7_5.length < 140737488355328
                                      · rw [if_pos c40] at H
                                        have LMc40 := Aside0.mk c40
                                        clear c40
                                        obtain ⟨y174, hy174⟩ : ∃ y_ : List Int, y_ = (x7_5 ++ [(ji39) % 256]) := ⟨_, rfl⟩
                                        replace H : (haspref06_Encode.l3 k5 l1 y174 x11_2 (wrap64 (x13_5 + 8)) ((rd_T43 l1 x11_2).f0) ((rd_T43 l1 x11_2).f1) ((rd_T43 l1 x11_2).f2)) = some (r1, r2) := by first | (rw [hy174]; with_reducible exact H) | (have H2_ := (Option.bind_some _ _).symm.trans H; rw [hy174]; with_reducible exact H2_) | (have H2_ := (Option.bind_some _ _).symm.trans H; with_reducible exact H2_) | with_reducible exact H | (rw [hy174]; exact H) | exact H
                                        have Ny174 := Aside0.mk hy174
                                        clear hy174
                                        have H' := Aside0.mk H
                                        clear H
                                        have hcz41_0 : wr.cell? ⟨gb170, 0, none⟩ = some (.int .i64 ((rd_T43 l1 x11_2).f0)) := (blk_cell BK170.out 0).trans rfl
                                        have hcz41_1 : wr.cell? ⟨gb170, 1, none⟩ = some (.int .i64 ((rd_T43 l1 x11_2).f1)) := (blk_cell BK170.out 1).trans rfl
                                        have hcz41_2 : wr.cell? ⟨gb170, 2, none⟩ = some (.string ((rd_T43 l1 x11_2).f2)) := (blk_cell BK170.out 2).trans rfl
                                        have hfz41_0 := blk_frozen BK170.out 0
                                        have hfz41_1 := blk_frozen BK170.out 1
                                        have hfz41_2 := blk_frozen BK170.out 2
                                        go_wp2_with (first | ((with_reducible refine gate_builtin (b := .append) (xs := #[.tmp 90, .tmp 98]) rfl ?_); (try (refine gate_guard (by rfl) ?_; dsimp only)); at_builtin; refine Kd.R_append (Kd.int .u8) (w0 := w) w.heap.size rfl (.tmp 90) (.tmp 98) 27 5 (.int .u8 0) 1 rfl Try.underlying27 info5 rfl (by decide) (by omega) u7 x7_5 ((ji39) % 256) [.int .u8 ((ji39) % 256)] (fun _ => True) (fun _ => False) rfl rfl ?aP (fun _ hk => hk.elim) ?aF ?aO ?aB ?aS ?aL ?_; (case aP => exact rfl); (case aB => exact (by repeat (first | (with_reducible first | exact HB.out | apply below_alloc | apply pw_below_drewN | apply below_drew1 | refine below_set ?_ GE170.out) | exact HB.out))); (case aF => exact (fun _ _ => trivial)); (case aO => exact (by (with_reducible repeat (first | apply Kd.R_alloc | apply Kd.R_drewN | apply Kd.R_drew)); exact HO_7.out)); (case aS => exact (below_size (by repeat (first | (with_reducible first | exact HB.out | apply below_alloc | apply pw_below_drewN | apply below_drew1 | refine below_set ?_ GE170.out) | exact HB.out)))); (case aL => have := LMc40.out; omega); intro v175 w42 ho hb hg hat; rw [← Ny174.out] at ho; have n0_ := Aside0.mk (blk_grown (g := gb170) (o := .cells #[.int .i64 ((rd_T43 l1 x11_2).f0), .int .i64 ((rd_T43 l1 x11_2).f1), .string ((rd_T43 l1 x11_2).f2)] 43 (0, 0)) (by (with_reducible repeat (first | refine blk_drewN ?_ _ | refine blk_drew ?_ | refine blk_alloc ?_ _)); exact BK170.out) hg (Kd.R_ne HO_7.out BK170.out (by decide))); have n1_ := Aside0.mk (hb); have n2_ := Aside0.mk (ho); clear BK170; clear HB; clear HO_7; have BK170 := n0_; have HB := n1_; have HO176 := n2_; clear n0_ n1_ n2_; clear ho hb hg hat))
                                        go_roundg k5
                                        case measure => have := HK1.out; have := HK2.out; have := HJ22.out; have := HJ29.out; have := HK5.out; omega
                                        case rel => exact ⟨(y174), (wrap64 (x13_5 + 8)), (by first | rfl | (simp; done) | (simp [*]; done) | (simp; exact isEmpty_bne _) | (simp [*]; exact isEmpty_bne _)), H', ⟨by have := HK1.out; have := HK2.out; have := HJ22.out; have := HJ29.out; have := HK5.out; omega⟩, ⟨by (with_reducible repeat (first | apply Kd.R_alloc | apply Kd.R_drewN | apply Kd.R_drew)); exact HO176.out⟩, ⟨by (with_reducible repeat (first | refine blk_drewN ?_ _ | refine blk_drew ?_ | refine blk_alloc ?_ _)); exact BK170.out⟩, ⟨by repeat (first | (with_reducible first | exact HB.out | apply below_alloc | apply pw_below_drewN | apply below_drew1 | refine below_set ?_ GE170.out) | exact HB.out)⟩⟩
                                      · rw [if_neg c40] at H
                                        exact absurd H (by simp)
                                    · rw [if_neg c38] at H
                                      exact absurd H (by simp)
                                  · rw [if_neg c36] at H
                                    have c36b0 : decide (x13_5 < 64) = false := decide_eq_false c36
                                    clear c36
                                    (first | rw [c36b0] | (simp only [i64_w, i32_w]; rw [c36b0]) | skip)
                                    have H' := Aside0.mk H
                                    clear H
                                    go_wp2
                                    go_meet
                                    case rel => exact ⟨_, (x7_5), H', ⟨by have := HK1.out; have := HK2.out; have := HJ22.out; have := HJ29.out; have := HK5.out; first | omega | exact Nat.le_refl _⟩, ⟨by (with_reducible repeat (first | apply Kd.R_alloc | apply Kd.R_drewN | apply Kd.R_drew)); exact HO_7.out⟩, ⟨by (with_reducible repeat (first | refine blk_drewN ?_ _ | refine blk_drew ?_ | refine blk_alloc ?_ _)); exact BK170.out⟩, ⟨by repeat (first | (with_reducible first | exact HB.out | apply below_alloc | apply pw_below_drewN | apply below_drew1 | refine below_set ?_ GE170.out) | exact HB.out)⟩⟩
                            · replace c35 := Bool.eq_false_iff.mpr c35
                              subst c35
                              have H1 : (haspref06_Encode.j7 kj29 l1 x7_22 x11_2 ((rd_T43 l1 x11_2).f0) ((rd_T43 l1 x11_2).f1) ((rd_T43 l1 x11_2).f2)) = some (r1, r2) := by rw [if_neg (show ¬ (false = true) by decide)] at H; exact H
                              clear H
                              have H := H1
                              clear H1
                              have H' := Aside0.mk H
                              clear H
                              go_wp2
                              go_meet
                              case rel => exact ⟨_, (x7_22), H', ⟨by have := HK1.out; have := HK2.out; have := HJ22.out; have := HJ29.out; first | omega | exact Nat.le_refl _⟩, ⟨by (with_reducible repeat (first | apply Kd.R_alloc | apply Kd.R_drewN | apply Kd.R_drew)); exact HO_7.out⟩, ⟨by (with_reducible repeat (first | refine blk_drewN ?_ _ | refine blk_drew ?_ | refine blk_alloc ?_ _)); exact BK170.out⟩, ⟨by repeat (first | (with_reducible first | exact HB.out | apply below_alloc | apply pw_below_drewN | apply below_drew1 | refine below_set ?_ GE170.out) | exact HB.out)⟩⟩
                          case rest =>
                            clear HC34
                            try clear c1
                            try clear p1
                            try clear q1
                            try clear hx1
                            try clear c2
                            try clear p2
                            try clear c3
                            try clear c4
                            try clear c4b0
                            try clear c4b1
                            try clear p6
                            try clear c8
                            try clear c8b0
                            try clear c10
                            try clear c10b0
                            try clear c11
                            try clear c12
                            try clear c13
                            try clear c13b0
                            try clear c14
                            try clear c14b0
                            try clear c15
                            try clear c15b0
                            try clear c15b1
                            try clear p16
                            try clear q16
                            try clear hx16
                            try clear c17
                            try clear c17b0
                            try clear c17b1
                            try clear c19
                            try clear c21
                            try clear c21b0
                            try clear c22
                            try clear c22b0
                            try clear c26
                            try clear c26b0
                            try clear c26b1
                            try clear c27
                            try clear c31
                            try clear c31b0
                            try clear c31b1
                            try clear c35
                            try clear c36
                            try clear c36b0
                            try clear c38
                            try clear c38b0
                            try clear c38b1
                            try clear c40
                            try clear hcz25_0
                            try clear hcz25_1
                            try clear hcz25_2
                            try clear hcz28_0
                            try clear hcz28_1
                            try clear hcz28_2
                            try clear hcz32_0
                            try clear hcz32_1
                            try clear hcz32_2
                            try clear hcz33_0
                            try clear hcz33_1
                            try clear hcz33_2
                            try clear hcz41_0
                            try clear hcz41_1
                            try clear hcz41_2
                            try clear hfz25_0
                            try clear hfz25_1
                            try clear hfz25_2
                            try clear hfz28_0
                            try clear hfz28_1
                            try clear hfz28_2
                            try clear hfz32_0
                            try clear hfz32_1
                            try clear hfz32_2
                            try clear hfz33_0
                            try clear hfz33_1
                            try clear hfz33_2
                            try clear hfz41_0
                            try clear hfz41_1
                            try clear hfz41_2
                            try clear hx165_0
                            try clear hx165_1
                            try clear hx165_2
                            try clear hx169_0
                            try clear hx169_1
                            try clear hx169_2
                            try clear p1
                            try clear p16
                            try clear p165
                            try clear p169
                            try clear p2
                            try clear p6
                            try clear q1
                            try clear q16
                            try clear q165
                            try clear q169
                            obtain ⟨kq, x7_33, HA, HJ33, HO_7, BK170, HB⟩ := hcut
                            cases kq with
                            | zero => exact absurd HA.out (by simp [haspref06_Encode.j7])
                            | succ kj33 =>
                              have H := HA.out
                              clear HA
                              simp only [haspref06_Encode.j7] at H
                              by_cases c43 : ((rd_T43 l1 x11_2).f0) = 4
                              · rw [if_pos c43] at H
                                have c43b0 : (((rd_T43 l1 x11_2).f0) == 4) = true := beq_iff_eq.mpr c43
                                have c43b1 : (((rd_T43 l1 x11_2).f0) != 4) = false := bne_eq_false_iff_eq.mpr c43
                                clear c43
                                by_cases c44 : x7_33.length < 140737488355328
                                · rw [if_pos c44] at H
                                  have LMc44 := Aside0.mk c44
                                  clear c44
                                  obtain ⟨y177, hy177⟩ : ∃ y_ : List Int, y_ = (x7_33 ++ [((((rd_T43 l1 x11_2).f2).size : Int)) % 256]) := ⟨_, rfl⟩
                                  replace H : (haspref06_Encode.l4 kj33 l1 y177 x11_2 0 ((rd_T43 l1 x11_2).f0) ((rd_T43 l1 x11_2).f1) ((rd_T43 l1 x11_2).f2)) = some (r1, r2) := by first | (rw [hy177]; with_reducible exact H) | (have H2_ := (Option.bind_some _ _).symm.trans H; rw [hy177]; with_reducible exact H2_) | (have H2_ := (Option.bind_some _ _).symm.trans H; with_reducible exact H2_) | with_reducible exact H | (rw [hy177]; exact H) | exact H
                                  have Ny177 := Aside0.mk hy177
                                  clear hy177
                                  have H' := Aside0.mk H
                                  clear H
                                  have hcz45_0 : wc.cell? ⟨gb170, 0, none⟩ = some (.int .i64 ((rd_T43 l1 x11_2).f0)) := (blk_cell BK170.out 0).trans rfl
                                  have hcz45_1 : wc.cell? ⟨gb170, 1, none⟩ = some (.int .i64 ((rd_T43 l1 x11_2).f1)) := (blk_cell BK170.out 1).trans rfl
                                  have hcz45_2 : wc.cell? ⟨gb170, 2, none⟩ = some (.string ((rd_T43 l1 x11_2).f2)) := (blk_cell BK170.out 2).trans rfl
                                  have hfz45_0 := blk_frozen BK170.out 0
                                  have hfz45_1 := blk_frozen BK170.out 1
                                  have hfz45_2 := blk_frozen BK170.out 2
                                  go_wp2_with (first | ((with_reducible refine gate_builtin (b := .append) (xs := #[.tmp 103, .tmp 108]) rfl ?_); (try (refine gate_guard (by rfl) ?_; dsimp only)); at_builtin; refine Kd.R_append (Kd.int .u8) (w0 := w) w.heap.size rfl (.tmp 103) (.tmp 108) 27 5 (.int .u8 0) 1 rfl Try.underlying27 info5 rfl (by decide) (by omega) u7 x7_33 (((((rd_T43 l1 x11_2).f2).size : Int)) % 256) [.int .u8 (((((rd_T43 l1 x11_2).f2).size : Int)) % 256)] (fun _ => True) (fun _ => False) rfl rfl ?aP (fun _ hk => hk.elim) ?aF ?aO ?aB ?aS ?aL ?_; (case aP => exact rfl); (case aB => exact (by repeat (first | (with_reducible first | exact HB.out | apply below_alloc | apply pw_below_drewN | apply below_drew1 | refine below_set ?_ GE170.out) | exact HB.out))); (case aF => exact (fun _ _ => trivial)); (case aO => exact (by (with_reducible repeat (first | apply Kd.R_alloc | apply Kd.R_drewN | apply Kd.R_drew)); exact HO_7.out)); (case aS => exact (below_size (by repeat (first | (with_reducible first | exact HB.out | apply below_alloc | apply pw_below_drewN | apply below_drew1 | refine below_set ?_ GE170.out) | exact HB.out)))); (case aL => have := LMc44.out; omega); intro v178 w46 ho hb hg hat; rw [← Ny177.out] at ho; have n0_ := Aside0.mk (blk_grown (g := gb170) (o := .cells #[.int .i64 ((rd_T43 l1 x11_2).f0), .int .i64 ((rd_T43 l1 x11_2).f1), .string ((rd_T43 l1 x11_2).f2)] 43 (0, 0)) (by (with_reducible repeat (first | refine blk_drewN ?_ _ | refine blk_drew ?_ | refine blk_alloc ?_ _)); exact BK170.out) hg (Kd.R_ne HO_7.out BK170.out (by decide))); have n1_ := Aside0.mk (hb); have n2_ := Aside0.mk (ho); clear BK170; clear HB; clear HO_7; have BK170 := n0_; have HB := n1_; have HO179 := n2_; clear n0_ n1_ n2_; clear ho hb hg hat))
                                  go_loopg [7, 14] kj33 (fun kq v7 v14 w' => ∃ (x7_6 : List Int) (x14_6 : Int), v14 = .int .i64 x14_6 ∧ Aside0 (haspref06_Encode.l4 kq l1 x7_6 x11_2 x14_6 ((rd_T43 l1 x11_2).f0) ((rd_T43 l1 x11_2).f1) ((rd_T43 l1 x11_2).f2) = some (r1, r2)) ∧ Aside0 (kq ≤ kj33) ∧ Aside0 (Kd.R (Kd.int .u8) 5 w' w.heap.size (fun _ => True) v7 x7_6) ∧ Aside0 (w'.heap[gb170]? = some (.cells #[.int .i64 ((rd_T43 l1 x11_2).f0), .int .i64 ((rd_T43 l1 x11_2).f1), .string ((rd_T43 l1 x11_2).f2)] 43 (0, 0))) ∧ Aside0 (Below w.heap.size w w'))
                                  case atStart => exact ⟨(y177), (0), (by first | rfl | (simp; done) | (simp [*]; done) | (simp; exact isEmpty_bne _) | (simp [*]; exact isEmpty_bne _)), H', ⟨Nat.le_refl _⟩, ⟨by (with_reducible repeat (first | apply Kd.R_alloc | apply Kd.R_drewN | apply Kd.R_drew)); exact HO179.out⟩, ⟨by (with_reducible repeat (first | refine blk_drewN ?_ _ | refine blk_drew ?_ | refine blk_alloc ?_ _)); exact BK170.out⟩, ⟨by repeat (first | (with_reducible first | exact HB.out | apply below_alloc | apply pw_below_drewN | apply below_drew1 | refine below_set ?_ GE170.out) | exact HB.out)⟩⟩
                                  case round =>
                                    clear H'
                                    try clear c1
                                    try clear p1
                                    try clear q1
                                    try clear hx1
                                    try clear c2
                                    try clear p2
                                    try clear c3
                                    try clear c4
                                    try clear c4b0
                                    try clear c4b1
                                    try clear p6
                                    try clear c8
                                    try clear c8b0
                                    try clear c10
                                    try clear c10b0
                                    try clear c11
                                    try clear c12
                                    try clear c13
                                    try clear c13b0
                                    try clear c14
                                    try clear c14b0
                                    try clear c15
                                    try clear c15b0
                                    try clear c15b1
                                    try clear p16
                                    try clear q16
                                    try clear hx16
                                    try clear c17
                                    try clear c17b0
                                    try clear c17b1
                                    try clear c19
                                    try clear c21
                                    try clear c21b0
                                    try clear c22
                                    try clear c22b0
                                    try clear c26
                                    try clear c26b0
                                    try clear c26b1
                                    try clear c27
                                    try clear c31
                                    try clear c31b0
                                    try clear c31b1
                                    try clear c35
                                    try clear c36
                                    try clear c36b0
                                    try clear c38
                                    try clear c38b0
                                    try clear c38b1
                                    try clear c40
                                    try clear c43
                                    try clear c43b0
                                    try clear c43b1
                                    try clear c44
                                    try clear hcz25_0
                                    try clear hcz25_1
                                    try clear hcz25_2
                                    try clear hcz28_0
                                    try clear hcz28_1
                                    try clear hcz28_2
                                    try clear hcz32_0
                                    try clear hcz32_1
                                    try clear hcz32_2
                                    try clear hcz33_0
                                    try clear hcz33_1
                                    try clear hcz33_2
                                    try clear hcz41_0
                                    try clear hcz41_1
                                    try clear hcz41_2
                                    try clear hcz45_0
                                    try clear hcz45_1
                                    try clear hcz45_2
                                    try clear hfz25_0
                                    try clear hfz25_1
                                    try clear hfz25_2
                                    try clear hfz28_0
                                    try clear hfz28_1
                                    try clear hfz28_2
                                    try clear hfz32_0
                                    try clear hfz32_1
                                    try clear hfz32_2
                                    try clear hfz33_0
                                    try clear hfz33_1
                                    try clear hfz33_2
                                    try clear hfz41_0
                                    try clear hfz41_1
                                    try clear hfz41_2
                                    try clear hfz45_0
                                    try clear hfz45_1
                                    try clear hfz45_2
                                    try clear hx165_0
                                    try clear hx165_1
                                    try clear hx165_2
                                    try clear hx169_0
                                    try clear hx169_1
                                    try clear hx169_2
                                    try clear p1
                                    try clear p16
                                    try clear p165
                                    try clear p169
                                    try clear p2
                                    try clear p6
                                    try clear q1
                                    try clear q16
                                    try clear q165
                                    try clear q169
                                    obtain ⟨x7_6, x14_6, rfl, HA, HK6, HO_7, BK170, HB⟩ := hrel
                                    cases gk with
                                    | zero => exact absurd HA.out (by simp [haspref06_Encode.l4])
                                    | succ k6 =>
                                      have H := HA.out
                                      clear HA
                                      simp only [haspref06_Encode.l4] at H
                                      by_cases c47 : x14_6 < (((rd_T43 l1 x11_2).f2).size : Int)
                                      · rw [if_pos c47] at H
                                        have c47b0 : decide (x14_6 < (((rd_T43 l1 x11_2).f2).size : Int)) = true := decide_eq_true c47
                                        clear c47
                                        by_cases c48 : 0 ≤ x14_6
                                        · rw [if_pos c48] at H
                                          have c48b0 : decide (0 ≤ x14_6) = true := decide_eq_true c48
                                          clear c48
                                          by_cases c50 : x7_6.length < 140737488355328
                                          · rw [if_pos c50] at H
                                            have LMc50 := Aside0.mk c50
                                            clear c50
                                            obtain ⟨y180, hy180⟩ : ∃ y_ : List Int, y_ = (x7_6 ++ [bt ((rd_T43 l1 x11_2).f2) x14_6]) := ⟨_, rfl⟩
                                            replace H : (haspref06_Encode.l4 k6 l1 y180 x11_2 (wrap64 (x14_6 + 1)) ((rd_T43 l1 x11_2).f0) ((rd_T43 l1 x11_2).f1) ((rd_T43 l1 x11_2).f2)) = some (r1, r2) := by first | (rw [hy180]; with_reducible exact H) | (have H2_ := (Option.bind_some _ _).symm.trans H; rw [hy180]; with_reducible exact H2_) | (have H2_ := (Option.bind_some _ _).symm.trans H; with_reducible exact H2_) | with_reducible exact H | (rw [hy180]; exact H) | exact H
                                            have Ny180 := Aside0.mk hy180
                                            clear hy180
                                            have H' := Aside0.mk H
                                            clear H
                                            have hcz51_0 : wr.cell? ⟨gb170, 0, none⟩ = some (.int .i64 ((rd_T43 l1 x11_2).f0)) := (blk_cell BK170.out 0).trans rfl
                                            have hcz51_1 : wr.cell? ⟨gb170, 1, none⟩ = some (.int .i64 ((rd_T43 l1 x11_2).f1)) := (blk_cell BK170.out 1).trans rfl
                                            have hcz51_2 : wr.cell? ⟨gb170, 2, none⟩ = some (.string ((rd_T43 l1 x11_2).f2)) := (blk_cell BK170.out 2).trans rfl
                                            have hfz51_0 := blk_frozen BK170.out 0
                                            have hfz51_1 := blk_frozen BK170.out 1
                                            have hfz51_2 := blk_frozen BK170.out 2
                                            have p49 : 0 ≤ (x14_6 : Int) := of_decide_eq_true (by first | (with_reducible assumption) | assumption)
                                            have q49 : x14_6 < (((rd_T43 l1 x11_2).f2).size : Int) := of_decide_eq_true (by first | (with_reducible assumption) | assumption)
                                            have hx49 := bt_at ((rd_T43 l1 x11_2).f2) x14_6
                                            replace p49 := eq_true p49
                                            replace q49 := eq_true q49
                                            go_wp2_with (first | ((with_reducible refine gate_builtin (b := .append) (xs := #[.tmp 117, .tmp 122]) rfl ?_); (try (refine gate_guard (by rfl) ?_; dsimp only)); at_builtin; refine Kd.R_append (Kd.int .u8) (w0 := w) w.heap.size rfl (.tmp 117) (.tmp 122) 27 5 (.int .u8 0) 1 rfl Try.underlying27 info5 rfl (by decide) (by omega) u7 x7_6 (bt ((rd_T43 l1 x11_2).f2) x14_6) [.int .u8 (bt ((rd_T43 l1 x11_2).f2) x14_6)] (fun _ => True) (fun _ => False) rfl rfl ?aP (fun _ hk => hk.elim) ?aF ?aO ?aB ?aS ?aL ?_; (case aP => exact rfl); (case aB => exact (by repeat (first | (with_reducible first | exact HB.out | apply below_alloc | apply pw_below_drewN | apply below_drew1 | refine below_set ?_ GE170.out) | exact HB.out))); (case aF => exact (fun _ _ => trivial)); (case aO => exact (by (with_reducible repeat (first | apply Kd.R_alloc | apply Kd.R_drewN | apply Kd.R_drew)); exact HO_7.out)); (case aS => exact (below_size (by repeat (first | (with_reducible first | exact HB.out | apply below_alloc | apply pw_below_drewN | apply below_drew1 | refine below_set ?_ GE170.out) | exact HB.out)))); (case aL => have := LMc50.out; omega); intro v181 w52 ho hb hg hat; rw [← Ny180.out] at ho; have n0_ := Aside0.mk (blk_grown (g := gb170) (o := .cells #[.int .i64 ((rd_T43 l1 x11_2).f0), .int .i64 ((rd_T43 l1 x11_2).f1), .string ((rd_T43 l1 x11_2).f2)] 43 (0, 0)) (by (with_reducible repeat (first | refine blk_drewN ?_ _ | refine blk_drew ?_ | refine blk_alloc ?_ _)); exact BK170.out) hg (Kd.R_ne HO_7.out BK170.out (by decide))); have n1_ := Aside0.mk (hb); have n2_ := Aside0.mk (ho); clear BK170; clear HB; clear HO_7; have BK170 := n0_; have HB := n1_; have HO182 := n2_; clear n0_ n1_ n2_; clear ho hb hg hat))
                                            go_roundg k6
                                            case measure => have := HK1.out; have := HK2.out; have := HJ22.out; have := HJ29.out; have := HJ33.out; have := HK6.out; omega
                                            case rel => exact ⟨(y180), (wrap64 (x14_6 + 1)), (by first | rfl | (simp; done) | (simp [*]; done) | (simp; exact isEmpty_bne _) | (simp [*]; exact isEmpty_bne _)), H', ⟨by have := HK1.out; have := HK2.out; have := HJ22.out; have := HJ29.out; have := HJ33.out; have := HK6.out; omega⟩, ⟨by (with_reducible repeat (first | apply Kd.R_alloc | apply Kd.R_drewN | apply Kd.R_drew)); exact HO182.out⟩, ⟨by (with_reducible repeat (first | refine blk_drewN ?_ _ | refine blk_drew ?_ | refine blk_alloc ?_ _)); exact BK170.out⟩, ⟨by repeat (first | (with_reducible first | exact HB.out | apply below_alloc | apply pw_below_drewN | apply below_drew1 | refine below_set ?_ GE170.out) | exact HB.out)⟩⟩
                                          · rw [if_neg c50] at H
                                            exact absurd H (by simp)
                                        · rw [if_neg c48] at H
                                          exact absurd H (by simp)
                                      · rw [if_neg c47] at H
                                        have c47b0 : decide (x14_6 < (((rd_T43 l1 x11_2).f2).size : Int)) = false := decide_eq_false c47
                                        clear c47
                                        have H' := Aside0.mk H
                                        clear H
                                        have hcz53_0 : wr.cell? ⟨gb170, 0, none⟩ = some (.int .i64 ((rd_T43 l1 x11_2).f0)) := (blk_cell BK170.out 0).trans rfl
                                        have hcz53_1 : wr.cell? ⟨gb170, 1, none⟩ = some (.int .i64 ((rd_T43 l1 x11_2).f1)) := (blk_cell BK170.out 1).trans rfl
                                        have hcz53_2 : wr.cell? ⟨gb170, 2, none⟩ = some (.string ((rd_T43 l1 x11_2).f2)) := (blk_cell BK170.out 2).trans rfl
                                        have hfz53_0 := blk_frozen BK170.out 0
                                        have hfz53_1 := blk_frozen BK170.out 1
                                        have hfz53_2 := blk_frozen BK170.out 2
                                        go_wp2
                                        go_roundg k6
                                        case measure => have := HK1.out; have := HK2.out; have := HJ22.out; have := HJ29.out; have := HJ33.out; have := HK6.out; omega
                                        case rel => exact ⟨(x7_6), (wrap64 (x11_2 + 1)), (by first | rfl | (simp; done) | (simp [*]; done) | (simp; exact isEmpty_bne _) | (simp [*]; exact isEmpty_bne _)), H', ⟨by have := HK1.out; have := HK2.out; have := HJ22.out; have := HJ29.out; have := HJ33.out; have := HK6.out; omega⟩, ⟨by (with_reducible repeat (first | apply Kd.R_alloc | apply Kd.R_drewN | apply Kd.R_drew)); exact HO_7.out⟩, ⟨by repeat (first | (with_reducible first | exact HB.out | apply below_alloc | apply pw_below_drewN | apply below_drew1 | refine below_set ?_ GE170.out) | exact HB.out)⟩⟩
                                · rw [if_neg c44] at H
                                  exact absurd H (by simp)
                              · rw [if_neg c43] at H
                                have c43b0 : (((rd_T43 l1 x11_2).f0) == 4) = false := beq_eq_false_iff_ne.mpr c43
                                have c43b1 : (((rd_T43 l1 x11_2).f0) != 4) = true := bne_iff_ne.mpr c43
                                have H' := Aside0.mk H
                                clear H
                                have hcz54_0 : wc.cell? ⟨gb170, 0, none⟩ = some (.int .i64 ((rd_T43 l1 x11_2).f0)) := (blk_cell BK170.out 0).trans rfl
                                have hcz54_1 : wc.cell? ⟨gb170, 1, none⟩ = some (.int .i64 ((rd_T43 l1 x11_2).f1)) := (blk_cell BK170.out 1).trans rfl
                                have hcz54_2 : wc.cell? ⟨gb170, 2, none⟩ = some (.string ((rd_T43 l1 x11_2).f2)) := (blk_cell BK170.out 2).trans rfl
                                have hfz54_0 := blk_frozen BK170.out 0
                                have hfz54_1 := blk_frozen BK170.out 1
                                have hfz54_2 := blk_frozen BK170.out 2
                                go_wp2
                                go_roundg kj33
                                case measure => have := HK1.out; have := HK2.out; have := HJ22.out; have := HJ29.out; have := HJ33.out; omega
                                case rel => exact ⟨(x7_33), (wrap64 (x11_2 + 1)), (by first | rfl | (simp; done) | (simp [*]; done) | (simp; exact isEmpty_bne _) | (simp [*]; exact isEmpty_bne _)), H', ⟨by have := HK1.out; have := HK2.out; have := HJ22.out; have := HJ29.out; have := HJ33.out; omega⟩, ⟨by (with_reducible repeat (first | apply Kd.R_alloc | apply Kd.R_drewN | apply Kd.R_drew)); exact HO_7.out⟩, ⟨by repeat (first | (with_reducible first | exact HB.out | apply below_alloc | apply pw_below_drewN | apply below_drew1 | refine below_set ?_ GE170.out) | exact HB.out)⟩⟩
                · rw [if_neg c22] at H
                  exact absurd H (by simp)
              · rw [if_neg c21] at H
                have c21b0 : decide (x11_2 < (l1.length : Int)) = false := decide_eq_false c21
                clear c21
                simp only [Option.some.injEq, Prod.mk.injEq] at H
                obtain ⟨rfl, rfl⟩ := H
                go_wp2
                go_ret2
                exact ⟨_, by first | rfl | (simp [errW_none, errW_some] <;> rfl) | (simp [*, errW_none, errW_some] <;> rfl), by (with_reducible repeat (first | apply Kd.R_alloc | apply Kd.R_drewN | apply Kd.R_drew)); exact HO_7.out, by repeat (first | (with_reducible first | exact HB.out | apply below_alloc | apply pw_below_drewN | apply below_drew1) | exact HB.out)⟩
  · rw [if_neg c4] at H
    have c4b0 : (t158 == 0) = false := beq_eq_false_iff_ne.mpr c4
    have c4b1 : (t158 != 0) = true := bne_iff_ne.mpr c4
    obtain ⟨y159, hy159⟩ : ∃ y_ : List Int, y_ = (([] : List Int)) := ⟨_, rfl⟩
    replace H : (some (y159, t158)) = some (r1, r2) := by first | (rw [hy159]; with_reducible exact H) | (have H2_ := (Option.bind_some _ _).symm.trans H; rw [hy159]; with_reducible exact H2_) | (have H2_ := (Option.bind_some _ _).symm.trans H; with_reducible exact H2_) | with_reducible exact H | (rw [hy159]; exact H) | exact H
    have Ny159 := Aside0.mk hy159
    clear hy159
    simp only [Option.some.injEq, Prod.mk.injEq] at H
    obtain ⟨rfl, rfl⟩ := H
    go_enter Try.func12, Try.ntmps12
    go_wp2_with (first | ((with_reducible refine gate_callee (f := 14) rfl ?_); refine goesL_ (some 17) rfl rfl Try.func14 (by kernel_rfl) rfl #[.slice A0 l0.length c0, .slice A1 l1.length c1] rfl (by (try simp only [List.map_toArray, List.map_cons, List.map_nil]); first | done | rfl | (simp only [List.length_drop, List.length_take]; rfl)) ?_; (with_reducible refine (haspref06_Fit.calls k _ _ l0 _ _ l1 t158 _ ?side1 ?side2 ?side3 ?side4 A3.out).mono ?_); (case side1 => repeat (first | exact HR0.out | (with_reducible refine Kd.C_alloc ?_ _) | (with_reducible refine Kd.C_drewN ?_ _) | (with_reducible refine Kd.C_drew ?_))); (case side2 => exact HC0.out); (case side3 => repeat (first | exact HR1.out | (with_reducible refine Kd.C_alloc ?_ _) | (with_reducible refine Kd.C_drewN ?_ _) | (with_reducible refine Kd.C_drew ?_))); (case side4 => exact HC1.out); rintro e w55 ⟨rfl, hb⟩; refine ⟨_, rfl, ?_⟩; have n0_ := Aside0.mk (below_step (by repeat (first | (with_reducible first | exact HB.out | apply below_alloc | apply pw_below_drewN | apply below_drew1) | exact HB.out)) hb); clear HB; have HB := n0_; clear n0_; (try clear hb); (try clear hb2); (try clear hk); (try clear hi)) | ((with_reducible refine gate_dst (N := 20) rfl ?_); (try (refine gate_guard (by rfl) ?_; dsimp only)); refine Kd.R_lit (Kd.int .u8) _ 5 ?hg (N := 20) ?hd (xs := ([] : List Int)) (inner := []) (ok := fun _ => True) (okp := fun _ => True) ?hr ?hp (fun _ hk => hk) trivial (Below.refl _ _) (Nat.le_refl _) (by simp) ?_; (case hd => rfl); (case hg => rfl); (case hr => first | (go_simp; done) | (go_simp; rfl)); (case hp => exact (Reps.none _ _)); intro v160 w56 ho57 hb hg_ hnew_; clear hg_ hnew_; (first | rw [← Ny159.out] at ho57 | (simp only [Int.reduceToNat] at ho57; rw [← Ny159.out] at ho57)); have n0_ := Aside0.mk (Kd.R_lower ho57 (below_size (by repeat (first | (with_reducible first | exact HB.out | apply below_alloc | apply pw_below_drewN | apply below_drew1) | exact HB.out)))); have n1_ := Aside0.mk (below_step (by repeat (first | (with_reducible first | exact HB.out | apply below_alloc | apply pw_below_drewN | apply below_drew1) | exact HB.out)) hb); clear HB; have HO161 := n0_; have HB := n1_; clear n0_ n1_; clear hb ho57))
    go_ret2
    exact ⟨_, by first | rfl | (simp [errW_none, errW_some] <;> rfl) | (simp [*, errW_none, errW_some] <;> rfl), by (with_reducible repeat (first | apply Kd.R_alloc | apply Kd.R_drewN | apply Kd.R_drew)); exact HO161.out, by repeat (first | (with_reducible first | exact HB.out | apply below_alloc | apply pw_below_drewN | apply below_drew1) | exact HB.out)⟩
end Go.Proofs.Ytnjobnkkpfaigaa.V
