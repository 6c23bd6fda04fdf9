-- Printed by the kit's print.py for functions that this session names.
import Derived.Test.YtjbaeibclcifmaaVx0
import Derived.Test.YtjbaeibclcifmaaVx2
import Derived.Test.YtjbaeibclcifmaaVx3
import Derived.Test.YtjbaeibclcifmaaVx4
namespace Go.Proofs.Ytjbaeibclcifmaa.V
open Go.RowKit Go.Proofs.YtjbaeibclcifmaaW.PrintWords Go.Proofs.YtjbaeibclcifmaaW.PrintLast Go.Proofs.YtjbaeibclcifmaaW.PrintMore
attribute [local go_sem] max2_int min2_int max_two min_two max_three min_three max_four min_four   -- for this text's walks alone
set_option linter.unusedVariables false
set_option linter.unusedSimpArgs false

/-! ### hasplaw02_ValueChecks: function 4 -/
def hasplaw02_ValueChecks.f (k : Nat) (a0_0 : Int) (a0_1 : Int) (a0_2 : ByteArray) : Option (Bool) := (hasplaw02_speaks.f).bind fun t129 => (if t129 = true then ((value_Check.f k a0_0 a0_1 a0_2).bind fun t130 => ((haspref02_Check.f k a0_0 a0_1 a0_2).bind fun t131 => (some (t130 == t131)))) else (some false))
theorem hasplaw02_ValueChecks.mono : ∀ a0 a1 a2 k, LeO (hasplaw02_ValueChecks.f k a0 a1 a2) (hasplaw02_ValueChecks.f (k + 1) a0 a1 a2) := by
  intro a0 a1 a2 k
  unfold hasplaw02_ValueChecks.f
  repeat' first
      | (with_reducible exact haspref02_Check.mono _ _ _ _)
      | (with_reducible exact value_Check.mono _ _ _ _)
      | (with_reducible exact LeO.refl _)
      | (with_reducible exact LeO.none _)
      | (with_reducible refine LeO.ite ?_ ?_)
      | (with_reducible refine LeO.bind ?_ (fun _ => ?_))
      | exact haspref02_Check.mono _ _ _ _
      | exact value_Check.mono _ _ _ _
      | exact LeO.none _
      | refine LeO.ite ?_ ?_
      | refine LeO.bind ?_ (fun _ => ?_)
set_option maxHeartbeats 8000000 in
set_option maxRecDepth 100000 in
theorem hasplaw02_ValueChecks.calls (k : Nat) (a0_0 : Int) (a0_1 : Int) (a0_2 : ByteArray) (r : Bool) (w : World) (h : hasplaw02_ValueChecks.f k a0_0 a0_1 a0_2 = some r) :
    Calls Try.prog 4 #[.agg #[.int .i64 a0_0, .int .i64 a0_1, .string a0_2]] w fun e w' => e = .returned (.bool r) ∧ Below w.heap.size w w' := by
  have hu24 := Try.underlying24
  have HB := Aside0.mk (Below.refl w.heap.size w)
  have H : ((hasplaw02_speaks.f).bind fun t129 => (if t129 = true then ((value_Check.f k a0_0 a0_1 a0_2).bind fun t130 => ((haspref02_Check.f k a0_0 a0_1 a0_2).bind fun t131 => (some (t130 == t131)))) else (some false))) = some r := h
  clear h
  replace H := Option.bind_eq_some_iff.mp H
  obtain ⟨t129, A20, H⟩ := H
  replace H : (if t129 = true then ((value_Check.f k a0_0 a0_1 a0_2).bind fun t130 => ((haspref02_Check.f k a0_0 a0_1 a0_2).bind fun t131 => (some (t130 == t131)))) else (some false)) = some r := H
  have A2 := Aside0.mk A20
  clear A20
  by_cases c3 : t129 = true
  · subst c3
    have H1 : ((value_Check.f k a0_0 a0_1 a0_2).bind fun t130 => ((haspref02_Check.f k a0_0 a0_1 a0_2).bind fun t131 => (some (t130 == t131)))) = some r := by rw [if_pos rfl] at H; exact H
    clear H
    have H := H1
    clear H1
    replace H := Option.bind_eq_some_iff.mp H
    obtain ⟨t130, A40, H⟩ := H
    replace H : ((haspref02_Check.f k a0_0 a0_1 a0_2).bind fun t131 => (some (t130 == t131))) = some r := H
    have A4 := Aside0.mk A40
    clear A40
    replace H := Option.bind_eq_some_iff.mp H
    obtain ⟨t131, A50, H⟩ := H
    replace H : (some (t130 == t131)) = some r := H
    have A5 := Aside0.mk A50
    clear A50
    obtain rfl := Option.some.inj H
    go_enter Try.func4, Try.ntmps4
    try go_wp2_with (first | ((with_reducible refine gate_dst (N := 1) rfl ?_); refine box_event ?hg (N := 1) ?hd (cs := #[.int .i64 a0_0, .int .i64 a0_1, .string a0_2]) (t := 24) ?hr ?_; (case hd => rfl); (case hg => rfl); (case hr => first | (go_simp; done) | (go_simp; rfl)); intro gb128 hg w6 hbox hb; have n0_ := Aside0.mk (below_step (by repeat (first | (with_reducible first | exact HB.out | apply below_alloc | apply pw_below_drewN | apply below_drew1) | exact HB.out)) hb); have n1_ := Aside0.mk (hbox); have n2_ := Aside0.mk ((by rw [hg]; exact (below_size (by repeat (first | (with_reducible first | exact HB.out | apply below_alloc | apply pw_below_drewN | apply below_drew1) | exact HB.out))) : w.heap.size ≤ gb128)); have n3_ := Aside0.mk ((by rw [hg]; exact (below_size (by repeat (first | (with_reducible first | exact HB.out | apply below_alloc | apply pw_below_drewN | apply below_drew1) | exact HB.out))) : w.heap.size ≤ gb128)); clear HB; have HB := n0_; have BK128 := n1_; have GW128 := n2_; have GE128 := n3_; clear n0_ n1_ n2_ n3_; clear hb hbox hg) | ((with_reducible refine gate_callee (f := 10) rfl ?_); refine goesL_ (some 3) rfl rfl Try.func10 (by kernel_rfl) rfl #[] rfl (by (try simp only [List.map_toArray, List.map_cons, List.map_nil]); first | done | rfl | (simp only [List.length_drop, List.length_take]; rfl)) ?_; (with_reducible refine (hasplaw02_speaks.calls  true _ A2.out).mono ?_); rintro e w7 ⟨rfl, hb⟩; refine ⟨_, rfl, ?_⟩; have n0_ := Aside0.mk (blk_below (g := gb128) (o := .cells #[.int .i64 a0_0, .int .i64 a0_1, .string a0_2] 24 (0, 0)) (by (with_reducible repeat (first | refine blk_drewN ?_ _ | refine blk_drew ?_ | refine blk_alloc ?_ _)); exact BK128.out) hb); have n1_ := Aside0.mk (below_step (by repeat (first | (with_reducible first | exact HB.out | apply below_alloc | apply pw_below_drewN | apply below_drew1 | refine below_set ?_ GE128.out) | exact HB.out)) hb); clear BK128; clear HB; have BK128 := n0_; have HB := n1_; clear n0_ n1_; (try clear hb); (try clear hb2); (try clear hk); (try clear hi)))
    have n0_ := Aside0.mk (blk_drew BK128.out)
    have n1_ := Aside0.mk (below_drew1 HB.out)
    clear BK128
    clear HB
    have BK128 := n0_
    have HB := n1_
    clear n0_ n1_
    refine start_ (n := 6) (S := fun w' => w'.cell? ⟨gb128, 0, none⟩ = some (.int .i64 a0_0) ∧ w'.cell? ⟨gb128, 1, none⟩ = some (.int .i64 a0_1) ∧ w'.cell? ⟨gb128, 2, none⟩ = some (.string a0_2)) (ds := []) #[false, false, false, false, false, false] (by kernel_rfl) rfl rfl ⟨(blk_cell BK128.out 0).trans rfl, (blk_cell BK128.out 1).trans rfl, (blk_cell BK128.out 2).trans rfl⟩ (fun hHeld => ?_)
    generalize w7.drew = w8 at BK128 HB hHeld ⊢
    refine take_ (i := 0) (N := some 5) (v := ?_) (a' := ?_) #[true, false, false, false, false, false] rfl rfl (by kernel_rfl) (fun _ _ _ h => h) (Or.inl ⟨by rfl, ?_⟩) hHeld ?_ ?_
    rotate_left
    · rintro w' ⟨s0, s1, s2⟩
      go_simp
      with_reducible rfl
    rotate_left
    · simp only [Act.put, List.setIfInBounds_toArray, List.set_cons_zero, List.set_cons_succ, i64_w, i32_w]
      rfl
    refine take_ (i := 2) (N := some 7) (v := ?_) (a' := ?_) #[true, false, true, false, false, false] rfl rfl (by kernel_rfl) (fun _ _ _ h => h) (Or.inl ⟨by rfl, ?_⟩) hHeld ?_ ?_
    rotate_left
    · rintro w' ⟨s0, s1, s2⟩
      go_simp
      with_reducible rfl
    rotate_left
    · simp only [Act.put, List.setIfInBounds_toArray, List.set_cons_zero, List.set_cons_succ, i64_w, i32_w]
      rfl
    refine one_ (i := 1) (N := some 6) #[true, true, true, false, false, false] rfl rfl (by kernel_rfl) (by decide) (fun K hK => ?_)
    refine goes_ Try.func11 (by kernel_rfl) rfl #[.agg #[.int .i64 a0_0, .int .i64 a0_1, .string a0_2]] (by rfl) rfl rfl (by (try simp only [List.map_toArray, List.map_cons, List.map_nil]); first | done | rfl | (simp only [List.length_drop, List.length_take]; rfl)) ?_
    with_reducible refine (value_Check.calls k a0_0 a0_1 a0_2 t130 _ A4.out).mono ?_
    rintro e w9 ⟨rfl, hb⟩
    refine ⟨_, rfl, ?_⟩
    have n0_ := Aside0.mk (blk_below (g := gb128) (o := .cells #[.int .i64 a0_0, .int .i64 a0_1, .string a0_2] 24 (0, 0)) (by (with_reducible repeat (first | refine blk_drewN ?_ _ | refine blk_drew ?_ | refine blk_alloc ?_ _)); exact BK128.out) hb)
    have n1_ := Aside0.mk (below_step (by repeat (first | (with_reducible first | exact HB.out | apply below_alloc | apply pw_below_drewN | apply below_drew1 | refine below_set ?_ GE128.out) | exact HB.out)) hb)
    clear BK128
    clear HB
    have BK128 := n0_
    have HB := n1_
    clear n0_ n1_
    (try clear hb)
    (try clear hb2)
    (try clear hk)
    (try clear hi)
    refine hK.out _ _ ⟨(blk_cell BK128.out 0).trans rfl, (blk_cell BK128.out 1).trans rfl, (blk_cell BK128.out 2).trans rfl⟩ (fun hHeld => ?_)
    clear hK K
    refine norm_ (a' := ?_) ?_ ?_
    rotate_left
    · show Act.put _ (some 6) _ = _
      simp only [Act.put, List.setIfInBounds_toArray, List.set_cons_zero, List.set_cons_succ, i64_w, i32_w]
      rfl
    refine one_ (i := 3) (N := some 8) #[true, true, true, true, false, false] rfl rfl (by kernel_rfl) (by decide) (fun K hK => ?_)
    refine goes_ Try.func12 (by kernel_rfl) rfl #[.agg #[.int .i64 a0_0, .int .i64 a0_1, .string a0_2]] (by rfl) rfl rfl (by (try simp only [List.map_toArray, List.map_cons, List.map_nil]); first | done | rfl | (simp only [List.length_drop, List.length_take]; rfl)) ?_
    with_reducible refine (haspref02_Check.calls k a0_0 a0_1 a0_2 t131 _ A5.out).mono ?_
    rintro e w10 ⟨rfl, hb⟩
    refine ⟨_, rfl, ?_⟩
    have n0_ := Aside0.mk (blk_below (g := gb128) (o := .cells #[.int .i64 a0_0, .int .i64 a0_1, .string a0_2] 24 (0, 0)) (by (with_reducible repeat (first | refine blk_drewN ?_ _ | refine blk_drew ?_ | refine blk_alloc ?_ _)); exact BK128.out) hb)
    have n1_ := Aside0.mk (below_step (by repeat (first | (with_reducible first | exact HB.out | apply below_alloc | apply pw_below_drewN | apply below_drew1 | refine below_set ?_ GE128.out) | exact HB.out)) hb)
    clear BK128
    clear HB
    have BK128 := n0_
    have HB := n1_
    clear n0_ n1_
    (try clear hb)
    (try clear hb2)
    (try clear hk)
    (try clear hi)
    refine hK.out _ _ ⟨(blk_cell BK128.out 0).trans rfl, (blk_cell BK128.out 1).trans rfl, (blk_cell BK128.out 2).trans rfl⟩ (fun hHeld => ?_)
    clear hK K
    refine norm_ (a' := ?_) ?_ ?_
    rotate_left
    · show Act.put _ (some 8) _ = _
      simp only [Act.put, List.setIfInBounds_toArray, List.set_cons_zero, List.set_cons_succ, i64_w, i32_w]
      rfl
    refine pure_ (i := 4) (N := some 9) (v := ?_) (a' := ?_) #[true, true, true, true, true, false] rfl rfl (by kernel_rfl) (fun _ _ _ h => h) (Or.inl ⟨by rfl, ?_⟩) ?_ ?_
    rotate_left
    · intro w'
      go_simp
      with_reducible rfl
    rotate_left
    · simp only [Act.put, List.setIfInBounds_toArray, List.set_cons_zero, List.set_cons_succ, i64_w, i32_w]
      rfl
    refine pure_ (i := 5) (N := some 2) (v := ?_) (a' := ?_) #[true, true, true, true, true, true] rfl rfl (by kernel_rfl) (fun _ _ _ h => h) (Or.inl ⟨by rfl, ?_⟩) ?_ ?_
    rotate_left
    · intro w'
      go_simp
      with_reducible rfl
    rotate_left
    · simp only [Act.put, List.setIfInBounds_toArray, List.set_cons_zero, List.set_cons_succ, i64_w, i32_w]
      rfl
    refine done_ (by kernel_rfl) ?_
    try go_wp2
    go_ret
    exact ⟨by first | rfl | (simp [errW_none, errW_some] <;> rfl) | (simp [*, errW_none, errW_some] <;> rfl), by repeat (first | (with_reducible first | exact HB.out | apply below_alloc | apply pw_below_drewN | apply below_drew1 | refine below_set ?_ GE128.out) | exact HB.out)⟩
  · replace c3 := Bool.eq_false_iff.mpr c3
    subst c3
    have H1 : (some false) = some r := by rw [if_neg (show ¬ (false = true) by decide)] at H; exact H
    clear H
    have H := H1
    clear H1
    obtain rfl := Option.some.inj H
    go_enter Try.func4, Try.ntmps4
    go_wp2_with (first | ((with_reducible refine gate_dst (N := 1) rfl ?_); refine box_event ?hg (N := 1) ?hd (cs := #[.int .i64 a0_0, .int .i64 a0_1, .string a0_2]) (t := 24) ?hr ?_; (case hd => rfl); (case hg => rfl); (case hr => first | (go_simp; done) | (go_simp; rfl)); intro gb128 hg w11 hbox hb; have n0_ := Aside0.mk (below_step (by repeat (first | (with_reducible first | exact HB.out | apply below_alloc | apply pw_below_drewN | apply below_drew1) | exact HB.out)) hb); have n1_ := Aside0.mk (hbox); have n2_ := Aside0.mk ((by rw [hg]; exact (below_size (by repeat (first | (with_reducible first | exact HB.out | apply below_alloc | apply pw_below_drewN | apply below_drew1) | exact HB.out))) : w.heap.size ≤ gb128)); have n3_ := Aside0.mk ((by rw [hg]; exact (below_size (by repeat (first | (with_reducible first | exact HB.out | apply below_alloc | apply pw_below_drewN | apply below_drew1) | exact HB.out))) : w.heap.size ≤ gb128)); clear HB; have HB := n0_; have BK128 := n1_; have GW128 := n2_; have GE128 := n3_; clear n0_ n1_ n2_ n3_; clear hb hbox hg) | ((with_reducible refine gate_callee (f := 10) rfl ?_); refine goesL_ (some 3) rfl rfl Try.func10 (by kernel_rfl) rfl #[] rfl (by (try simp only [List.map_toArray, List.map_cons, List.map_nil]); first | done | rfl | (simp only [List.length_drop, List.length_take]; rfl)) ?_; (with_reducible refine (hasplaw02_speaks.calls  false _ A2.out).mono ?_); rintro e w12 ⟨rfl, hb⟩; refine ⟨_, rfl, ?_⟩; have n0_ := Aside0.mk (blk_below (g := gb128) (o := .cells #[.int .i64 a0_0, .int .i64 a0_1, .string a0_2] 24 (0, 0)) (by (with_reducible repeat (first | refine blk_drewN ?_ _ | refine blk_drew ?_ | refine blk_alloc ?_ _)); exact BK128.out) hb); have n1_ := Aside0.mk (below_step (by repeat (first | (with_reducible first | exact HB.out | apply below_alloc | apply pw_below_drewN | apply below_drew1 | refine below_set ?_ GE128.out) | exact HB.out)) hb); clear BK128; clear HB; have BK128 := n0_; have HB := n1_; clear n0_ n1_; (try clear hb); (try clear hb2); (try clear hk); (try clear hi)))
    go_ret
    exact ⟨by first | rfl | (simp [errW_none, errW_some] <;> rfl) | (simp [*, errW_none, errW_some] <;> rfl), by repeat (first | (with_reducible first | exact HB.out | apply below_alloc | apply pw_below_drewN | apply below_drew1 | refine below_set ?_ GE128.out) | exact HB.out)⟩

/-! ### haspref02_less: function 33 -/
def haspref02_less.f (a0 : Bool) (a1 : Bool) : Option (Int) := if a0 = true then (some (-1)) else (if a1 = true then (some 1) else (some 0))
set_option maxHeartbeats 8000000 in
set_option maxRecDepth 100000 in
theorem haspref02_less.calls (a0 : Bool) (a1 : Bool) (r : Int) (w : World) (h : haspref02_less.f a0 a1 = some r) :
    Calls Try.prog 33 #[.bool a0, .bool a1] w fun e w' => e = .returned (.int .i64 r) ∧ Drawn0 w w' := by
  have H : (if a0 = true then (some (-1)) else (if a1 = true then (some 1) else (some 0))) = some r := h
  clear h
  by_cases c3 : a0 = true
  · subst c3
    have H1 : (some (-1)) = some r := by rw [if_pos rfl] at H; exact H
    clear H
    have H := H1
    clear H1
    obtain rfl := Option.some.inj H
    go_enter Try.func33, Try.ntmps33
    go_wp2
    go_ret
    exact ⟨by first | rfl | (simp; done) | (simp [*]; done) | (simp; exact isEmpty_bne _) | (simp [*]; exact isEmpty_bne _), by repeat (first | exact Drawn0.refl _ | apply Drawn0.step)⟩
  · replace c3 := Bool.eq_false_iff.mpr c3
    subst c3
    have H1 : (if a1 = true then (some 1) else (some 0)) = some r := by rw [if_neg (show ¬ (false = true) by decide)] at H; exact H
    clear H
    have H := H1
    clear H1
    by_cases c4 : a1 = true
    · subst c4
      have H1 : (some 1) = some r := by rw [if_pos rfl] at H; exact H
      clear H
      have H := H1
      clear H1
      obtain rfl := Option.some.inj H
      go_enter Try.func33, Try.ntmps33
      go_wp2
      go_ret
      exact ⟨by first | rfl | (simp; done) | (simp [*]; done) | (simp; exact isEmpty_bne _) | (simp [*]; exact isEmpty_bne _), by repeat (first | exact Drawn0.refl _ | apply Drawn0.step)⟩
    · replace c4 := Bool.eq_false_iff.mpr c4
      subst c4
      have H1 : (some 0) = some r := by rw [if_neg (show ¬ (false = true) by decide)] at H; exact H
      clear H
      have H := H1
      clear H1
      obtain rfl := Option.some.inj H
      go_enter Try.func33, Try.ntmps33
      go_wp2
      go_ret
      exact ⟨by first | rfl | (simp; done) | (simp [*]; done) | (simp; exact isEmpty_bne _) | (simp [*]; exact isEmpty_bne _), by repeat (first | exact Drawn0.refl _ | apply Drawn0.step)⟩

/-! ### haspref01_place: function 44 -/
def haspref01_place.f (a0 : Int) : Option (Int) := (haspref01_Parts.f a0).bind fun bt132 => ((haspref01_IsNaN.f a0).bind fun t135 => (if t135 = true then (some 9223372036854775807) else (if bt132.1 = 1 then (some (wrap64 (-(wrap64 ((wrap64 (bt132.2.1 * 4503599627370496)) + bt132.2.2))))) else (some (wrap64 ((wrap64 (bt132.2.1 * 4503599627370496)) + bt132.2.2))))))
set_option maxHeartbeats 8000000 in
set_option maxRecDepth 100000 in
theorem haspref01_place.calls (a0 : Int) (r : Int) (w : World) (h : haspref01_place.f a0 = some r) :
    Calls Try.prog 44 #[.int .i64 a0] w fun e w' => e = .returned (.int .i64 r) ∧ Drawn0 w w' := by
  have H : ((haspref01_Parts.f a0).bind fun bt132 => ((haspref01_IsNaN.f a0).bind fun t135 => (if t135 = true then (some 9223372036854775807) else (if bt132.1 = 1 then (some (wrap64 (-(wrap64 ((wrap64 (bt132.2.1 * 4503599627370496)) + bt132.2.2))))) else (some (wrap64 ((wrap64 (bt132.2.1 * 4503599627370496)) + bt132.2.2))))))) = some r := h
  clear h
  replace H := Option.bind_eq_some_iff.mp H
  obtain ⟨⟨t132, t133, t134⟩, A20, H⟩ := H
  replace H : ((haspref01_IsNaN.f a0).bind fun t135 => (if t135 = true then (some 9223372036854775807) else (if t132 = 1 then (some (wrap64 (-(wrap64 ((wrap64 (t133 * 4503599627370496)) + t134))))) else (some (wrap64 ((wrap64 (t133 * 4503599627370496)) + t134)))))) = some r := H
  have A2 := Aside0.mk A20
  clear A20
  replace H := Option.bind_eq_some_iff.mp H
  obtain ⟨t135, A30, H⟩ := H
  replace H : (if t135 = true then (some 9223372036854775807) else (if t132 = 1 then (some (wrap64 (-(wrap64 ((wrap64 (t133 * 4503599627370496)) + t134))))) else (some (wrap64 ((wrap64 (t133 * 4503599627370496)) + t134))))) = some r := H
  have A3 := Aside0.mk A30
  clear A30
  by_cases c4 : t135 = true
  · subst c4
    have H1 : (some 9223372036854775807) = some r := by rw [if_pos rfl] at H; exact H
    clear H
    have H := H1
    clear H1
    obtain rfl := Option.some.inj H
    go_enter Try.func44, Try.ntmps44
    go_wp2_with (first | ((with_reducible refine gate_callee (f := 39) rfl ?_); refine goesL_ (some 9) rfl rfl Try.func39 (by kernel_rfl) rfl #[.int .i64 a0] rfl (by (try simp only [List.map_toArray, List.map_cons, List.map_nil]); first | done | rfl | (simp only [List.length_drop, List.length_take]; rfl)) ?_; (with_reducible refine (haspref01_Parts.calls a0 t132 t133 t134 _ A2.out).mono ?_); rintro e w' ⟨rfl, ⟨nd, rfl⟩⟩; refine ⟨_, rfl, ?_⟩) | ((with_reducible refine gate_callee (f := 28) rfl ?_); refine goesL_ (some 18) rfl rfl Try.func28 (by kernel_rfl) rfl #[.int .i64 a0] rfl (by (try simp only [List.map_toArray, List.map_cons, List.map_nil]); first | done | rfl | (simp only [List.length_drop, List.length_take]; rfl)) ?_; (with_reducible refine (haspref01_IsNaN.calls a0 true _ A3.out).mono ?_); rintro e w' ⟨rfl, ⟨nd, rfl⟩⟩; refine ⟨_, rfl, ?_⟩))
    go_ret
    exact ⟨by first | rfl | (simp; done) | (simp [*]; done) | (simp; exact isEmpty_bne _) | (simp [*]; exact isEmpty_bne _), by repeat (first | exact Drawn0.refl _ | apply Drawn0.step)⟩
  · replace c4 := Bool.eq_false_iff.mpr c4
    subst c4
    have H1 : (if t132 = 1 then (some (wrap64 (-(wrap64 ((wrap64 (t133 * 4503599627370496)) + t134))))) else (some (wrap64 ((wrap64 (t133 * 4503599627370496)) + t134)))) = some r := by rw [if_neg (show ¬ (false = true) by decide)] at H; exact H
    clear H
    have H := H1
    clear H1
    by_cases c5 : t132 = 1
    · rw [if_pos c5] at H
      have c5b0 : (t132 == 1) = true := beq_iff_eq.mpr c5
      have c5b1 : (t132 != 1) = false := bne_eq_false_iff_eq.mpr c5
      clear c5
      obtain rfl := Option.some.inj H
      go_enter Try.func44, Try.ntmps44
      go_wp2_with (first | ((with_reducible refine gate_callee (f := 39) rfl ?_); refine goesL_ (some 9) rfl rfl Try.func39 (by kernel_rfl) rfl #[.int .i64 a0] rfl (by (try simp only [List.map_toArray, List.map_cons, List.map_nil]); first | done | rfl | (simp only [List.length_drop, List.length_take]; rfl)) ?_; (with_reducible refine (haspref01_Parts.calls a0 t132 t133 t134 _ A2.out).mono ?_); rintro e w' ⟨rfl, ⟨nd, rfl⟩⟩; refine ⟨_, rfl, ?_⟩) | ((with_reducible refine gate_callee (f := 28) rfl ?_); refine goesL_ (some 18) rfl rfl Try.func28 (by kernel_rfl) rfl #[.int .i64 a0] rfl (by (try simp only [List.map_toArray, List.map_cons, List.map_nil]); first | done | rfl | (simp only [List.length_drop, List.length_take]; rfl)) ?_; (with_reducible refine (haspref01_IsNaN.calls a0 false _ A3.out).mono ?_); rintro e w' ⟨rfl, ⟨nd, rfl⟩⟩; refine ⟨_, rfl, ?_⟩))
      go_ret
      exact ⟨by first | rfl | (simp; done) | (simp [*]; done) | (simp; exact isEmpty_bne _) | (simp [*]; exact isEmpty_bne _), by repeat (first | exact Drawn0.refl _ | apply Drawn0.step)⟩
    · rw [if_neg c5] at H
      have c5b0 : (t132 == 1) = false := beq_eq_false_iff_ne.mpr c5
      have c5b1 : (t132 != 1) = true := bne_iff_ne.mpr c5
      obtain rfl := Option.some.inj H
      go_enter Try.func44, Try.ntmps44
      go_wp2_with (first | ((with_reducible refine gate_callee (f := 39) rfl ?_); refine goesL_ (some 9) rfl rfl Try.func39 (by kernel_rfl) rfl #[.int .i64 a0] rfl (by (try simp only [List.map_toArray, List.map_cons, List.map_nil]); first | done | rfl | (simp only [List.length_drop, List.length_take]; rfl)) ?_; (with_reducible refine (haspref01_Parts.calls a0 t132 t133 t134 _ A2.out).mono ?_); rintro e w' ⟨rfl, ⟨nd, rfl⟩⟩; refine ⟨_, rfl, ?_⟩) | ((with_reducible refine gate_callee (f := 28) rfl ?_); refine goesL_ (some 18) rfl rfl Try.func28 (by kernel_rfl) rfl #[.int .i64 a0] rfl (by (try simp only [List.map_toArray, List.map_cons, List.map_nil]); first | done | rfl | (simp only [List.length_drop, List.length_take]; rfl)) ?_; (with_reducible refine (haspref01_IsNaN.calls a0 false _ A3.out).mono ?_); rintro e w' ⟨rfl, ⟨nd, rfl⟩⟩; refine ⟨_, rfl, ?_⟩))
      go_ret
      exact ⟨by first | rfl | (simp; done) | (simp [*]; done) | (simp; exact isEmpty_bne _) | (simp [*]; exact isEmpty_bne _), by repeat (first | exact Drawn0.refl _ | apply Drawn0.step)⟩

/-! ### haspref01_Order: function 34 -/
def haspref01_Order.f (a0 : Int) (a1 : Int) : Option (Int) := (haspref01_place.f a0).bind fun t136 => ((haspref01_place.f a1).bind fun t137 => (if t136 < t137 then (some (-1)) else (if t136 > t137 then (some 1) else (some 0))))
set_option maxHeartbeats 8000000 in
set_option maxRecDepth 100000 in
theorem haspref01_Order.calls (a0 : Int) (a1 : Int) (r : Int) (w : World) (h : haspref01_Order.f a0 a1 = some r) :
    Calls Try.prog 34 #[.int .i64 a0, .int .i64 a1] w fun e w' => e = .returned (.int .i64 r) ∧ Drawn0 w w' := by
  have H : ((haspref01_place.f a0).bind fun t136 => ((haspref01_place.f a1).bind fun t137 => (if t136 < t137 then (some (-1)) else (if t136 > t137 then (some 1) else (some 0))))) = some r := h
  clear h
  replace H := Option.bind_eq_some_iff.mp H
  obtain ⟨t136, A30, H⟩ := H
  replace H : ((haspref01_place.f a1).bind fun t137 => (if t136 < t137 then (some (-1)) else (if t136 > t137 then (some 1) else (some 0)))) = some r := H
  have A3 := Aside0.mk A30
  clear A30
  replace H := Option.bind_eq_some_iff.mp H
  obtain ⟨t137, A40, H⟩ := H
  replace H : (if t136 < t137 then (some (-1)) else (if t136 > t137 then (some 1) else (some 0))) = some r := H
  have A4 := Aside0.mk A40
  clear A40
  by_cases c5 : t136 < t137
  · rw [if_pos c5] at H
    have c5b0 : decide (t136 < t137) = true := decide_eq_true c5
    clear c5
    obtain rfl := Option.some.inj H
    go_enter Try.func34, Try.ntmps34
    go_wp2_with (first | ((with_reducible refine gate_callee (f := 44) rfl ?_); refine goesL_ (some 8) rfl rfl Try.func44 (by kernel_rfl) rfl #[.int .i64 a0] rfl (by (try simp only [List.map_toArray, List.map_cons, List.map_nil]); first | done | rfl | (simp only [List.length_drop, List.length_take]; rfl)) ?_; (with_reducible refine (haspref01_place.calls a0 t136 _ A3.out).mono ?_); rintro e w' ⟨rfl, ⟨nd, rfl⟩⟩; refine ⟨_, rfl, ?_⟩) | ((with_reducible refine gate_callee (f := 44) rfl ?_); refine goesL_ (some 10) rfl rfl Try.func44 (by kernel_rfl) rfl #[.int .i64 a1] rfl (by (try simp only [List.map_toArray, List.map_cons, List.map_nil]); first | done | rfl | (simp only [List.length_drop, List.length_take]; rfl)) ?_; (with_reducible refine (haspref01_place.calls a1 t137 _ A4.out).mono ?_); rintro e w' ⟨rfl, ⟨nd, rfl⟩⟩; refine ⟨_, rfl, ?_⟩))
    go_ret
    exact ⟨by first | rfl | (simp; done) | (simp [*]; done) | (simp; exact isEmpty_bne _) | (simp [*]; exact isEmpty_bne _), by repeat (first | exact Drawn0.refl _ | apply Drawn0.step)⟩
  · rw [if_neg c5] at H
    have c5b0 : decide (t136 < t137) = false := decide_eq_false c5
    clear c5
    by_cases c6 : t136 > t137
    · rw [if_pos c6] at H
      have c6b0 : decide (t137 < t136) = true := decide_eq_true c6
      clear c6
      obtain rfl := Option.some.inj H
      go_enter Try.func34, Try.ntmps34
      go_wp2_with (first | ((with_reducible refine gate_callee (f := 44) rfl ?_); refine goesL_ (some 8) rfl rfl Try.func44 (by kernel_rfl) rfl #[.int .i64 a0] rfl (by (try simp only [List.map_toArray, List.map_cons, List.map_nil]); first | done | rfl | (simp only [List.length_drop, List.length_take]; rfl)) ?_; (with_reducible refine (haspref01_place.calls a0 t136 _ A3.out).mono ?_); rintro e w' ⟨rfl, ⟨nd, rfl⟩⟩; refine ⟨_, rfl, ?_⟩) | ((with_reducible refine gate_callee (f := 44) rfl ?_); refine goesL_ (some 10) rfl rfl Try.func44 (by kernel_rfl) rfl #[.int .i64 a1] rfl (by (try simp only [List.map_toArray, List.map_cons, List.map_nil]); first | done | rfl | (simp only [List.length_drop, List.length_take]; rfl)) ?_; (with_reducible refine (haspref01_place.calls a1 t137 _ A4.out).mono ?_); rintro e w' ⟨rfl, ⟨nd, rfl⟩⟩; refine ⟨_, rfl, ?_⟩))
      go_ret
      exact ⟨by first | rfl | (simp; done) | (simp [*]; done) | (simp; exact isEmpty_bne _) | (simp [*]; exact isEmpty_bne _), by repeat (first | exact Drawn0.refl _ | apply Drawn0.step)⟩
    · rw [if_neg c6] at H
      have c6b0 : decide (t137 < t136) = false := decide_eq_false c6
      clear c6
      obtain rfl := Option.some.inj H
      go_enter Try.func34, Try.ntmps34
      go_wp2_with (first | ((with_reducible refine gate_callee (f := 44) rfl ?_); refine goesL_ (some 8) rfl rfl Try.func44 (by kernel_rfl) rfl #[.int .i64 a0] rfl (by (try simp only [List.map_toArray, List.map_cons, List.map_nil]); first | done | rfl | (simp only [List.length_drop, List.length_take]; rfl)) ?_; (with_reducible refine (haspref01_place.calls a0 t136 _ A3.out).mono ?_); rintro e w' ⟨rfl, ⟨nd, rfl⟩⟩; refine ⟨_, rfl, ?_⟩) | ((with_reducible refine gate_callee (f := 44) rfl ?_); refine goesL_ (some 10) rfl rfl Try.func44 (by kernel_rfl) rfl #[.int .i64 a1] rfl (by (try simp only [List.map_toArray, List.map_cons, List.map_nil]); first | done | rfl | (simp only [List.length_drop, List.length_take]; rfl)) ?_; (with_reducible refine (haspref01_place.calls a1 t137 _ A4.out).mono ?_); rintro e w' ⟨rfl, ⟨nd, rfl⟩⟩; refine ⟨_, rfl, ?_⟩))
      go_ret
      exact ⟨by first | rfl | (simp; done) | (simp [*]; done) | (simp; exact isEmpty_bne _) | (simp [*]; exact isEmpty_bne _), by repeat (first | exact Drawn0.refl _ | apply Drawn0.step)⟩

/-! ### haspref02_Compare: function 14 -/
def haspref02_Compare.f (a0_0 : Int) (a0_1 : Int) (a0_2 : ByteArray) (a1_0 : Int) (a1_1 : Int) (a1_2 : ByteArray) : Option (Int) :=
  if a0_0 = a1_0 then (if a0_0 = 0 then some 0 else if a0_0 = 3 then haspref01_Order.f a0_1 a1_1 else if a0_0 = 4 then some (cmpS a0_2 a1_2) else haspref02_less.f (decide (a0_1 < a1_1)) (decide (a1_1 < a0_1)))
  else haspref02_less.f (decide (a0_0 < a1_0)) true
set_option maxHeartbeats 2000000 in
set_option maxRecDepth 100000 in
theorem haspref02_Compare.calls (a0_0 : Int) (a0_1 : Int) (a0_2 : ByteArray) (a1_0 : Int) (a1_1 : Int) (a1_2 : ByteArray) (r : Int) (w : World) (h : haspref02_Compare.f a0_0 a0_1 a0_2 a1_0 a1_1 a1_2 = some r) :
    Calls Try.prog 14 #[.agg #[.int .i64 a0_0, .int .i64 a0_1, .string a0_2], .agg #[.int .i64 a1_0, .int .i64 a1_1, .string a1_2]] w fun e w' => e = .returned (.int .i64 r) ∧ Below w.heap.size w w' := by
  have hu24 := Try.underlying24
  have HZ : Aside0 (∀ o1 o2, Below w.heap.size w ((w.alloc o1).alloc o2)) := ⟨fun o1 o2 => ((Below.refl _ _).alloc (Nat.le_refl _) _).alloc (by simp) _⟩
  unfold haspref02_Compare.f at h
  by_cases c1 : a0_0 = a1_0
  · rw [if_pos c1] at h
    have k1 : (a0_0 != a1_0) = false := bne_eq_false_iff_eq.2 c1
    clear c1
    by_cases c2 : a0_0 = 0
    · rw [if_pos c2] at h
      have k2 : (a0_0 == 0) = true := beq_iff_eq.2 c2
      obtain rfl := Option.some.inj h
      clear c2 h
      go_enter Try.func14, Try.ntmps14
      go_wp2
      go_ret
      exact ⟨rfl, HZ.out _ _⟩
    · rw [if_neg c2] at h
      have k2 : (a0_0 == 0) = false := beq_eq_false_iff_ne.2 c2
      clear c2
      by_cases c3 : a0_0 = 3
      · rw [if_pos c3] at h
        have k3 : (a0_0 == 3) = true := beq_iff_eq.2 c3
        have H := Aside0.mk h
        clear c3 h
        go_enter Try.func14, Try.ntmps14
        go_wp2_with fail
        refine (haspref01_Order.calls _ _ r _ H.out).mono ?_
        rintro e w1 ⟨rfl, ⟨nd, rfl⟩⟩
        go_wp2
        go_ret
        exact ⟨rfl, pw_below_drewN (HZ.out _ _) _⟩
      · rw [if_neg c3] at h
        have k3 : (a0_0 == 3) = false := beq_eq_false_iff_ne.2 c3
        clear c3
        by_cases c4 : a0_0 = 4
        · rw [if_pos c4] at h
          have k4 : (a0_0 == 4) = true := beq_iff_eq.2 c4
          obtain rfl := Option.some.inj h
          clear c4 h
          cases h1 : Op.bytesLess a0_2.toList a1_2.toList
          · cases h2 : (a0_2.toList == a1_2.toList)
            · have H : Aside0 (cmpS a0_2 a1_2 = 1) := ⟨by simp [cmpS, h1, h2]⟩
              rw [H.out]
              go_enter Try.func14, Try.ntmps14
              go_wp2_with fail
              refine (haspref02_less.calls false true 1 _ rfl).mono ?_
              rintro e w1 ⟨rfl, ⟨nd, rfl⟩⟩
              go_wp2
              go_ret
              exact ⟨rfl, pw_below_drewN (HZ.out _ _) _⟩
            · have H : Aside0 (cmpS a0_2 a1_2 = 0) := ⟨by simp [cmpS, h1, h2]⟩
              rw [H.out]
              go_enter Try.func14, Try.ntmps14
              go_wp2_with fail
              refine (haspref02_less.calls false false 0 _ rfl).mono ?_
              rintro e w1 ⟨rfl, ⟨nd, rfl⟩⟩
              go_wp2
              go_ret
              exact ⟨rfl, pw_below_drewN (HZ.out _ _) _⟩
          · have H : Aside0 (cmpS a0_2 a1_2 = -1) := ⟨by simp [cmpS, h1]⟩
            rw [H.out]
            go_enter Try.func14, Try.ntmps14
            go_wp2_with fail
            refine (haspref02_less.calls true _ (-1) _ rfl).mono ?_
            rintro e w1 ⟨rfl, ⟨nd, rfl⟩⟩
            go_wp2
            go_ret
            exact ⟨rfl, pw_below_drewN (HZ.out _ _) _⟩
        · rw [if_neg c4] at h
          have k4 : (a0_0 == 4) = false := beq_eq_false_iff_ne.2 c4
          have H := Aside0.mk h
          clear c4 h
          go_enter Try.func14, Try.ntmps14
          go_wp2_with fail
          refine (haspref02_less.calls _ _ r _ H.out).mono ?_
          rintro e w1 ⟨rfl, ⟨nd, rfl⟩⟩
          go_wp2
          go_ret
          exact ⟨rfl, pw_below_drewN (HZ.out _ _) _⟩
  · rw [if_neg c1] at h
    have k1 : (a0_0 != a1_0) = true := bne_iff_ne.2 c1
    have H := Aside0.mk h
    clear c1 h
    go_enter Try.func14, Try.ntmps14
    go_wp2_with fail
    refine (haspref02_less.calls _ true r _ H.out).mono ?_
    rintro e w1 ⟨rfl, ⟨nd, rfl⟩⟩
    go_wp2
    go_ret
    exact ⟨rfl, pw_below_drewN (HZ.out _ _) _⟩

/-! ### haspref02_Is: function 16 -/
def haspref02_Is.yes (op c : Int) : Bool := if op = 1 then c == 0 else if op = 2 then c != 0 else if op = 3 then decide (c < 0) else if op = 4 then decide (c < 1) else if op = 5 then decide (0 < c) else decide (-1 < c)
def haspref02_Is.f (a0 : Int) (a1_0 : Int) (a1_1 : Int) (a1_2 : ByteArray) (a2_0 : Int) (a2_1 : Int) (a2_2 : ByteArray) : Option Int :=
  if a1_0 = 0 ∨ a2_0 = 0 ∨ a0 < 1 ∨ 6 < a0 then some 2 else (haspref02_Compare.f a1_0 a1_1 a1_2 a2_0 a2_1 a2_2).bind fun c => some (if haspref02_Is.yes a0 c then 1 else 0)
set_option maxHeartbeats 4000000 in
set_option maxRecDepth 100000 in
theorem haspref02_Is.calls (a0 : Int) (a1_0 : Int) (a1_1 : Int) (a1_2 : ByteArray) (a2_0 : Int) (a2_1 : Int) (a2_2 : ByteArray) (r : Int) (w : World) (h : haspref02_Is.f a0 a1_0 a1_1 a1_2 a2_0 a2_1 a2_2 = some r) :
    Calls Try.prog 16 #[.int .i64 a0, .agg #[.int .i64 a1_0, .int .i64 a1_1, .string a1_2], .agg #[.int .i64 a2_0, .int .i64 a2_1, .string a2_2]] w fun e w' => e = .returned (.int .i64 r) ∧ Below w.heap.size w w' := by
  have hu24 := Try.underlying24
  unfold haspref02_Is.f at h
  by_cases hc : a1_0 = 0 ∨ a2_0 = 0 ∨ a0 < 1 ∨ 6 < a0
  · rw [if_pos hc] at h
    obtain rfl := Option.some.inj h
    clear h
    have hc' : (a1_0 == 0) = true ∨ ((a1_0 == 0) = false ∧ (a2_0 == 0) = true) ∨ ((a1_0 == 0) = false ∧ (a2_0 == 0) = false ∧ a0 < 1) ∨ ((a1_0 == 0) = false ∧ (a2_0 == 0) = false ∧ 1 ≤ a0 ∧ 6 < a0) := by
      simp only [beq_iff_eq, beq_eq_false_iff_ne, ne_eq]; omega
    clear hc
    rcases hc' with h1 | ⟨h1, h2⟩ | ⟨h1, h2, h3⟩ | ⟨h1, h2, h3, h4⟩
    all_goals
      go_enter Try.func16, Try.ntmps16
      go_wp2
      go_ret
      exact ⟨rfl, ((Below.refl _ _).alloc (Nat.le_refl _) _).alloc (by simp) _⟩
  · rw [if_neg hc] at h
    obtain ⟨c, hcm, h⟩ := Option.bind_eq_some_iff.mp h
    have HCM := Aside0.mk hcm
    obtain rfl := Option.some.inj h
    clear hcm h
    have h1 : (a1_0 == 0) = false := by simp only [beq_eq_false_iff_ne, ne_eq]; omega
    have h2 : (a2_0 == 0) = false := by simp only [beq_eq_false_iff_ne, ne_eq]; omega
    have h3 : a0 = 1 ∨ a0 = 2 ∨ a0 = 3 ∨ a0 = 4 ∨ a0 = 5 ∨ a0 = 6 := by omega
    clear hc
    have HZ : Aside0 (∀ o1 o2, Below w.heap.size w ((w.alloc o1).alloc o2)) := ⟨fun o1 o2 => ((Below.refl _ _).alloc (Nat.le_refl _) _).alloc (by simp) _⟩
    cases hy : haspref02_Is.yes a0 c
    all_goals
      have HY := Lib.hid hy
      clear hy
      rcases h3 with rfl | rfl | rfl | rfl | rfl | rfl
    all_goals
      have hy := HY.out
      simp [haspref02_Is.yes] at hy
      go_enter Try.func16, Try.ntmps16
      go_wp2_with fail
      refine (haspref02_Compare.calls _ _ _ _ _ _ c _ HCM.out).mono ?_
      rintro e w1 ⟨rfl, HB⟩
      go_wp2
      try rw [HY.out]
      go_ret
      exact ⟨rfl, (below_then (HZ.out _ _) (HZ.out _ _).size HB).alloc (below_then (HZ.out _ _) (HZ.out _ _).size HB).size _⟩

end Go.Proofs.Ytjbaeibclcifmaa.V
