/- Package logic, function by function. -/
import Derived.Test.YtblbdepklmlcoaaDoorLa
import Derived.Test.YtblbdepklmlcoaaDoorWMore
import Derived.Test.YtblbdepklmlcoaaDoorWEqStruct
import Derived.WalkKit
import Derived.Outline
import Derived.Lib.Hide
import Derived.LoopTactic
namespace Go.Proofs.YtblbdepklmlcoaaDoor
open Go.RowKit Go.Proofs.YtblbdepklmlcoaaDoorW.PrintWords
set_option linter.unusedVariables false
set_option linter.unusedSimpArgs false
theorem LaidW.small {w : World} (h : LaidW w) : (0 < w.heap.size ∧ 1 < w.heap.size ∧ 2 < w.heap.size) ∧ (1 ≤ w.heap.size ∧ 2 ≤ w.heap.size ∧ 3 ≤ w.heap.size) := by
  have := h.size; omega
def plT (t e : Int) : Int := if e = 0 then (if t = 0 ∨ t = 1 then t else 2) else 0
theorem two_alloc (w : World) (o p : Obj) : Below w.heap.size w ((w.alloc o).alloc p) :=
  ((Below.refl _ w).alloc (Nat.le_refl _) o).alloc (by simp) p
theorem retV {a b c d : Int} (h : a = c) (k : b = d) : Ending.returned (.agg #[.int .i64 a, .int .i64 b]) = .returned (.agg #[.int .i64 c, .int .i64 d]) := by rw [h, k]
set_option maxHeartbeats 1000000 in
theorem plain_calls (t e : Int) (w : World) (hL : LaidW w) : Calls Tryd.prog 22 #[.agg #[.int .i64 t, .int .i64 e]] w fun en w' => en = .returned (.agg #[.int .i64 (plT t e), .int .i64 e]) ∧ Below w.heap.size w w' := by
  obtain ⟨⟨a0, a1, a2⟩, ⟨b1, b2, b3⟩⟩ := hL.small
  obtain ⟨hs, n0, n1, y0, y1, u0, u1⟩ := hL
  cases c1 : (e != 0)
  · obtain rfl : e = 0 := by simpa using c1
    cases c2 : (t != 0)
    · obtain rfl : t = 0 := by simpa using c2
      go_enter Tryd.func22, Tryd.ntmps22
      go_wp2
      exact bodyPost_ret (v := .agg #[.int .i64 0, .int .i64 0]) (by simp [results, Tryd.results22, go_sem]) rfl ⟨rfl, two_alloc _ _ _⟩
    · cases c3 : (t != 1)
      · obtain rfl : t = 1 := by simpa using c3
        go_enter Tryd.func22, Tryd.ntmps22
        go_wp2
        exact bodyPost_ret (v := .agg #[.int .i64 1, .int .i64 0]) (by simp [results, Tryd.results22, go_sem]) rfl ⟨rfl, two_alloc _ _ _⟩
      · have hp : plT t 0 = 2 := by simp [bne] at c2 c3; simp [plT, c2, c3]
        go_enter Tryd.func22, Tryd.ntmps22
        go_wp2
        exact bodyPost_ret (v := .agg #[.int .i64 2, .int .i64 0]) (by simp [results, Tryd.results22, go_sem]) rfl ⟨retV hp.symm rfl, two_alloc _ _ _⟩
  · have hp : plT t e = 0 := by simp [bne] at c1; simp [plT, c1]
    go_enter Tryd.func22, Tryd.ntmps22
    go_wp2
    exact bodyPost_ret (v := .agg #[.int .i64 0, .int .i64 e]) (by simp [results, Tryd.results22, go_sem]) rfl ⟨retV hp.symm rfl, two_alloc _ _ _⟩
/-- Two verdicts are one, as the machine tells it. -/
theorem eqA24 (d : Nat) (w : World) (x0 y0 : Int) (x1 y1 : Int) :
    (Op.equalIn (d + 2) 24 (.agg #[.int .i64 x0, .int .i64 x1]) (.agg #[.int .i64 y0, .int .i64 y1])).run Tryd.prog w = .ok (x0 == y0 && (x1 == y1)) w := by
  refine eqA_of Tryd.underlying24 (by kernel_rfl) ?_
  refine eqf_cons (by rfl) (by go_simp; rfl) (by go_simp; rfl) (by go_simp) ?_
  exact eqf_last (by rfl) (by go_simp; rfl) (by go_simp; rfl) (by go_simp)
attribute [local go_sem high] eqA24
def notT (t e : Int) : Int := if e = 0 then (if t = 0 then 1 else if t = 1 then 0 else 2) else 0
/-- What is known of the world behind the call of plain. -/
structure Aft (w w1 : World) (t e c d : Int) : Prop where
  b : Below ((w.alloc (.cells #[.int .i64 t, .int .i64 e] 24)).alloc (.cells #[.int .i64 c, .int .i64 d] 24)).heap.size ((w.alloc (.cells #[.int .i64 t, .int .i64 e] 24)).alloc (.cells #[.int .i64 c, .int .i64 d] 24)) w1
theorem aft_cells {w w1 : World} {t e c d : Int} (h : Aft w w1 t e c d) (hL : LaidW w) :
    (w.heap.size < w1.heap.size ∧ w.heap.size + 1 < w1.heap.size) ∧
    (w1.cell? ⟨w.heap.size, 0, none⟩ = some (.int .i64 t) ∧ w1.cell? ⟨w.heap.size, 1, none⟩ = some (.int .i64 e)) ∧
    (w1.cell? ⟨w.heap.size + 1, 0, none⟩ = some (.int .i64 c) ∧ w1.cell? ⟨w.heap.size + 1, 1, none⟩ = some (.int .i64 d)) ∧
    (w1.frozen? ⟨w.heap.size, 0, none⟩ = false ∧ w1.frozen? ⟨w.heap.size, 1, none⟩ = false) ∧
    (w1.frozen? ⟨w.heap.size + 1, 0, none⟩ = false ∧ w1.frozen? ⟨w.heap.size + 1, 1, none⟩ = false) := by
  have hs := h.b.size
  simp only [World.size_alloc] at hs
  refine ⟨⟨by omega, by omega⟩, ⟨?_, ?_⟩, ⟨?_, ?_⟩, ⟨?_, ?_⟩, ⟨?_, ?_⟩⟩
  all_goals first | (rw [h.b.cell (by first | (simp; done) | (simp; omega))]; go_simp; done) | (rw [h.b.frozen (by first | (simp; done) | (simp; omega))]; go_simp; done)
theorem after_two {w w1 : World} {t e c d : Int} (h : Aft w w1 t e c d) : Below w.heap.size w w1 := below_step (two_alloc w _ _) h.b
theorem below_sets {w w1 : World} (h : Below w.heap.size w w1) (b o : Nat) (v : Value) (hb : w.heap.size ≤ b) : Below w.heap.size w (w1.setCell ⟨b, o, none⟩ v) := h.setCell (p := ⟨b, o, none⟩) hb v
theorem LaidW.ne {w : World} (h : LaidW w) : (¬ 0 = w.heap.size ∧ ¬ 1 = w.heap.size ∧ ¬ 2 = w.heap.size) ∧ (¬ 0 = w.heap.size + 1 ∧ ¬ 1 = w.heap.size + 1 ∧ ¬ 2 = w.heap.size + 1) := by
  have := h.size; omega
theorem not_1 {t e : Int} (h : (plT t e == 1 && e == 0) = true) : notT t e = 0 ∧ e = 0 := by
  simp only [Bool.and_eq_true, beq_iff_eq] at h; obtain ⟨h, rfl⟩ := h
  unfold plT at h; unfold notT; simp at h ⊢; omega
theorem not_0 {t e : Int} (h : (plT t e == 0 && e == 0) = true) : notT t e = 1 ∧ e = 0 := by
  simp only [Bool.and_eq_true, beq_iff_eq] at h; obtain ⟨h, rfl⟩ := h
  unfold plT at h; unfold notT; simp at h ⊢; omega
theorem not_2 {t e : Int} (h : (plT t e == 1 && e == 0) = false) (k : (plT t e == 0 && e == 0) = false) : notT t e = plT t e := by
  by_cases h0 : e = 0
  · subst h0; unfold plT notT at *; simp at h k ⊢; omega
  · unfold plT notT; rw [if_neg h0, if_neg h0]
set_option maxHeartbeats 4000000 in
theorem not_calls (t e : Int) (w : World) (hL : LaidW w) : Calls Tryd.prog 12 #[.agg #[.int .i64 t, .int .i64 e]] w fun en w' => en = .returned (.agg #[.int .i64 (notT t e), .int .i64 e]) ∧ Below w.heap.size w w' := by
  obtain ⟨⟨i0, i1, i2⟩, ⟨i3, i4, i5⟩⟩ := hL.ne
  cases g1 : (plT t e == 1 && e == 0)
  · cases g0 : (plT t e == 0 && e == 0)
    · have G1 := Lib.hid (not_2 g1 g0)
      go_enter Tryd.func12, Tryd.ntmps12
      go_wp2_with (go_at_call 22; (with_reducible refine (plain_calls t e _ (hL.below (two_alloc _ _ _))).mono ?_); rintro en w1 ⟨rfl, hb⟩; have A : Aft w w1 t e 0 0 := ⟨hb⟩; obtain ⟨⟨s0, s1⟩, ⟨k0, k1⟩, ⟨k2, k3⟩, ⟨k4, k5⟩, ⟨k6, k7⟩⟩ := aft_cells A hL; obtain ⟨⟨z0, z1, z2⟩, ⟨z3, z4, z5⟩⟩ := (hL.below (after_two A)).small; obtain ⟨zs, n0, n1, y0, y1, u0, u1⟩ := hL.below (after_two A); clear hb)
      exact bodyPost_ret (v := .agg #[.int .i64 (plT t e), .int .i64 e]) (by simp [results, Tryd.results12, go_sem, *]) rfl ⟨retV G1.out.symm rfl, by repeat (first | exact after_two A | refine below_sets ?_ _ _ _ (by omega))⟩
    · have G1 := Lib.hid (not_0 g0)
      go_enter Tryd.func12, Tryd.ntmps12
      go_wp2_with (go_at_call 22; (with_reducible refine (plain_calls t e _ (hL.below (two_alloc _ _ _))).mono ?_); rintro en w1 ⟨rfl, hb⟩; have A : Aft w w1 t e 0 0 := ⟨hb⟩; obtain ⟨⟨s0, s1⟩, ⟨k0, k1⟩, ⟨k2, k3⟩, ⟨k4, k5⟩, ⟨k6, k7⟩⟩ := aft_cells A hL; obtain ⟨⟨z0, z1, z2⟩, ⟨z3, z4, z5⟩⟩ := (hL.below (after_two A)).small; obtain ⟨zs, n0, n1, y0, y1, u0, u1⟩ := hL.below (after_two A); clear hb)
      exact bodyPost_ret (v := .agg #[.int .i64 1, .int .i64 0]) (by simp [results, Tryd.results12, go_sem, *]) rfl ⟨retV G1.out.1.symm G1.out.2.symm, by repeat (first | exact after_two A | refine below_sets ?_ _ _ _ (by omega))⟩
  · have G1 := Lib.hid (not_1 g1)
    go_enter Tryd.func12, Tryd.ntmps12
    go_wp2_with (go_at_call 22; (with_reducible refine (plain_calls t e _ (hL.below (two_alloc _ _ _))).mono ?_); rintro en w1 ⟨rfl, hb⟩; have A : Aft w w1 t e 0 0 := ⟨hb⟩; obtain ⟨⟨s0, s1⟩, ⟨k0, k1⟩, ⟨k2, k3⟩, ⟨k4, k5⟩, ⟨k6, k7⟩⟩ := aft_cells A hL; obtain ⟨⟨z0, z1, z2⟩, ⟨z3, z4, z5⟩⟩ := (hL.below (after_two A)).small; obtain ⟨zs, n0, n1, y0, y1, u0, u1⟩ := hL.below (after_two A); clear hb)
    exact bodyPost_ret (v := .agg #[.int .i64 0, .int .i64 0]) (by simp [results, Tryd.results12, go_sem, *]) rfl ⟨retV G1.out.1.symm G1.out.2.symm, by repeat (first | exact after_two A | refine below_sets ?_ _ _ _ (by omega))⟩
end Go.Proofs.YtblbdepklmlcoaaDoor
