/- The document's answers by tables: the walks. -/
import Derived.Test.YtblbdepklmlcoaaDoorLd
import Derived.Deep.RegionHeld3
namespace Go.Proofs.YtblbdepklmlcoaaDoor
open Go.RowKit Go.Proofs.YtblbdepklmlcoaaDoorW.PrintWords A
set_option linter.unusedVariables false
set_option linter.unusedSimpArgs false
/-- What the region of Not knows of the world. -/
structure SN (w W : World) (a ae : Int) (m : Nat) (v : Int) : Prop where
  B : Below w.heap.size w W
  s : w.heap.size + 3 ≤ W.heap.size
  a0 : W.cell? ⟨w.heap.size, 0, none⟩ = some (.int .i64 a)
  a1 : W.cell? ⟨w.heap.size, 1, none⟩ = some (.int .i64 ae)
  r0 : ∃ x, W.cell? ⟨w.heap.size + 1, 0, none⟩ = some x
  r1 : ∃ x, W.cell? ⟨w.heap.size + 1, 1, none⟩ = some x
  t : W.cell? ⟨w.heap.size + 1 + 1, m, none⟩ = some (.int .i64 v)
  f0 : W.frozen? ⟨w.heap.size + 1, 0, none⟩ = false
  f1 : W.frozen? ⟨w.heap.size + 1, 1, none⟩ = false
theorem SN.below {w W W1 : World} {a ae : Int} {m : Nat} {v : Int} (h : SN w W a ae m v) (k : Below W.heap.size W W1) : SN w W1 a ae m v := by
  have hs := h.s
  obtain ⟨x, hx⟩ := h.r0
  obtain ⟨y, hy⟩ := h.r1
  exact ⟨below_step h.B k, Nat.le_trans hs k.size, (k.cell (by show w.heap.size < _; omega)).trans h.a0, (k.cell (by show w.heap.size < _; omega)).trans h.a1,
    ⟨x, (k.cell (by show w.heap.size + 1 < _; omega)).trans hx⟩, ⟨y, (k.cell (by show w.heap.size + 1 < _; omega)).trans hy⟩, (k.cell (by show w.heap.size + 1 + 1 < _; omega)).trans h.t,
    (k.frozen (by show w.heap.size + 1 < _; omega)).trans h.f0, (k.frozen (by show w.heap.size + 1 < _; omega)).trans h.f1⟩
theorem SN.store {w W : World} {a ae : Int} {m : Nat} {v : Int} (h : SN w W a ae m v) (p q : Value) (hp : p.oneCell' = true) (hq : q.oneCell' = true) :
    SN w ((W.setCell ⟨w.heap.size + 1, 0, none⟩ p).setCell ⟨w.heap.size + 1, 1, none⟩ q) a ae m v := by
  have B := below_sets (below_sets h.B (w.heap.size + 1) 0 p (by omega)) (w.heap.size + 1) 1 q (by omega)
  obtain ⟨_, hs, a0, a1, ⟨x, r0⟩, ⟨y, r1⟩, t, f0, f1⟩ := h
  refine ⟨B, ?_, ?_, ?_, ⟨p, ?_⟩, ⟨q, ?_⟩, ?_, ?_, ?_⟩
  all_goals (go_simp; done)
abbrev SNc (w : World) (a ae : Int) (m : Nat) (v : Int) (W : World) : Prop :=
  SN w W a ae m v ∧ w.heap.size < W.heap.size ∧ w.heap.size + 1 < W.heap.size ∧ W.cell? ⟨w.heap.size, 0, none⟩ = some (.int .i64 a) ∧ W.cell? ⟨w.heap.size, 1, none⟩ = some (.int .i64 ae) ∧ W.cell? ⟨w.heap.size + 1 + 1, m, none⟩ = some (.int .i64 v)
theorem snc {w W : World} {a ae : Int} {m : Nat} {v : Int} (h : SN w W a ae m v) : SNc w a ae m v W := ⟨h, by have := h.s; omega, by have := h.s; omega, h.a0, h.a1, h.t⟩
set_option maxHeartbeats 4000000 in
theorem rnot_0 (a ae : Int) (w : World) (hm : haspref04_Mark.f a ae = some 0) :
    Calls Tryd.prog 13 #[.agg #[.int .i64 a, .int .i64 ae]] w fun en w' => en = .returned (.agg #[.int .i64 1, .int .i64 ae]) ∧ Below w.heap.size w w' := by
  have X : SN w (((w.alloc (.cells #[.int .i64 a, .int .i64 ae] 24)).alloc (.cells #[.int .i64 0, .int .i64 0] 24)).alloc (.cells #[.int .i64 1, .int .i64 0, .int .i64 2, .int .i64 0] 41)) a ae 0 1 := by
    refine ⟨by repeat (first | exact Below.refl _ _ | apply below_alloc), by simp, ?_, ?_, ⟨.int .i64 0, ?_⟩, ⟨.int .i64 0, ?_⟩, ?_, ?_, ?_⟩
    all_goals (go_simp; done)
  have X0 := snc (X.below (below_drew1 (Below.refl _ _)))
  go_enter Tryd.func13, Tryd.ntmps13
  go_wp2_with fail
  go_region_held3 (fun W => SN w W a ae 0 1 ∧ w.heap.size < W.heap.size ∧ w.heap.size + 1 < W.heap.size ∧ W.cell? ⟨w.heap.size, 0, none⟩ = some (.int .i64 a) ∧ W.cell? ⟨w.heap.size, 1, none⟩ = some (.int .i64 ae) ∧ W.cell? ⟨w.heap.size + 1 + 1, 0, none⟩ = some (.int .i64 1)) (first | exact X0 | exact snc (SN.below (And.left (by assumption)) (by assumption)) | exact snc (SN.store (And.left (by assumption)) _ _ rfl rfl))
    (first | (go_at_call 21; (with_reducible refine (haspref04_Mark.calls a ae 0 _ hm).mono ?_); rintro en w1 ⟨rfl, hb⟩; have hS1 := SN.below (And.left (by assumption)) hb; obtain ⟨x, hx⟩ := hS1.r0; obtain ⟨y, hy⟩ := hS1.r1; have f0 := hS1.f0; have f1 := hS1.f1))
  go_wp2
  refine bodyPost_ret (v := .agg #[.int .i64 (1), .int .i64 (ae)]) ?_ rfl ⟨rfl, ?_⟩
  · simp only [results, Tryd.results13]
    go_simp
  · first | exact SN.B (And.left (by assumption)) | (repeat (with_reducible refine below_sets ?_ _ _ _ ?_) <;> first | exact hS1.B | exact hS3.B | omega)
set_option maxHeartbeats 4000000 in
theorem rnot_1 (a ae : Int) (w : World) (hm : haspref04_Mark.f a ae = some 1) :
    Calls Tryd.prog 13 #[.agg #[.int .i64 a, .int .i64 ae]] w fun en w' => en = .returned (.agg #[.int .i64 0, .int .i64 ae]) ∧ Below w.heap.size w w' := by
  have X : SN w (((w.alloc (.cells #[.int .i64 a, .int .i64 ae] 24)).alloc (.cells #[.int .i64 0, .int .i64 0] 24)).alloc (.cells #[.int .i64 1, .int .i64 0, .int .i64 2, .int .i64 0] 41)) a ae 1 0 := by
    refine ⟨by repeat (first | exact Below.refl _ _ | apply below_alloc), by simp, ?_, ?_, ⟨.int .i64 0, ?_⟩, ⟨.int .i64 0, ?_⟩, ?_, ?_, ?_⟩
    all_goals (go_simp; done)
  have X0 := snc (X.below (below_drew1 (Below.refl _ _)))
  go_enter Tryd.func13, Tryd.ntmps13
  go_wp2_with fail
  go_region_held3 (fun W => SN w W a ae 1 0 ∧ w.heap.size < W.heap.size ∧ w.heap.size + 1 < W.heap.size ∧ W.cell? ⟨w.heap.size, 0, none⟩ = some (.int .i64 a) ∧ W.cell? ⟨w.heap.size, 1, none⟩ = some (.int .i64 ae) ∧ W.cell? ⟨w.heap.size + 1 + 1, 1, none⟩ = some (.int .i64 0)) (first | exact X0 | exact snc (SN.below (And.left (by assumption)) (by assumption)) | exact snc (SN.store (And.left (by assumption)) _ _ rfl rfl))
    (first | (go_at_call 21; (with_reducible refine (haspref04_Mark.calls a ae 1 _ hm).mono ?_); rintro en w1 ⟨rfl, hb⟩; have hS1 := SN.below (And.left (by assumption)) hb; obtain ⟨x, hx⟩ := hS1.r0; obtain ⟨y, hy⟩ := hS1.r1; have f0 := hS1.f0; have f1 := hS1.f1))
  go_wp2
  refine bodyPost_ret (v := .agg #[.int .i64 (0), .int .i64 (ae)]) ?_ rfl ⟨rfl, ?_⟩
  · simp only [results, Tryd.results13]
    go_simp
  · first | exact SN.B (And.left (by assumption)) | (repeat (with_reducible refine below_sets ?_ _ _ _ ?_) <;> first | exact hS1.B | exact hS3.B | omega)
set_option maxHeartbeats 4000000 in
theorem rnot_2 (a ae : Int) (w : World) (hm : haspref04_Mark.f a ae = some 2) :
    Calls Tryd.prog 13 #[.agg #[.int .i64 a, .int .i64 ae]] w fun en w' => en = .returned (.agg #[.int .i64 2, .int .i64 ae]) ∧ Below w.heap.size w w' := by
  have X : SN w (((w.alloc (.cells #[.int .i64 a, .int .i64 ae] 24)).alloc (.cells #[.int .i64 0, .int .i64 0] 24)).alloc (.cells #[.int .i64 1, .int .i64 0, .int .i64 2, .int .i64 0] 41)) a ae 2 2 := by
    refine ⟨by repeat (first | exact Below.refl _ _ | apply below_alloc), by simp, ?_, ?_, ⟨.int .i64 0, ?_⟩, ⟨.int .i64 0, ?_⟩, ?_, ?_, ?_⟩
    all_goals (go_simp; done)
  have X0 := snc (X.below (below_drew1 (Below.refl _ _)))
  go_enter Tryd.func13, Tryd.ntmps13
  go_wp2_with fail
  go_region_held3 (fun W => SN w W a ae 2 2 ∧ w.heap.size < W.heap.size ∧ w.heap.size + 1 < W.heap.size ∧ W.cell? ⟨w.heap.size, 0, none⟩ = some (.int .i64 a) ∧ W.cell? ⟨w.heap.size, 1, none⟩ = some (.int .i64 ae) ∧ W.cell? ⟨w.heap.size + 1 + 1, 2, none⟩ = some (.int .i64 2)) (first | exact X0 | exact snc (SN.below (And.left (by assumption)) (by assumption)) | exact snc (SN.store (And.left (by assumption)) _ _ rfl rfl))
    (first | (go_at_call 21; (with_reducible refine (haspref04_Mark.calls a ae 2 _ hm).mono ?_); rintro en w1 ⟨rfl, hb⟩; have hS1 := SN.below (And.left (by assumption)) hb; obtain ⟨x, hx⟩ := hS1.r0; obtain ⟨y, hy⟩ := hS1.r1; have f0 := hS1.f0; have f1 := hS1.f1))
  go_wp2
  refine bodyPost_ret (v := .agg #[.int .i64 (2), .int .i64 (ae)]) ?_ rfl ⟨rfl, ?_⟩
  · simp only [results, Tryd.results13]
    go_simp
  · first | exact SN.B (And.left (by assumption)) | (repeat (with_reducible refine below_sets ?_ _ _ _ ?_) <;> first | exact hS1.B | exact hS3.B | omega)
set_option maxHeartbeats 4000000 in
theorem rnot_3 (a ae : Int) (w : World) (hm : haspref04_Mark.f a ae = some 3) :
    Calls Tryd.prog 13 #[.agg #[.int .i64 a, .int .i64 ae]] w fun en w' => en = .returned (.agg #[.int .i64 0, .int .i64 ae]) ∧ Below w.heap.size w w' := by
  have X : SN w (((w.alloc (.cells #[.int .i64 a, .int .i64 ae] 24)).alloc (.cells #[.int .i64 0, .int .i64 0] 24)).alloc (.cells #[.int .i64 1, .int .i64 0, .int .i64 2, .int .i64 0] 41)) a ae 3 0 := by
    refine ⟨by repeat (first | exact Below.refl _ _ | apply below_alloc), by simp, ?_, ?_, ⟨.int .i64 0, ?_⟩, ⟨.int .i64 0, ?_⟩, ?_, ?_, ?_⟩
    all_goals (go_simp; done)
  have X0 := snc (X.below (below_drew1 (Below.refl _ _)))
  go_enter Tryd.func13, Tryd.ntmps13
  go_wp2_with fail
  go_region_held3 (fun W => SN w W a ae 3 0 ∧ w.heap.size < W.heap.size ∧ w.heap.size + 1 < W.heap.size ∧ W.cell? ⟨w.heap.size, 0, none⟩ = some (.int .i64 a) ∧ W.cell? ⟨w.heap.size, 1, none⟩ = some (.int .i64 ae) ∧ W.cell? ⟨w.heap.size + 1 + 1, 3, none⟩ = some (.int .i64 0)) (first | exact X0 | exact snc (SN.below (And.left (by assumption)) (by assumption)) | exact snc (SN.store (And.left (by assumption)) _ _ rfl rfl))
    (first | (go_at_call 21; (with_reducible refine (haspref04_Mark.calls a ae 3 _ hm).mono ?_); rintro en w1 ⟨rfl, hb⟩; have hS1 := SN.below (And.left (by assumption)) hb; obtain ⟨x, hx⟩ := hS1.r0; obtain ⟨y, hy⟩ := hS1.r1; have f0 := hS1.f0; have f1 := hS1.f1))
  go_wp2
  refine bodyPost_ret (v := .agg #[.int .i64 (0), .int .i64 (ae)]) ?_ rfl ⟨rfl, ?_⟩
  · simp only [results, Tryd.results13]
    go_simp
  · first | exact SN.B (And.left (by assumption)) | (repeat (with_reducible refine below_sets ?_ _ _ _ ?_) <;> first | exact hS1.B | exact hS3.B | omega)
/-- What the regions of And and Or know of the world. -/
structure SA (w W : World) (a ae b be : Int) (m : Nat) (v : Int) : Prop where
  B : Below w.heap.size w W
  s : w.heap.size + 4 ≤ W.heap.size
  a0 : W.cell? ⟨w.heap.size, 0, none⟩ = some (.int .i64 a)
  a1 : W.cell? ⟨w.heap.size, 1, none⟩ = some (.int .i64 ae)
  b0 : W.cell? ⟨w.heap.size + 1, 0, none⟩ = some (.int .i64 b)
  b1 : W.cell? ⟨w.heap.size + 1, 1, none⟩ = some (.int .i64 be)
  r0 : ∃ x, W.cell? ⟨w.heap.size + 1 + 1, 0, none⟩ = some x
  r1 : ∃ x, W.cell? ⟨w.heap.size + 1 + 1, 1, none⟩ = some x
  t : W.cell? ⟨w.heap.size + 1 + 1 + 1, m, none⟩ = some (.int .i64 v)
  f0 : W.frozen? ⟨w.heap.size + 1 + 1, 0, none⟩ = false
  f1 : W.frozen? ⟨w.heap.size + 1 + 1, 1, none⟩ = false
theorem SA.below {w W W1 : World} {a ae b be : Int} {m : Nat} {v : Int} (h : SA w W a ae b be m v) (k : Below W.heap.size W W1) : SA w W1 a ae b be m v := by
  have hs := h.s
  obtain ⟨x, hx⟩ := h.r0
  obtain ⟨y, hy⟩ := h.r1
  exact ⟨below_step h.B k, Nat.le_trans hs k.size, (k.cell (by show w.heap.size < _; omega)).trans h.a0, (k.cell (by show w.heap.size < _; omega)).trans h.a1, (k.cell (by show w.heap.size + 1 < _; omega)).trans h.b0, (k.cell (by show w.heap.size + 1 < _; omega)).trans h.b1,
    ⟨x, (k.cell (by show w.heap.size + 1 + 1 < _; omega)).trans hx⟩, ⟨y, (k.cell (by show w.heap.size + 1 + 1 < _; omega)).trans hy⟩, (k.cell (by show w.heap.size + 1 + 1 + 1 < _; omega)).trans h.t,
    (k.frozen (by show w.heap.size + 1 + 1 < _; omega)).trans h.f0, (k.frozen (by show w.heap.size + 1 + 1 < _; omega)).trans h.f1⟩
theorem SA.store {w W : World} {a ae b be : Int} {m : Nat} {v : Int} (h : SA w W a ae b be m v) (p q : Value) (hp : p.oneCell' = true) (hq : q.oneCell' = true) :
    SA w ((W.setCell ⟨w.heap.size + 1 + 1, 0, none⟩ p).setCell ⟨w.heap.size + 1 + 1, 1, none⟩ q) a ae b be m v := by
  have B := below_sets (below_sets h.B (w.heap.size + 1 + 1) 0 p (by omega)) (w.heap.size + 1 + 1) 1 q (by omega)
  obtain ⟨_, hs, a0, a1, b0, b1, ⟨x, r0⟩, ⟨y, r1⟩, t, f0, f1⟩ := h
  refine ⟨B, ?_, ?_, ?_, ?_, ?_, ⟨p, ?_⟩, ⟨q, ?_⟩, ?_, ?_, ?_⟩
  all_goals (go_simp; done)
abbrev SAc (w : World) (a ae b be : Int) (m : Nat) (v : Int) (W : World) : Prop :=
  SA w W a ae b be m v ∧ w.heap.size < W.heap.size ∧ w.heap.size + 1 < W.heap.size ∧ w.heap.size + 1 + 1 < W.heap.size ∧ W.cell? ⟨w.heap.size, 0, none⟩ = some (.int .i64 a) ∧ W.cell? ⟨w.heap.size, 1, none⟩ = some (.int .i64 ae) ∧ W.cell? ⟨w.heap.size + 1, 0, none⟩ = some (.int .i64 b) ∧ W.cell? ⟨w.heap.size + 1, 1, none⟩ = some (.int .i64 be) ∧ W.cell? ⟨w.heap.size + 1 + 1 + 1, m, none⟩ = some (.int .i64 v)
theorem sac {w W : World} {a ae b be : Int} {m : Nat} {v : Int} (h : SA w W a ae b be m v) : SAc w a ae b be m v W := ⟨h, by have := h.s; omega, by have := h.s; omega, by have := h.s; omega, h.a0, h.a1, h.b0, h.b1, h.t⟩
end Go.Proofs.YtblbdepklmlcoaaDoor
