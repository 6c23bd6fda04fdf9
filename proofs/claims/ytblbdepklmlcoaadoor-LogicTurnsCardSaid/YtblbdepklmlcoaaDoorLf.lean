/- The document's answers by tables, And: the walks. -/
import Derived.Test.YtblbdepklmlcoaaDoorLe
import Derived.Deep.RegionHeld3
namespace Go.Proofs.YtblbdepklmlcoaaDoor
open Go.RowKit Go.Proofs.YtblbdepklmlcoaaDoorW.PrintWords A
set_option linter.unusedVariables false
set_option linter.unusedSimpArgs false
set_option maxHeartbeats 4000000 in
theorem rand_00 (a ae b be r1 r2 : Int) (w : World) (hm : haspref04_Mark.f a ae = some 0) (hn : haspref04_Mark.f b be = some 0) (ht : haspref04_told.f 0 a ae b be = some (r1, r2)) :
    Calls Tryd.prog 9 #[.agg #[.int .i64 a, .int .i64 ae], .agg #[.int .i64 b, .int .i64 be]] w fun en w' => en = .returned (.agg #[.int .i64 r1, .int .i64 r2]) ∧ Below w.heap.size w w' := by
  have X : SA w ((((w.alloc (.cells #[.int .i64 a, .int .i64 ae] 24)).alloc (.cells #[.int .i64 b, .int .i64 be] 24)).alloc (.cells #[.int .i64 0, .int .i64 0] 24)).alloc (.cells #[.int .i64 0, .int .i64 0, .int .i64 0, .int .i64 0, .int .i64 0, .int .i64 1, .int .i64 2, .int .i64 3, .int .i64 0, .int .i64 2, .int .i64 2, .int .i64 3, .int .i64 0, .int .i64 3, .int .i64 3, .int .i64 3] 42)) a ae b be 0 0 := by
    refine ⟨by repeat (first | exact Below.refl _ _ | apply below_alloc), by simp, ?_, ?_, ?_, ?_, ⟨.int .i64 0, ?_⟩, ⟨.int .i64 0, ?_⟩, ?_, ?_, ?_⟩
    all_goals (go_simp; done)
  have X0 := sac (X.below (below_drew1 (Below.refl _ _)))
  go_enter Tryd.func9, Tryd.ntmps9
  go_wp2_with fail
  go_region_held3 (fun W => SA w W a ae b be 0 0 ∧ w.heap.size < W.heap.size ∧ w.heap.size + 1 < W.heap.size ∧ w.heap.size + 1 + 1 < W.heap.size ∧ W.cell? ⟨w.heap.size, 0, none⟩ = some (.int .i64 a) ∧ W.cell? ⟨w.heap.size, 1, none⟩ = some (.int .i64 ae) ∧ W.cell? ⟨w.heap.size + 1, 0, none⟩ = some (.int .i64 b) ∧ W.cell? ⟨w.heap.size + 1, 1, none⟩ = some (.int .i64 be) ∧ W.cell? ⟨w.heap.size + 1 + 1 + 1, 0, none⟩ = some (.int .i64 0)) (first | exact X0 | exact sac (SA.below (And.left (by assumption)) (by assumption)) | exact sac (SA.store (And.left (by assumption)) _ _ rfl rfl))
    (first | (go_at_call 21; first | ((with_reducible refine (haspref04_Mark.calls a ae 0 _ hm).mono ?_); rintro en w1 ⟨rfl, hb⟩) | ((with_reducible refine (haspref04_Mark.calls b be 0 _ hn).mono ?_); rintro en w1 ⟨rfl, hb⟩)) | (go_at_call 20; (with_reducible refine (haspref04_told.calls 0 a ae b be r1 r2 _ ht).mono ?_); rintro en w1 ⟨rfl, hb⟩; have hS1 := SA.below (And.left (by assumption)) hb; obtain ⟨x, hx⟩ := hS1.r0; obtain ⟨y, hy⟩ := hS1.r1; have f0 := hS1.f0; have f1 := hS1.f1))
  go_wp2
  refine bodyPost_ret (v := .agg #[.int .i64 (r1), .int .i64 (r2)]) ?_ rfl ⟨rfl, ?_⟩
  · simp only [results, Tryd.results9]
    go_simp
  · first | exact SA.B (And.left (by assumption)) | (repeat (with_reducible refine below_sets ?_ _ _ _ ?_) <;> first | exact hS1.B | exact hS3.B | omega)
set_option maxHeartbeats 4000000 in
theorem rand_01 (a ae b be r1 r2 : Int) (w : World) (hm : haspref04_Mark.f a ae = some 0) (hn : haspref04_Mark.f b be = some 1) (ht : haspref04_told.f 0 a ae b be = some (r1, r2)) :
    Calls Tryd.prog 9 #[.agg #[.int .i64 a, .int .i64 ae], .agg #[.int .i64 b, .int .i64 be]] w fun en w' => en = .returned (.agg #[.int .i64 r1, .int .i64 r2]) ∧ Below w.heap.size w w' := by
  have X : SA w ((((w.alloc (.cells #[.int .i64 a, .int .i64 ae] 24)).alloc (.cells #[.int .i64 b, .int .i64 be] 24)).alloc (.cells #[.int .i64 0, .int .i64 0] 24)).alloc (.cells #[.int .i64 0, .int .i64 0, .int .i64 0, .int .i64 0, .int .i64 0, .int .i64 1, .int .i64 2, .int .i64 3, .int .i64 0, .int .i64 2, .int .i64 2, .int .i64 3, .int .i64 0, .int .i64 3, .int .i64 3, .int .i64 3] 42)) a ae b be 1 0 := by
    refine ⟨by repeat (first | exact Below.refl _ _ | apply below_alloc), by simp, ?_, ?_, ?_, ?_, ⟨.int .i64 0, ?_⟩, ⟨.int .i64 0, ?_⟩, ?_, ?_, ?_⟩
    all_goals (go_simp; done)
  have X0 := sac (X.below (below_drew1 (Below.refl _ _)))
  go_enter Tryd.func9, Tryd.ntmps9
  go_wp2_with fail
  go_region_held3 (fun W => SA w W a ae b be 1 0 ∧ w.heap.size < W.heap.size ∧ w.heap.size + 1 < W.heap.size ∧ w.heap.size + 1 + 1 < W.heap.size ∧ W.cell? ⟨w.heap.size, 0, none⟩ = some (.int .i64 a) ∧ W.cell? ⟨w.heap.size, 1, none⟩ = some (.int .i64 ae) ∧ W.cell? ⟨w.heap.size + 1, 0, none⟩ = some (.int .i64 b) ∧ W.cell? ⟨w.heap.size + 1, 1, none⟩ = some (.int .i64 be) ∧ W.cell? ⟨w.heap.size + 1 + 1 + 1, 1, none⟩ = some (.int .i64 0)) (first | exact X0 | exact sac (SA.below (And.left (by assumption)) (by assumption)) | exact sac (SA.store (And.left (by assumption)) _ _ rfl rfl))
    (first | (go_at_call 21; first | ((with_reducible refine (haspref04_Mark.calls a ae 0 _ hm).mono ?_); rintro en w1 ⟨rfl, hb⟩) | ((with_reducible refine (haspref04_Mark.calls b be 1 _ hn).mono ?_); rintro en w1 ⟨rfl, hb⟩)) | (go_at_call 20; (with_reducible refine (haspref04_told.calls 0 a ae b be r1 r2 _ ht).mono ?_); rintro en w1 ⟨rfl, hb⟩; have hS1 := SA.below (And.left (by assumption)) hb; obtain ⟨x, hx⟩ := hS1.r0; obtain ⟨y, hy⟩ := hS1.r1; have f0 := hS1.f0; have f1 := hS1.f1))
  go_wp2
  refine bodyPost_ret (v := .agg #[.int .i64 (r1), .int .i64 (r2)]) ?_ rfl ⟨rfl, ?_⟩
  · simp only [results, Tryd.results9]
    go_simp
  · first | exact SA.B (And.left (by assumption)) | (repeat (with_reducible refine below_sets ?_ _ _ _ ?_) <;> first | exact hS1.B | exact hS3.B | omega)
set_option maxHeartbeats 4000000 in
theorem rand_02 (a ae b be r1 r2 : Int) (w : World) (hm : haspref04_Mark.f a ae = some 0) (hn : haspref04_Mark.f b be = some 2) (ht : haspref04_told.f 0 a ae b be = some (r1, r2)) :
    Calls Tryd.prog 9 #[.agg #[.int .i64 a, .int .i64 ae], .agg #[.int .i64 b, .int .i64 be]] w fun en w' => en = .returned (.agg #[.int .i64 r1, .int .i64 r2]) ∧ Below w.heap.size w w' := by
  have X : SA w ((((w.alloc (.cells #[.int .i64 a, .int .i64 ae] 24)).alloc (.cells #[.int .i64 b, .int .i64 be] 24)).alloc (.cells #[.int .i64 0, .int .i64 0] 24)).alloc (.cells #[.int .i64 0, .int .i64 0, .int .i64 0, .int .i64 0, .int .i64 0, .int .i64 1, .int .i64 2, .int .i64 3, .int .i64 0, .int .i64 2, .int .i64 2, .int .i64 3, .int .i64 0, .int .i64 3, .int .i64 3, .int .i64 3] 42)) a ae b be 2 0 := by
    refine ⟨by repeat (first | exact Below.refl _ _ | apply below_alloc), by simp, ?_, ?_, ?_, ?_, ⟨.int .i64 0, ?_⟩, ⟨.int .i64 0, ?_⟩, ?_, ?_, ?_⟩
    all_goals (go_simp; done)
  have X0 := sac (X.below (below_drew1 (Below.refl _ _)))
  go_enter Tryd.func9, Tryd.ntmps9
  go_wp2_with fail
  go_region_held3 (fun W => SA w W a ae b be 2 0 ∧ w.heap.size < W.heap.size ∧ w.heap.size + 1 < W.heap.size ∧ w.heap.size + 1 + 1 < W.heap.size ∧ W.cell? ⟨w.heap.size, 0, none⟩ = some (.int .i64 a) ∧ W.cell? ⟨w.heap.size, 1, none⟩ = some (.int .i64 ae) ∧ W.cell? ⟨w.heap.size + 1, 0, none⟩ = some (.int .i64 b) ∧ W.cell? ⟨w.heap.size + 1, 1, none⟩ = some (.int .i64 be) ∧ W.cell? ⟨w.heap.size + 1 + 1 + 1, 2, none⟩ = some (.int .i64 0)) (first | exact X0 | exact sac (SA.below (And.left (by assumption)) (by assumption)) | exact sac (SA.store (And.left (by assumption)) _ _ rfl rfl))
    (first | (go_at_call 21; first | ((with_reducible refine (haspref04_Mark.calls a ae 0 _ hm).mono ?_); rintro en w1 ⟨rfl, hb⟩) | ((with_reducible refine (haspref04_Mark.calls b be 2 _ hn).mono ?_); rintro en w1 ⟨rfl, hb⟩)) | (go_at_call 20; (with_reducible refine (haspref04_told.calls 0 a ae b be r1 r2 _ ht).mono ?_); rintro en w1 ⟨rfl, hb⟩; have hS1 := SA.below (And.left (by assumption)) hb; obtain ⟨x, hx⟩ := hS1.r0; obtain ⟨y, hy⟩ := hS1.r1; have f0 := hS1.f0; have f1 := hS1.f1))
  go_wp2
  refine bodyPost_ret (v := .agg #[.int .i64 (r1), .int .i64 (r2)]) ?_ rfl ⟨rfl, ?_⟩
  · simp only [results, Tryd.results9]
    go_simp
  · first | exact SA.B (And.left (by assumption)) | (repeat (with_reducible refine below_sets ?_ _ _ _ ?_) <;> first | exact hS1.B | exact hS3.B | omega)
set_option maxHeartbeats 4000000 in
theorem rand_03 (a ae b be r1 r2 : Int) (w : World) (hm : haspref04_Mark.f a ae = some 0) (hn : haspref04_Mark.f b be = some 3) (ht : haspref04_told.f 0 a ae b be = some (r1, r2)) :
    Calls Tryd.prog 9 #[.agg #[.int .i64 a, .int .i64 ae], .agg #[.int .i64 b, .int .i64 be]] w fun en w' => en = .returned (.agg #[.int .i64 r1, .int .i64 r2]) ∧ Below w.heap.size w w' := by
  have X : SA w ((((w.alloc (.cells #[.int .i64 a, .int .i64 ae] 24)).alloc (.cells #[.int .i64 b, .int .i64 be] 24)).alloc (.cells #[.int .i64 0, .int .i64 0] 24)).alloc (.cells #[.int .i64 0, .int .i64 0, .int .i64 0, .int .i64 0, .int .i64 0, .int .i64 1, .int .i64 2, .int .i64 3, .int .i64 0, .int .i64 2, .int .i64 2, .int .i64 3, .int .i64 0, .int .i64 3, .int .i64 3, .int .i64 3] 42)) a ae b be 3 0 := by
    refine ⟨by repeat (first | exact Below.refl _ _ | apply below_alloc), by simp, ?_, ?_, ?_, ?_, ⟨.int .i64 0, ?_⟩, ⟨.int .i64 0, ?_⟩, ?_, ?_, ?_⟩
    all_goals (go_simp; done)
  have X0 := sac (X.below (below_drew1 (Below.refl _ _)))
  go_enter Tryd.func9, Tryd.ntmps9
  go_wp2_with fail
  go_region_held3 (fun W => SA w W a ae b be 3 0 ∧ w.heap.size < W.heap.size ∧ w.heap.size + 1 < W.heap.size ∧ w.heap.size + 1 + 1 < W.heap.size ∧ W.cell? ⟨w.heap.size, 0, none⟩ = some (.int .i64 a) ∧ W.cell? ⟨w.heap.size, 1, none⟩ = some (.int .i64 ae) ∧ W.cell? ⟨w.heap.size + 1, 0, none⟩ = some (.int .i64 b) ∧ W.cell? ⟨w.heap.size + 1, 1, none⟩ = some (.int .i64 be) ∧ W.cell? ⟨w.heap.size + 1 + 1 + 1, 3, none⟩ = some (.int .i64 0)) (first | exact X0 | exact sac (SA.below (And.left (by assumption)) (by assumption)) | exact sac (SA.store (And.left (by assumption)) _ _ rfl rfl))
    (first | (go_at_call 21; first | ((with_reducible refine (haspref04_Mark.calls a ae 0 _ hm).mono ?_); rintro en w1 ⟨rfl, hb⟩) | ((with_reducible refine (haspref04_Mark.calls b be 3 _ hn).mono ?_); rintro en w1 ⟨rfl, hb⟩)) | (go_at_call 20; (with_reducible refine (haspref04_told.calls 0 a ae b be r1 r2 _ ht).mono ?_); rintro en w1 ⟨rfl, hb⟩; have hS1 := SA.below (And.left (by assumption)) hb; obtain ⟨x, hx⟩ := hS1.r0; obtain ⟨y, hy⟩ := hS1.r1; have f0 := hS1.f0; have f1 := hS1.f1))
  go_wp2
  refine bodyPost_ret (v := .agg #[.int .i64 (r1), .int .i64 (r2)]) ?_ rfl ⟨rfl, ?_⟩
  · simp only [results, Tryd.results9]
    go_simp
  · first | exact SA.B (And.left (by assumption)) | (repeat (with_reducible refine below_sets ?_ _ _ _ ?_) <;> first | exact hS1.B | exact hS3.B | omega)
set_option maxHeartbeats 4000000 in
theorem rand_10 (a ae b be r1 r2 : Int) (w : World) (hm : haspref04_Mark.f a ae = some 1) (hn : haspref04_Mark.f b be = some 0) (ht : haspref04_told.f 0 a ae b be = some (r1, r2)) :
    Calls Tryd.prog 9 #[.agg #[.int .i64 a, .int .i64 ae], .agg #[.int .i64 b, .int .i64 be]] w fun en w' => en = .returned (.agg #[.int .i64 r1, .int .i64 r2]) ∧ Below w.heap.size w w' := by
  have X : SA w ((((w.alloc (.cells #[.int .i64 a, .int .i64 ae] 24)).alloc (.cells #[.int .i64 b, .int .i64 be] 24)).alloc (.cells #[.int .i64 0, .int .i64 0] 24)).alloc (.cells #[.int .i64 0, .int .i64 0, .int .i64 0, .int .i64 0, .int .i64 0, .int .i64 1, .int .i64 2, .int .i64 3, .int .i64 0, .int .i64 2, .int .i64 2, .int .i64 3, .int .i64 0, .int .i64 3, .int .i64 3, .int .i64 3] 42)) a ae b be 4 0 := by
    refine ⟨by repeat (first | exact Below.refl _ _ | apply below_alloc), by simp, ?_, ?_, ?_, ?_, ⟨.int .i64 0, ?_⟩, ⟨.int .i64 0, ?_⟩, ?_, ?_, ?_⟩
    all_goals (go_simp; done)
  have X0 := sac (X.below (below_drew1 (Below.refl _ _)))
  go_enter Tryd.func9, Tryd.ntmps9
  go_wp2_with fail
  go_region_held3 (fun W => SA w W a ae b be 4 0 ∧ w.heap.size < W.heap.size ∧ w.heap.size + 1 < W.heap.size ∧ w.heap.size + 1 + 1 < W.heap.size ∧ W.cell? ⟨w.heap.size, 0, none⟩ = some (.int .i64 a) ∧ W.cell? ⟨w.heap.size, 1, none⟩ = some (.int .i64 ae) ∧ W.cell? ⟨w.heap.size + 1, 0, none⟩ = some (.int .i64 b) ∧ W.cell? ⟨w.heap.size + 1, 1, none⟩ = some (.int .i64 be) ∧ W.cell? ⟨w.heap.size + 1 + 1 + 1, 4, none⟩ = some (.int .i64 0)) (first | exact X0 | exact sac (SA.below (And.left (by assumption)) (by assumption)) | exact sac (SA.store (And.left (by assumption)) _ _ rfl rfl))
    (first | (go_at_call 21; first | ((with_reducible refine (haspref04_Mark.calls a ae 1 _ hm).mono ?_); rintro en w1 ⟨rfl, hb⟩) | ((with_reducible refine (haspref04_Mark.calls b be 0 _ hn).mono ?_); rintro en w1 ⟨rfl, hb⟩)) | (go_at_call 20; (with_reducible refine (haspref04_told.calls 0 a ae b be r1 r2 _ ht).mono ?_); rintro en w1 ⟨rfl, hb⟩; have hS1 := SA.below (And.left (by assumption)) hb; obtain ⟨x, hx⟩ := hS1.r0; obtain ⟨y, hy⟩ := hS1.r1; have f0 := hS1.f0; have f1 := hS1.f1))
  go_wp2
  refine bodyPost_ret (v := .agg #[.int .i64 (r1), .int .i64 (r2)]) ?_ rfl ⟨rfl, ?_⟩
  · simp only [results, Tryd.results9]
    go_simp
  · first | exact SA.B (And.left (by assumption)) | (repeat (with_reducible refine below_sets ?_ _ _ _ ?_) <;> first | exact hS1.B | exact hS3.B | omega)
set_option maxHeartbeats 4000000 in
theorem rand_11 (a ae b be r1 r2 : Int) (w : World) (hm : haspref04_Mark.f a ae = some 1) (hn : haspref04_Mark.f b be = some 1) (ht : haspref04_told.f 1 a ae b be = some (r1, r2)) :
    Calls Tryd.prog 9 #[.agg #[.int .i64 a, .int .i64 ae], .agg #[.int .i64 b, .int .i64 be]] w fun en w' => en = .returned (.agg #[.int .i64 r1, .int .i64 r2]) ∧ Below w.heap.size w w' := by
  have X : SA w ((((w.alloc (.cells #[.int .i64 a, .int .i64 ae] 24)).alloc (.cells #[.int .i64 b, .int .i64 be] 24)).alloc (.cells #[.int .i64 0, .int .i64 0] 24)).alloc (.cells #[.int .i64 0, .int .i64 0, .int .i64 0, .int .i64 0, .int .i64 0, .int .i64 1, .int .i64 2, .int .i64 3, .int .i64 0, .int .i64 2, .int .i64 2, .int .i64 3, .int .i64 0, .int .i64 3, .int .i64 3, .int .i64 3] 42)) a ae b be 5 1 := by
    refine ⟨by repeat (first | exact Below.refl _ _ | apply below_alloc), by simp, ?_, ?_, ?_, ?_, ⟨.int .i64 0, ?_⟩, ⟨.int .i64 0, ?_⟩, ?_, ?_, ?_⟩
    all_goals (go_simp; done)
  have X0 := sac (X.below (below_drew1 (Below.refl _ _)))
  go_enter Tryd.func9, Tryd.ntmps9
  go_wp2_with fail
  go_region_held3 (fun W => SA w W a ae b be 5 1 ∧ w.heap.size < W.heap.size ∧ w.heap.size + 1 < W.heap.size ∧ w.heap.size + 1 + 1 < W.heap.size ∧ W.cell? ⟨w.heap.size, 0, none⟩ = some (.int .i64 a) ∧ W.cell? ⟨w.heap.size, 1, none⟩ = some (.int .i64 ae) ∧ W.cell? ⟨w.heap.size + 1, 0, none⟩ = some (.int .i64 b) ∧ W.cell? ⟨w.heap.size + 1, 1, none⟩ = some (.int .i64 be) ∧ W.cell? ⟨w.heap.size + 1 + 1 + 1, 5, none⟩ = some (.int .i64 1)) (first | exact X0 | exact sac (SA.below (And.left (by assumption)) (by assumption)) | exact sac (SA.store (And.left (by assumption)) _ _ rfl rfl))
    (first | (go_at_call 21; first | ((with_reducible refine (haspref04_Mark.calls a ae 1 _ hm).mono ?_); rintro en w1 ⟨rfl, hb⟩) | ((with_reducible refine (haspref04_Mark.calls b be 1 _ hn).mono ?_); rintro en w1 ⟨rfl, hb⟩)) | (go_at_call 20; (with_reducible refine (haspref04_told.calls 1 a ae b be r1 r2 _ ht).mono ?_); rintro en w1 ⟨rfl, hb⟩; have hS1 := SA.below (And.left (by assumption)) hb; obtain ⟨x, hx⟩ := hS1.r0; obtain ⟨y, hy⟩ := hS1.r1; have f0 := hS1.f0; have f1 := hS1.f1))
  go_wp2
  refine bodyPost_ret (v := .agg #[.int .i64 (r1), .int .i64 (r2)]) ?_ rfl ⟨rfl, ?_⟩
  · simp only [results, Tryd.results9]
    go_simp
  · first | exact SA.B (And.left (by assumption)) | (repeat (with_reducible refine below_sets ?_ _ _ _ ?_) <;> first | exact hS1.B | exact hS3.B | omega)
set_option maxHeartbeats 4000000 in
theorem rand_12 (a ae b be r1 r2 : Int) (w : World) (hm : haspref04_Mark.f a ae = some 1) (hn : haspref04_Mark.f b be = some 2) (ht : haspref04_told.f 2 a ae b be = some (r1, r2)) :
    Calls Tryd.prog 9 #[.agg #[.int .i64 a, .int .i64 ae], .agg #[.int .i64 b, .int .i64 be]] w fun en w' => en = .returned (.agg #[.int .i64 r1, .int .i64 r2]) ∧ Below w.heap.size w w' := by
  have X : SA w ((((w.alloc (.cells #[.int .i64 a, .int .i64 ae] 24)).alloc (.cells #[.int .i64 b, .int .i64 be] 24)).alloc (.cells #[.int .i64 0, .int .i64 0] 24)).alloc (.cells #[.int .i64 0, .int .i64 0, .int .i64 0, .int .i64 0, .int .i64 0, .int .i64 1, .int .i64 2, .int .i64 3, .int .i64 0, .int .i64 2, .int .i64 2, .int .i64 3, .int .i64 0, .int .i64 3, .int .i64 3, .int .i64 3] 42)) a ae b be 6 2 := by
    refine ⟨by repeat (first | exact Below.refl _ _ | apply below_alloc), by simp, ?_, ?_, ?_, ?_, ⟨.int .i64 0, ?_⟩, ⟨.int .i64 0, ?_⟩, ?_, ?_, ?_⟩
    all_goals (go_simp; done)
  have X0 := sac (X.below (below_drew1 (Below.refl _ _)))
  go_enter Tryd.func9, Tryd.ntmps9
  go_wp2_with fail
  go_region_held3 (fun W => SA w W a ae b be 6 2 ∧ w.heap.size < W.heap.size ∧ w.heap.size + 1 < W.heap.size ∧ w.heap.size + 1 + 1 < W.heap.size ∧ W.cell? ⟨w.heap.size, 0, none⟩ = some (.int .i64 a) ∧ W.cell? ⟨w.heap.size, 1, none⟩ = some (.int .i64 ae) ∧ W.cell? ⟨w.heap.size + 1, 0, none⟩ = some (.int .i64 b) ∧ W.cell? ⟨w.heap.size + 1, 1, none⟩ = some (.int .i64 be) ∧ W.cell? ⟨w.heap.size + 1 + 1 + 1, 6, none⟩ = some (.int .i64 2)) (first | exact X0 | exact sac (SA.below (And.left (by assumption)) (by assumption)) | exact sac (SA.store (And.left (by assumption)) _ _ rfl rfl))
    (first | (go_at_call 21; first | ((with_reducible refine (haspref04_Mark.calls a ae 1 _ hm).mono ?_); rintro en w1 ⟨rfl, hb⟩) | ((with_reducible refine (haspref04_Mark.calls b be 2 _ hn).mono ?_); rintro en w1 ⟨rfl, hb⟩)) | (go_at_call 20; (with_reducible refine (haspref04_told.calls 2 a ae b be r1 r2 _ ht).mono ?_); rintro en w1 ⟨rfl, hb⟩; have hS1 := SA.below (And.left (by assumption)) hb; obtain ⟨x, hx⟩ := hS1.r0; obtain ⟨y, hy⟩ := hS1.r1; have f0 := hS1.f0; have f1 := hS1.f1))
  go_wp2
  refine bodyPost_ret (v := .agg #[.int .i64 (r1), .int .i64 (r2)]) ?_ rfl ⟨rfl, ?_⟩
  · simp only [results, Tryd.results9]
    go_simp
  · first | exact SA.B (And.left (by assumption)) | (repeat (with_reducible refine below_sets ?_ _ _ _ ?_) <;> first | exact hS1.B | exact hS3.B | omega)
set_option maxHeartbeats 4000000 in
theorem rand_13 (a ae b be r1 r2 : Int) (w : World) (hm : haspref04_Mark.f a ae = some 1) (hn : haspref04_Mark.f b be = some 3) (ht : haspref04_told.f 3 a ae b be = some (r1, r2)) :
    Calls Tryd.prog 9 #[.agg #[.int .i64 a, .int .i64 ae], .agg #[.int .i64 b, .int .i64 be]] w fun en w' => en = .returned (.agg #[.int .i64 r1, .int .i64 r2]) ∧ Below w.heap.size w w' := by
  have X : SA w ((((w.alloc (.cells #[.int .i64 a, .int .i64 ae] 24)).alloc (.cells #[.int .i64 b, .int .i64 be] 24)).alloc (.cells #[.int .i64 0, .int .i64 0] 24)).alloc (.cells #[.int .i64 0, .int .i64 0, .int .i64 0, .int .i64 0, .int .i64 0, .int .i64 1, .int .i64 2, .int .i64 3, .int .i64 0, .int .i64 2, .int .i64 2, .int .i64 3, .int .i64 0, .int .i64 3, .int .i64 3, .int .i64 3] 42)) a ae b be 7 3 := by
    refine ⟨by repeat (first | exact Below.refl _ _ | apply below_alloc), by simp, ?_, ?_, ?_, ?_, ⟨.int .i64 0, ?_⟩, ⟨.int .i64 0, ?_⟩, ?_, ?_, ?_⟩
    all_goals (go_simp; done)
  have X0 := sac (X.below (below_drew1 (Below.refl _ _)))
  go_enter Tryd.func9, Tryd.ntmps9
  go_wp2_with fail
  go_region_held3 (fun W => SA w W a ae b be 7 3 ∧ w.heap.size < W.heap.size ∧ w.heap.size + 1 < W.heap.size ∧ w.heap.size + 1 + 1 < W.heap.size ∧ W.cell? ⟨w.heap.size, 0, none⟩ = some (.int .i64 a) ∧ W.cell? ⟨w.heap.size, 1, none⟩ = some (.int .i64 ae) ∧ W.cell? ⟨w.heap.size + 1, 0, none⟩ = some (.int .i64 b) ∧ W.cell? ⟨w.heap.size + 1, 1, none⟩ = some (.int .i64 be) ∧ W.cell? ⟨w.heap.size + 1 + 1 + 1, 7, none⟩ = some (.int .i64 3)) (first | exact X0 | exact sac (SA.below (And.left (by assumption)) (by assumption)) | exact sac (SA.store (And.left (by assumption)) _ _ rfl rfl))
    (first | (go_at_call 21; first | ((with_reducible refine (haspref04_Mark.calls a ae 1 _ hm).mono ?_); rintro en w1 ⟨rfl, hb⟩) | ((with_reducible refine (haspref04_Mark.calls b be 3 _ hn).mono ?_); rintro en w1 ⟨rfl, hb⟩)) | (go_at_call 20; (with_reducible refine (haspref04_told.calls 3 a ae b be r1 r2 _ ht).mono ?_); rintro en w1 ⟨rfl, hb⟩; have hS1 := SA.below (And.left (by assumption)) hb; obtain ⟨x, hx⟩ := hS1.r0; obtain ⟨y, hy⟩ := hS1.r1; have f0 := hS1.f0; have f1 := hS1.f1))
  go_wp2
  refine bodyPost_ret (v := .agg #[.int .i64 (r1), .int .i64 (r2)]) ?_ rfl ⟨rfl, ?_⟩
  · simp only [results, Tryd.results9]
    go_simp
  · first | exact SA.B (And.left (by assumption)) | (repeat (with_reducible refine below_sets ?_ _ _ _ ?_) <;> first | exact hS1.B | exact hS3.B | omega)
set_option maxHeartbeats 4000000 in
theorem rand_20 (a ae b be r1 r2 : Int) (w : World) (hm : haspref04_Mark.f a ae = some 2) (hn : haspref04_Mark.f b be = some 0) (ht : haspref04_told.f 0 a ae b be = some (r1, r2)) :
    Calls Tryd.prog 9 #[.agg #[.int .i64 a, .int .i64 ae], .agg #[.int .i64 b, .int .i64 be]] w fun en w' => en = .returned (.agg #[.int .i64 r1, .int .i64 r2]) ∧ Below w.heap.size w w' := by
  have X : SA w ((((w.alloc (.cells #[.int .i64 a, .int .i64 ae] 24)).alloc (.cells #[.int .i64 b, .int .i64 be] 24)).alloc (.cells #[.int .i64 0, .int .i64 0] 24)).alloc (.cells #[.int .i64 0, .int .i64 0, .int .i64 0, .int .i64 0, .int .i64 0, .int .i64 1, .int .i64 2, .int .i64 3, .int .i64 0, .int .i64 2, .int .i64 2, .int .i64 3, .int .i64 0, .int .i64 3, .int .i64 3, .int .i64 3] 42)) a ae b be 8 0 := by
    refine ⟨by repeat (first | exact Below.refl _ _ | apply below_alloc), by simp, ?_, ?_, ?_, ?_, ⟨.int .i64 0, ?_⟩, ⟨.int .i64 0, ?_⟩, ?_, ?_, ?_⟩
    all_goals (go_simp; done)
  have X0 := sac (X.below (below_drew1 (Below.refl _ _)))
  go_enter Tryd.func9, Tryd.ntmps9
  go_wp2_with fail
  go_region_held3 (fun W => SA w W a ae b be 8 0 ∧ w.heap.size < W.heap.size ∧ w.heap.size + 1 < W.heap.size ∧ w.heap.size + 1 + 1 < W.heap.size ∧ W.cell? ⟨w.heap.size, 0, none⟩ = some (.int .i64 a) ∧ W.cell? ⟨w.heap.size, 1, none⟩ = some (.int .i64 ae) ∧ W.cell? ⟨w.heap.size + 1, 0, none⟩ = some (.int .i64 b) ∧ W.cell? ⟨w.heap.size + 1, 1, none⟩ = some (.int .i64 be) ∧ W.cell? ⟨w.heap.size + 1 + 1 + 1, 8, none⟩ = some (.int .i64 0)) (first | exact X0 | exact sac (SA.below (And.left (by assumption)) (by assumption)) | exact sac (SA.store (And.left (by assumption)) _ _ rfl rfl))
    (first | (go_at_call 21; first | ((with_reducible refine (haspref04_Mark.calls a ae 2 _ hm).mono ?_); rintro en w1 ⟨rfl, hb⟩) | ((with_reducible refine (haspref04_Mark.calls b be 0 _ hn).mono ?_); rintro en w1 ⟨rfl, hb⟩)) | (go_at_call 20; (with_reducible refine (haspref04_told.calls 0 a ae b be r1 r2 _ ht).mono ?_); rintro en w1 ⟨rfl, hb⟩; have hS1 := SA.below (And.left (by assumption)) hb; obtain ⟨x, hx⟩ := hS1.r0; obtain ⟨y, hy⟩ := hS1.r1; have f0 := hS1.f0; have f1 := hS1.f1))
  go_wp2
  refine bodyPost_ret (v := .agg #[.int .i64 (r1), .int .i64 (r2)]) ?_ rfl ⟨rfl, ?_⟩
  · simp only [results, Tryd.results9]
    go_simp
  · first | exact SA.B (And.left (by assumption)) | (repeat (with_reducible refine below_sets ?_ _ _ _ ?_) <;> first | exact hS1.B | exact hS3.B | omega)
set_option maxHeartbeats 4000000 in
theorem rand_21 (a ae b be r1 r2 : Int) (w : World) (hm : haspref04_Mark.f a ae = some 2) (hn : haspref04_Mark.f b be = some 1) (ht : haspref04_told.f 2 a ae b be = some (r1, r2)) :
    Calls Tryd.prog 9 #[.agg #[.int .i64 a, .int .i64 ae], .agg #[.int .i64 b, .int .i64 be]] w fun en w' => en = .returned (.agg #[.int .i64 r1, .int .i64 r2]) ∧ Below w.heap.size w w' := by
  have X : SA w ((((w.alloc (.cells #[.int .i64 a, .int .i64 ae] 24)).alloc (.cells #[.int .i64 b, .int .i64 be] 24)).alloc (.cells #[.int .i64 0, .int .i64 0] 24)).alloc (.cells #[.int .i64 0, .int .i64 0, .int .i64 0, .int .i64 0, .int .i64 0, .int .i64 1, .int .i64 2, .int .i64 3, .int .i64 0, .int .i64 2, .int .i64 2, .int .i64 3, .int .i64 0, .int .i64 3, .int .i64 3, .int .i64 3] 42)) a ae b be 9 2 := by
    refine ⟨by repeat (first | exact Below.refl _ _ | apply below_alloc), by simp, ?_, ?_, ?_, ?_, ⟨.int .i64 0, ?_⟩, ⟨.int .i64 0, ?_⟩, ?_, ?_, ?_⟩
    all_goals (go_simp; done)
  have X0 := sac (X.below (below_drew1 (Below.refl _ _)))
  go_enter Tryd.func9, Tryd.ntmps9
  go_wp2_with fail
  go_region_held3 (fun W => SA w W a ae b be 9 2 ∧ w.heap.size < W.heap.size ∧ w.heap.size + 1 < W.heap.size ∧ w.heap.size + 1 + 1 < W.heap.size ∧ W.cell? ⟨w.heap.size, 0, none⟩ = some (.int .i64 a) ∧ W.cell? ⟨w.heap.size, 1, none⟩ = some (.int .i64 ae) ∧ W.cell? ⟨w.heap.size + 1, 0, none⟩ = some (.int .i64 b) ∧ W.cell? ⟨w.heap.size + 1, 1, none⟩ = some (.int .i64 be) ∧ W.cell? ⟨w.heap.size + 1 + 1 + 1, 9, none⟩ = some (.int .i64 2)) (first | exact X0 | exact sac (SA.below (And.left (by assumption)) (by assumption)) | exact sac (SA.store (And.left (by assumption)) _ _ rfl rfl))
    (first | (go_at_call 21; first | ((with_reducible refine (haspref04_Mark.calls a ae 2 _ hm).mono ?_); rintro en w1 ⟨rfl, hb⟩) | ((with_reducible refine (haspref04_Mark.calls b be 1 _ hn).mono ?_); rintro en w1 ⟨rfl, hb⟩)) | (go_at_call 20; (with_reducible refine (haspref04_told.calls 2 a ae b be r1 r2 _ ht).mono ?_); rintro en w1 ⟨rfl, hb⟩; have hS1 := SA.below (And.left (by assumption)) hb; obtain ⟨x, hx⟩ := hS1.r0; obtain ⟨y, hy⟩ := hS1.r1; have f0 := hS1.f0; have f1 := hS1.f1))
  go_wp2
  refine bodyPost_ret (v := .agg #[.int .i64 (r1), .int .i64 (r2)]) ?_ rfl ⟨rfl, ?_⟩
  · simp only [results, Tryd.results9]
    go_simp
  · first | exact SA.B (And.left (by assumption)) | (repeat (with_reducible refine below_sets ?_ _ _ _ ?_) <;> first | exact hS1.B | exact hS3.B | omega)
set_option maxHeartbeats 4000000 in
theorem rand_22 (a ae b be r1 r2 : Int) (w : World) (hm : haspref04_Mark.f a ae = some 2) (hn : haspref04_Mark.f b be = some 2) (ht : haspref04_told.f 2 a ae b be = some (r1, r2)) :
    Calls Tryd.prog 9 #[.agg #[.int .i64 a, .int .i64 ae], .agg #[.int .i64 b, .int .i64 be]] w fun en w' => en = .returned (.agg #[.int .i64 r1, .int .i64 r2]) ∧ Below w.heap.size w w' := by
  have X : SA w ((((w.alloc (.cells #[.int .i64 a, .int .i64 ae] 24)).alloc (.cells #[.int .i64 b, .int .i64 be] 24)).alloc (.cells #[.int .i64 0, .int .i64 0] 24)).alloc (.cells #[.int .i64 0, .int .i64 0, .int .i64 0, .int .i64 0, .int .i64 0, .int .i64 1, .int .i64 2, .int .i64 3, .int .i64 0, .int .i64 2, .int .i64 2, .int .i64 3, .int .i64 0, .int .i64 3, .int .i64 3, .int .i64 3] 42)) a ae b be 10 2 := by
    refine ⟨by repeat (first | exact Below.refl _ _ | apply below_alloc), by simp, ?_, ?_, ?_, ?_, ⟨.int .i64 0, ?_⟩, ⟨.int .i64 0, ?_⟩, ?_, ?_, ?_⟩
    all_goals (go_simp; done)
  have X0 := sac (X.below (below_drew1 (Below.refl _ _)))
  go_enter Tryd.func9, Tryd.ntmps9
  go_wp2_with fail
  go_region_held3 (fun W => SA w W a ae b be 10 2 ∧ w.heap.size < W.heap.size ∧ w.heap.size + 1 < W.heap.size ∧ w.heap.size + 1 + 1 < W.heap.size ∧ W.cell? ⟨w.heap.size, 0, none⟩ = some (.int .i64 a) ∧ W.cell? ⟨w.heap.size, 1, none⟩ = some (.int .i64 ae) ∧ W.cell? ⟨w.heap.size + 1, 0, none⟩ = some (.int .i64 b) ∧ W.cell? ⟨w.heap.size + 1, 1, none⟩ = some (.int .i64 be) ∧ W.cell? ⟨w.heap.size + 1 + 1 + 1, 10, none⟩ = some (.int .i64 2)) (first | exact X0 | exact sac (SA.below (And.left (by assumption)) (by assumption)) | exact sac (SA.store (And.left (by assumption)) _ _ rfl rfl))
    (first | (go_at_call 21; first | ((with_reducible refine (haspref04_Mark.calls a ae 2 _ hm).mono ?_); rintro en w1 ⟨rfl, hb⟩) | ((with_reducible refine (haspref04_Mark.calls b be 2 _ hn).mono ?_); rintro en w1 ⟨rfl, hb⟩)) | (go_at_call 20; (with_reducible refine (haspref04_told.calls 2 a ae b be r1 r2 _ ht).mono ?_); rintro en w1 ⟨rfl, hb⟩; have hS1 := SA.below (And.left (by assumption)) hb; obtain ⟨x, hx⟩ := hS1.r0; obtain ⟨y, hy⟩ := hS1.r1; have f0 := hS1.f0; have f1 := hS1.f1))
  go_wp2
  refine bodyPost_ret (v := .agg #[.int .i64 (r1), .int .i64 (r2)]) ?_ rfl ⟨rfl, ?_⟩
  · simp only [results, Tryd.results9]
    go_simp
  · first | exact SA.B (And.left (by assumption)) | (repeat (with_reducible refine below_sets ?_ _ _ _ ?_) <;> first | exact hS1.B | exact hS3.B | omega)
set_option maxHeartbeats 4000000 in
theorem rand_23 (a ae b be r1 r2 : Int) (w : World) (hm : haspref04_Mark.f a ae = some 2) (hn : haspref04_Mark.f b be = some 3) (ht : haspref04_told.f 3 a ae b be = some (r1, r2)) :
    Calls Tryd.prog 9 #[.agg #[.int .i64 a, .int .i64 ae], .agg #[.int .i64 b, .int .i64 be]] w fun en w' => en = .returned (.agg #[.int .i64 r1, .int .i64 r2]) ∧ Below w.heap.size w w' := by
  have X : SA w ((((w.alloc (.cells #[.int .i64 a, .int .i64 ae] 24)).alloc (.cells #[.int .i64 b, .int .i64 be] 24)).alloc (.cells #[.int .i64 0, .int .i64 0] 24)).alloc (.cells #[.int .i64 0, .int .i64 0, .int .i64 0, .int .i64 0, .int .i64 0, .int .i64 1, .int .i64 2, .int .i64 3, .int .i64 0, .int .i64 2, .int .i64 2, .int .i64 3, .int .i64 0, .int .i64 3, .int .i64 3, .int .i64 3] 42)) a ae b be 11 3 := by
    refine ⟨by repeat (first | exact Below.refl _ _ | apply below_alloc), by simp, ?_, ?_, ?_, ?_, ⟨.int .i64 0, ?_⟩, ⟨.int .i64 0, ?_⟩, ?_, ?_, ?_⟩
    all_goals (go_simp; done)
  have X0 := sac (X.below (below_drew1 (Below.refl _ _)))
  go_enter Tryd.func9, Tryd.ntmps9
  go_wp2_with fail
  go_region_held3 (fun W => SA w W a ae b be 11 3 ∧ w.heap.size < W.heap.size ∧ w.heap.size + 1 < W.heap.size ∧ w.heap.size + 1 + 1 < W.heap.size ∧ W.cell? ⟨w.heap.size, 0, none⟩ = some (.int .i64 a) ∧ W.cell? ⟨w.heap.size, 1, none⟩ = some (.int .i64 ae) ∧ W.cell? ⟨w.heap.size + 1, 0, none⟩ = some (.int .i64 b) ∧ W.cell? ⟨w.heap.size + 1, 1, none⟩ = some (.int .i64 be) ∧ W.cell? ⟨w.heap.size + 1 + 1 + 1, 11, none⟩ = some (.int .i64 3)) (first | exact X0 | exact sac (SA.below (And.left (by assumption)) (by assumption)) | exact sac (SA.store (And.left (by assumption)) _ _ rfl rfl))
    (first | (go_at_call 21; first | ((with_reducible refine (haspref04_Mark.calls a ae 2 _ hm).mono ?_); rintro en w1 ⟨rfl, hb⟩) | ((with_reducible refine (haspref04_Mark.calls b be 3 _ hn).mono ?_); rintro en w1 ⟨rfl, hb⟩)) | (go_at_call 20; (with_reducible refine (haspref04_told.calls 3 a ae b be r1 r2 _ ht).mono ?_); rintro en w1 ⟨rfl, hb⟩; have hS1 := SA.below (And.left (by assumption)) hb; obtain ⟨x, hx⟩ := hS1.r0; obtain ⟨y, hy⟩ := hS1.r1; have f0 := hS1.f0; have f1 := hS1.f1))
  go_wp2
  refine bodyPost_ret (v := .agg #[.int .i64 (r1), .int .i64 (r2)]) ?_ rfl ⟨rfl, ?_⟩
  · simp only [results, Tryd.results9]
    go_simp
  · first | exact SA.B (And.left (by assumption)) | (repeat (with_reducible refine below_sets ?_ _ _ _ ?_) <;> first | exact hS1.B | exact hS3.B | omega)
set_option maxHeartbeats 4000000 in
theorem rand_30 (a ae b be r1 r2 : Int) (w : World) (hm : haspref04_Mark.f a ae = some 3) (hn : haspref04_Mark.f b be = some 0) (ht : haspref04_told.f 0 a ae b be = some (r1, r2)) :
    Calls Tryd.prog 9 #[.agg #[.int .i64 a, .int .i64 ae], .agg #[.int .i64 b, .int .i64 be]] w fun en w' => en = .returned (.agg #[.int .i64 r1, .int .i64 r2]) ∧ Below w.heap.size w w' := by
  have X : SA w ((((w.alloc (.cells #[.int .i64 a, .int .i64 ae] 24)).alloc (.cells #[.int .i64 b, .int .i64 be] 24)).alloc (.cells #[.int .i64 0, .int .i64 0] 24)).alloc (.cells #[.int .i64 0, .int .i64 0, .int .i64 0, .int .i64 0, .int .i64 0, .int .i64 1, .int .i64 2, .int .i64 3, .int .i64 0, .int .i64 2, .int .i64 2, .int .i64 3, .int .i64 0, .int .i64 3, .int .i64 3, .int .i64 3] 42)) a ae b be 12 0 := by
    refine ⟨by repeat (first | exact Below.refl _ _ | apply below_alloc), by simp, ?_, ?_, ?_, ?_, ⟨.int .i64 0, ?_⟩, ⟨.int .i64 0, ?_⟩, ?_, ?_, ?_⟩
    all_goals (go_simp; done)
  have X0 := sac (X.below (below_drew1 (Below.refl _ _)))
  go_enter Tryd.func9, Tryd.ntmps9
  go_wp2_with fail
  go_region_held3 (fun W => SA w W a ae b be 12 0 ∧ w.heap.size < W.heap.size ∧ w.heap.size + 1 < W.heap.size ∧ w.heap.size + 1 + 1 < W.heap.size ∧ W.cell? ⟨w.heap.size, 0, none⟩ = some (.int .i64 a) ∧ W.cell? ⟨w.heap.size, 1, none⟩ = some (.int .i64 ae) ∧ W.cell? ⟨w.heap.size + 1, 0, none⟩ = some (.int .i64 b) ∧ W.cell? ⟨w.heap.size + 1, 1, none⟩ = some (.int .i64 be) ∧ W.cell? ⟨w.heap.size + 1 + 1 + 1, 12, none⟩ = some (.int .i64 0)) (first | exact X0 | exact sac (SA.below (And.left (by assumption)) (by assumption)) | exact sac (SA.store (And.left (by assumption)) _ _ rfl rfl))
    (first | (go_at_call 21; first | ((with_reducible refine (haspref04_Mark.calls a ae 3 _ hm).mono ?_); rintro en w1 ⟨rfl, hb⟩) | ((with_reducible refine (haspref04_Mark.calls b be 0 _ hn).mono ?_); rintro en w1 ⟨rfl, hb⟩)) | (go_at_call 20; (with_reducible refine (haspref04_told.calls 0 a ae b be r1 r2 _ ht).mono ?_); rintro en w1 ⟨rfl, hb⟩; have hS1 := SA.below (And.left (by assumption)) hb; obtain ⟨x, hx⟩ := hS1.r0; obtain ⟨y, hy⟩ := hS1.r1; have f0 := hS1.f0; have f1 := hS1.f1))
  go_wp2
  refine bodyPost_ret (v := .agg #[.int .i64 (r1), .int .i64 (r2)]) ?_ rfl ⟨rfl, ?_⟩
  · simp only [results, Tryd.results9]
    go_simp
  · first | exact SA.B (And.left (by assumption)) | (repeat (with_reducible refine below_sets ?_ _ _ _ ?_) <;> first | exact hS1.B | exact hS3.B | omega)
set_option maxHeartbeats 4000000 in
theorem rand_31 (a ae b be r1 r2 : Int) (w : World) (hm : haspref04_Mark.f a ae = some 3) (hn : haspref04_Mark.f b be = some 1) (ht : haspref04_told.f 3 a ae b be = some (r1, r2)) :
    Calls Tryd.prog 9 #[.agg #[.int .i64 a, .int .i64 ae], .agg #[.int .i64 b, .int .i64 be]] w fun en w' => en = .returned (.agg #[.int .i64 r1, .int .i64 r2]) ∧ Below w.heap.size w w' := by
  have X : SA w ((((w.alloc (.cells #[.int .i64 a, .int .i64 ae] 24)).alloc (.cells #[.int .i64 b, .int .i64 be] 24)).alloc (.cells #[.int .i64 0, .int .i64 0] 24)).alloc (.cells #[.int .i64 0, .int .i64 0, .int .i64 0, .int .i64 0, .int .i64 0, .int .i64 1, .int .i64 2, .int .i64 3, .int .i64 0, .int .i64 2, .int .i64 2, .int .i64 3, .int .i64 0, .int .i64 3, .int .i64 3, .int .i64 3] 42)) a ae b be 13 3 := by
    refine ⟨by repeat (first | exact Below.refl _ _ | apply below_alloc), by simp, ?_, ?_, ?_, ?_, ⟨.int .i64 0, ?_⟩, ⟨.int .i64 0, ?_⟩, ?_, ?_, ?_⟩
    all_goals (go_simp; done)
  have X0 := sac (X.below (below_drew1 (Below.refl _ _)))
  go_enter Tryd.func9, Tryd.ntmps9
  go_wp2_with fail
  go_region_held3 (fun W => SA w W a ae b be 13 3 ∧ w.heap.size < W.heap.size ∧ w.heap.size + 1 < W.heap.size ∧ w.heap.size + 1 + 1 < W.heap.size ∧ W.cell? ⟨w.heap.size, 0, none⟩ = some (.int .i64 a) ∧ W.cell? ⟨w.heap.size, 1, none⟩ = some (.int .i64 ae) ∧ W.cell? ⟨w.heap.size + 1, 0, none⟩ = some (.int .i64 b) ∧ W.cell? ⟨w.heap.size + 1, 1, none⟩ = some (.int .i64 be) ∧ W.cell? ⟨w.heap.size + 1 + 1 + 1, 13, none⟩ = some (.int .i64 3)) (first | exact X0 | exact sac (SA.below (And.left (by assumption)) (by assumption)) | exact sac (SA.store (And.left (by assumption)) _ _ rfl rfl))
    (first | (go_at_call 21; first | ((with_reducible refine (haspref04_Mark.calls a ae 3 _ hm).mono ?_); rintro en w1 ⟨rfl, hb⟩) | ((with_reducible refine (haspref04_Mark.calls b be 1 _ hn).mono ?_); rintro en w1 ⟨rfl, hb⟩)) | (go_at_call 20; (with_reducible refine (haspref04_told.calls 3 a ae b be r1 r2 _ ht).mono ?_); rintro en w1 ⟨rfl, hb⟩; have hS1 := SA.below (And.left (by assumption)) hb; obtain ⟨x, hx⟩ := hS1.r0; obtain ⟨y, hy⟩ := hS1.r1; have f0 := hS1.f0; have f1 := hS1.f1))
  go_wp2
  refine bodyPost_ret (v := .agg #[.int .i64 (r1), .int .i64 (r2)]) ?_ rfl ⟨rfl, ?_⟩
  · simp only [results, Tryd.results9]
    go_simp
  · first | exact SA.B (And.left (by assumption)) | (repeat (with_reducible refine below_sets ?_ _ _ _ ?_) <;> first | exact hS1.B | exact hS3.B | omega)
set_option maxHeartbeats 4000000 in
theorem rand_32 (a ae b be r1 r2 : Int) (w : World) (hm : haspref04_Mark.f a ae = some 3) (hn : haspref04_Mark.f b be = some 2) (ht : haspref04_told.f 3 a ae b be = some (r1, r2)) :
    Calls Tryd.prog 9 #[.agg #[.int .i64 a, .int .i64 ae], .agg #[.int .i64 b, .int .i64 be]] w fun en w' => en = .returned (.agg #[.int .i64 r1, .int .i64 r2]) ∧ Below w.heap.size w w' := by
  have X : SA w ((((w.alloc (.cells #[.int .i64 a, .int .i64 ae] 24)).alloc (.cells #[.int .i64 b, .int .i64 be] 24)).alloc (.cells #[.int .i64 0, .int .i64 0] 24)).alloc (.cells #[.int .i64 0, .int .i64 0, .int .i64 0, .int .i64 0, .int .i64 0, .int .i64 1, .int .i64 2, .int .i64 3, .int .i64 0, .int .i64 2, .int .i64 2, .int .i64 3, .int .i64 0, .int .i64 3, .int .i64 3, .int .i64 3] 42)) a ae b be 14 3 := by
    refine ⟨by repeat (first | exact Below.refl _ _ | apply below_alloc), by simp, ?_, ?_, ?_, ?_, ⟨.int .i64 0, ?_⟩, ⟨.int .i64 0, ?_⟩, ?_, ?_, ?_⟩
    all_goals (go_simp; done)
  have X0 := sac (X.below (below_drew1 (Below.refl _ _)))
  go_enter Tryd.func9, Tryd.ntmps9
  go_wp2_with fail
  go_region_held3 (fun W => SA w W a ae b be 14 3 ∧ w.heap.size < W.heap.size ∧ w.heap.size + 1 < W.heap.size ∧ w.heap.size + 1 + 1 < W.heap.size ∧ W.cell? ⟨w.heap.size, 0, none⟩ = some (.int .i64 a) ∧ W.cell? ⟨w.heap.size, 1, none⟩ = some (.int .i64 ae) ∧ W.cell? ⟨w.heap.size + 1, 0, none⟩ = some (.int .i64 b) ∧ W.cell? ⟨w.heap.size + 1, 1, none⟩ = some (.int .i64 be) ∧ W.cell? ⟨w.heap.size + 1 + 1 + 1, 14, none⟩ = some (.int .i64 3)) (first | exact X0 | exact sac (SA.below (And.left (by assumption)) (by assumption)) | exact sac (SA.store (And.left (by assumption)) _ _ rfl rfl))
    (first | (go_at_call 21; first | ((with_reducible refine (haspref04_Mark.calls a ae 3 _ hm).mono ?_); rintro en w1 ⟨rfl, hb⟩) | ((with_reducible refine (haspref04_Mark.calls b be 2 _ hn).mono ?_); rintro en w1 ⟨rfl, hb⟩)) | (go_at_call 20; (with_reducible refine (haspref04_told.calls 3 a ae b be r1 r2 _ ht).mono ?_); rintro en w1 ⟨rfl, hb⟩; have hS1 := SA.below (And.left (by assumption)) hb; obtain ⟨x, hx⟩ := hS1.r0; obtain ⟨y, hy⟩ := hS1.r1; have f0 := hS1.f0; have f1 := hS1.f1))
  go_wp2
  refine bodyPost_ret (v := .agg #[.int .i64 (r1), .int .i64 (r2)]) ?_ rfl ⟨rfl, ?_⟩
  · simp only [results, Tryd.results9]
    go_simp
  · first | exact SA.B (And.left (by assumption)) | (repeat (with_reducible refine below_sets ?_ _ _ _ ?_) <;> first | exact hS1.B | exact hS3.B | omega)
set_option maxHeartbeats 4000000 in
theorem rand_33 (a ae b be r1 r2 : Int) (w : World) (hm : haspref04_Mark.f a ae = some 3) (hn : haspref04_Mark.f b be = some 3) (ht : haspref04_told.f 3 a ae b be = some (r1, r2)) :
    Calls Tryd.prog 9 #[.agg #[.int .i64 a, .int .i64 ae], .agg #[.int .i64 b, .int .i64 be]] w fun en w' => en = .returned (.agg #[.int .i64 r1, .int .i64 r2]) ∧ Below w.heap.size w w' := by
  have X : SA w ((((w.alloc (.cells #[.int .i64 a, .int .i64 ae] 24)).alloc (.cells #[.int .i64 b, .int .i64 be] 24)).alloc (.cells #[.int .i64 0, .int .i64 0] 24)).alloc (.cells #[.int .i64 0, .int .i64 0, .int .i64 0, .int .i64 0, .int .i64 0, .int .i64 1, .int .i64 2, .int .i64 3, .int .i64 0, .int .i64 2, .int .i64 2, .int .i64 3, .int .i64 0, .int .i64 3, .int .i64 3, .int .i64 3] 42)) a ae b be 15 3 := by
    refine ⟨by repeat (first | exact Below.refl _ _ | apply below_alloc), by simp, ?_, ?_, ?_, ?_, ⟨.int .i64 0, ?_⟩, ⟨.int .i64 0, ?_⟩, ?_, ?_, ?_⟩
    all_goals (go_simp; done)
  have X0 := sac (X.below (below_drew1 (Below.refl _ _)))
  go_enter Tryd.func9, Tryd.ntmps9
  go_wp2_with fail
  go_region_held3 (fun W => SA w W a ae b be 15 3 ∧ w.heap.size < W.heap.size ∧ w.heap.size + 1 < W.heap.size ∧ w.heap.size + 1 + 1 < W.heap.size ∧ W.cell? ⟨w.heap.size, 0, none⟩ = some (.int .i64 a) ∧ W.cell? ⟨w.heap.size, 1, none⟩ = some (.int .i64 ae) ∧ W.cell? ⟨w.heap.size + 1, 0, none⟩ = some (.int .i64 b) ∧ W.cell? ⟨w.heap.size + 1, 1, none⟩ = some (.int .i64 be) ∧ W.cell? ⟨w.heap.size + 1 + 1 + 1, 15, none⟩ = some (.int .i64 3)) (first | exact X0 | exact sac (SA.below (And.left (by assumption)) (by assumption)) | exact sac (SA.store (And.left (by assumption)) _ _ rfl rfl))
    (first | (go_at_call 21; first | ((with_reducible refine (haspref04_Mark.calls a ae 3 _ hm).mono ?_); rintro en w1 ⟨rfl, hb⟩) | ((with_reducible refine (haspref04_Mark.calls b be 3 _ hn).mono ?_); rintro en w1 ⟨rfl, hb⟩)) | (go_at_call 20; (with_reducible refine (haspref04_told.calls 3 a ae b be r1 r2 _ ht).mono ?_); rintro en w1 ⟨rfl, hb⟩; have hS1 := SA.below (And.left (by assumption)) hb; obtain ⟨x, hx⟩ := hS1.r0; obtain ⟨y, hy⟩ := hS1.r1; have f0 := hS1.f0; have f1 := hS1.f1))
  go_wp2
  refine bodyPost_ret (v := .agg #[.int .i64 (r1), .int .i64 (r2)]) ?_ rfl ⟨rfl, ?_⟩
  · simp only [results, Tryd.results9]
    go_simp
  · first | exact SA.B (And.left (by assumption)) | (repeat (with_reducible refine below_sets ?_ _ _ _ ?_) <;> first | exact hS1.B | exact hS3.B | omega)
end Go.Proofs.YtblbdepklmlcoaaDoor
