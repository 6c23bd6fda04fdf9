/- Two verdicts put together: the walks. -/
import Derived.Test.YtblbdepklmlcoaaDoorLb
import Derived.Test.YtblbdepklmlcoaaDoorAx
import Derived.RegionTactic
import Derived.RegionCalls
namespace Go.Proofs.YtblbdepklmlcoaaDoor
open Go.RowKit Go.Proofs.YtblbdepklmlcoaaDoorW.PrintWords A
set_option linter.unusedVariables false
set_option linter.unusedSimpArgs false
attribute [local go_sem high] eqA24
/-- Four variables of the call's own, and what they hold. -/
structure Box4 (w W : World) (a ae b be d de r re : Int) : Prop where
  L : LaidW W
  B : Below w.heap.size w W
  s : w.heap.size + 4 ≤ W.heap.size
  a0 : W.cell? ⟨w.heap.size, 0, none⟩ = some (.int .i64 a)
  a1 : W.cell? ⟨w.heap.size, 1, none⟩ = some (.int .i64 ae)
  b0 : W.cell? ⟨w.heap.size + 1, 0, none⟩ = some (.int .i64 b)
  b1 : W.cell? ⟨w.heap.size + 1, 1, none⟩ = some (.int .i64 be)
  d0 : W.cell? ⟨w.heap.size + 1 + 1, 0, none⟩ = some (.int .i64 d)
  d1 : W.cell? ⟨w.heap.size + 1 + 1, 1, none⟩ = some (.int .i64 de)
  r0 : W.cell? ⟨w.heap.size + 1 + 1 + 1, 0, none⟩ = some (.int .i64 r)
  r1 : W.cell? ⟨w.heap.size + 1 + 1 + 1, 1, none⟩ = some (.int .i64 re)
  fa0 : W.frozen? ⟨w.heap.size, 0, none⟩ = false
  fa1 : W.frozen? ⟨w.heap.size, 1, none⟩ = false
  fb0 : W.frozen? ⟨w.heap.size + 1, 0, none⟩ = false
  fb1 : W.frozen? ⟨w.heap.size + 1, 1, none⟩ = false
  fr0 : W.frozen? ⟨w.heap.size + 1 + 1 + 1, 0, none⟩ = false
  fr1 : W.frozen? ⟨w.heap.size + 1 + 1 + 1, 1, none⟩ = false
theorem Box4.below {w W W1 : World} {a ae b be d de r re : Int} (h : Box4 w W a ae b be d de r re) (k : Below W.heap.size W W1) : Box4 w W1 a ae b be d de r re := by
  have hs := h.s
  refine ⟨h.L.below k, below_step h.B k, Nat.le_trans hs k.size, ?_, ?_, ?_, ?_, ?_, ?_, ?_, ?_, ?_, ?_, ?_, ?_, ?_, ?_⟩
  · exact (k.cell (by show w.heap.size < _; omega)).trans h.a0
  · exact (k.cell (by show w.heap.size < _; omega)).trans h.a1
  · exact (k.cell (by show w.heap.size + 1 < _; omega)).trans h.b0
  · exact (k.cell (by show w.heap.size + 1 < _; omega)).trans h.b1
  · exact (k.cell (by show w.heap.size + 1 + 1 < _; omega)).trans h.d0
  · exact (k.cell (by show w.heap.size + 1 + 1 < _; omega)).trans h.d1
  · exact (k.cell (by show w.heap.size + 1 + 1 + 1 < _; omega)).trans h.r0
  · exact (k.cell (by show w.heap.size + 1 + 1 + 1 < _; omega)).trans h.r1
  · exact (k.frozen (by show w.heap.size < _; omega)).trans h.fa0
  · exact (k.frozen (by show w.heap.size < _; omega)).trans h.fa1
  · exact (k.frozen (by show w.heap.size + 1 < _; omega)).trans h.fb0
  · exact (k.frozen (by show w.heap.size + 1 < _; omega)).trans h.fb1
  · exact (k.frozen (by show w.heap.size + 1 + 1 + 1 < _; omega)).trans h.fr0
  · exact (k.frozen (by show w.heap.size + 1 + 1 + 1 < _; omega)).trans h.fr1
theorem Box4.drew {w W : World} {a ae b be d de r re : Int} (h : Box4 w W a ae b be d de r re) : Box4 w W.drew a ae b be d de r re := h.below (below_drew1 (Below.refl _ _))
theorem box4_start (w : World) (hL : LaidW w) (a ae b be d de : Int) : Box4 w ((((w.alloc (.cells #[.int .i64 a, .int .i64 ae] 24)).alloc (.cells #[.int .i64 b, .int .i64 be] 24)).alloc (.cells #[.int .i64 d, .int .i64 de] 24)).alloc (.cells #[.int .i64 0, .int .i64 0] 24)) a ae b be d de 0 0 := by
  have B : Below w.heap.size w ((((w.alloc (.cells #[.int .i64 a, .int .i64 ae] 24)).alloc (.cells #[.int .i64 b, .int .i64 be] 24)).alloc (.cells #[.int .i64 d, .int .i64 de] 24)).alloc (.cells #[.int .i64 0, .int .i64 0] 24)) := by
    repeat (first | exact Below.refl _ _ | apply below_alloc)
  refine ⟨hL.below B, B, by simp, ?_, ?_, ?_, ?_, ?_, ?_, ?_, ?_, ?_, ?_, ?_, ?_, ?_, ?_⟩
  all_goals (go_simp; done)
theorem Box4.size {w W : World} {a ae b be d de r re : Int} (h : Box4 w W a ae b be d de r re) : (w.heap.size < W.heap.size ∧ w.heap.size + 1 < W.heap.size) ∧ (w.heap.size + 1 + 1 < W.heap.size ∧ w.heap.size + 1 + 1 + 1 < W.heap.size) := by
  have := h.s; omega
theorem le0 (n : Nat) : n ≤ n := Nat.le_refl n
theorem le1 (n : Nat) : n ≤ n + 1 := Nat.le_succ n
theorem le3 (n : Nat) : n ≤ n + 1 + 1 + 1 := by omega
theorem LaidW.set {w : World} (h : LaidW w) (b o : Nat) (v : Value) (hb : 3 ≤ b) : LaidW (w.setCell ⟨b, o, none⟩ v) := by
  obtain ⟨hs, n0, n1, y0, y1, u0, u1⟩ := h
  have e0 : ¬ 0 = b := by omega
  have e1 : ¬ 1 = b := by omega
  have e2 : ¬ 2 = b := by omega
  refine ⟨?_, ?_, ?_, ?_, ?_, ?_, ?_⟩
  all_goals (go_simp; done)
theorem Box4.setA {w W : World} {a ae b be d de r re : Int} (h : Box4 w W a ae b be d de r re) (hw : 3 ≤ w.heap.size) (p q : Int) :
    Box4 w ((W.setCell ⟨w.heap.size, 0, none⟩ (.int .i64 p)).setCell ⟨w.heap.size, 1, none⟩ (.int .i64 q)) p q b be d de r re := by
  have L := (h.L.set w.heap.size 0 (.int .i64 p) hw).set w.heap.size 1 (.int .i64 q) hw
  have B := below_sets (below_sets h.B w.heap.size 0 (.int .i64 p) (le0 _)) w.heap.size 1 (.int .i64 q) (le0 _)
  obtain ⟨_, _, hs, a0, a1, b0, b1, d0, d1, r0, r1, fa0, fa1, fb0, fb1, fr0, fr1⟩ := h
  refine ⟨L, B, ?_, ?_, ?_, ?_, ?_, ?_, ?_, ?_, ?_, ?_, ?_, ?_, ?_, ?_, ?_⟩
  all_goals (go_simp; done)
theorem Box4.setB {w W : World} {a ae b be d de r re : Int} (h : Box4 w W a ae b be d de r re) (hw : 3 ≤ w.heap.size) (p q : Int) :
    Box4 w ((W.setCell ⟨w.heap.size + 1, 0, none⟩ (.int .i64 p)).setCell ⟨w.heap.size + 1, 1, none⟩ (.int .i64 q)) a ae p q d de r re := by
  have L := (h.L.set (w.heap.size + 1) 0 (.int .i64 p) (by omega)).set (w.heap.size + 1) 1 (.int .i64 q) (by omega)
  have B := below_sets (below_sets h.B (w.heap.size + 1) 0 (.int .i64 p) (le1 _)) (w.heap.size + 1) 1 (.int .i64 q) (le1 _)
  obtain ⟨_, _, hs, a0, a1, b0, b1, d0, d1, r0, r1, fa0, fa1, fb0, fb1, fr0, fr1⟩ := h
  refine ⟨L, B, ?_, ?_, ?_, ?_, ?_, ?_, ?_, ?_, ?_, ?_, ?_, ?_, ?_, ?_, ?_⟩
  all_goals (go_simp; done)
def jT (a ae b be d : Int) : Int := if (plT a ae == d && ae == 0) = true ∨ (plT b be == d && be == 0) = true then d else if ae ≠ 0 ∨ be ≠ 0 then 0 else if plT a ae = 2 ∨ plT b be = 2 then 2 else plT a ae
def wo (a b : Int) : Int := if a = 0 then b else if b = 0 then a else mn a b
def jE (a ae b be d : Int) : Int := if (plT a ae == d && ae == 0) = true ∨ (plT b be == d && be == 0) = true then 0 else wo ae be
theorem wo_eq (a b : Int) : logic_Worse.f a b = some (wo a b) := by
  unfold logic_Worse.f wo
  split
  · rfl
  · split <;> rfl
set_option maxHeartbeats 8000000 in
theorem joined_1 (a ae b be d : Int) (w : World) (hL : LaidW w) (c1 : (plT a ae == d && ae == 0) = true) :
    Calls Tryd.prog 19 #[.agg #[.int .i64 a, .int .i64 ae], .agg #[.int .i64 b, .int .i64 be], .agg #[.int .i64 d, .int .i64 0]] w fun en w' => en = .returned (.agg #[.int .i64 (d), .int .i64 (0)]) ∧ Below w.heap.size w w' := by
  have hw3 := hL.size
  have X := box4_start w hL a ae b be d 0
  obtain ⟨⟨i0, i1, i2⟩, ⟨i3, i4, i5⟩⟩ := hL.ne
  go_enter Tryd.func19, Tryd.ntmps19
  go_wp2_with fail
  go_region_with (go_at_call 22; first | ((with_reducible refine (plain_calls a ae _ X.drew.L).mono ?_); rintro en w1 ⟨rfl, hb⟩; have X1 := X.drew.below hb; clear hb; have X1s := X1.size; have a0X1 := X1.a0; have a1X1 := X1.a1; have b0X1 := X1.b0; have b1X1 := X1.b1; have d0X1 := X1.d0; have d1X1 := X1.d1; have r0X1 := X1.r0; have r1X1 := X1.r1; have fa0X1 := X1.fa0; have fa1X1 := X1.fa1; have fb0X1 := X1.fb0; have fb1X1 := X1.fb1; have fr0X1 := X1.fr0; have fr1X1 := X1.fr1; obtain ⟨⟨l0X1, l1X1, l2X1⟩, ⟨l3X1, l4X1, l5X1⟩⟩ := X1.L.small; obtain ⟨lsX1, n0X1, n1X1, y0X1, y1X1, u0X1, u1X1⟩ := X1.L) | ((with_reducible refine (plain_calls b be _ X1.L).mono ?_); rintro en w2 ⟨rfl, hb⟩; have X2 := X1.below hb; clear hb; have X2s := X2.size; have a0X2 := X2.a0; have a1X2 := X2.a1; have b0X2 := X2.b0; have b1X2 := X2.b1; have d0X2 := X2.d0; have d1X2 := X2.d1; have r0X2 := X2.r0; have r1X2 := X2.r1; have fa0X2 := X2.fa0; have fa1X2 := X2.fa1; have fb0X2 := X2.fb0; have fb1X2 := X2.fb1; have fr0X2 := X2.fr0; have fr1X2 := X2.fr1; obtain ⟨⟨l0X2, l1X2, l2X2⟩, ⟨l3X2, l4X2, l5X2⟩⟩ := X2.L.small; obtain ⟨lsX2, n0X2, n1X2, y0X2, y1X2, u0X2, u1X2⟩ := X2.L))
  all_goals
    clear X X1 X1s
    go_wp2
    refine bodyPost_ret (v := .agg #[.int .i64 (d), .int .i64 (0)]) ?_ rfl ⟨rfl, ?_⟩
    · simp only [results, Tryd.results19]
      go_simp
    · repeat (with_reducible refine below_sets ?_ _ _ _ ?_)
      · with_reducible exact X2.B
      all_goals first | exact le3 _ | exact le1 _ | exact le0 _
set_option maxHeartbeats 8000000 in
theorem joined_2 (a ae b be d : Int) (w : World) (hL : LaidW w) (c1 : (plT a ae == d && ae == 0) = false) (c2 : (plT b be == d && be == 0) = true) :
    Calls Tryd.prog 19 #[.agg #[.int .i64 a, .int .i64 ae], .agg #[.int .i64 b, .int .i64 be], .agg #[.int .i64 d, .int .i64 0]] w fun en w' => en = .returned (.agg #[.int .i64 (d), .int .i64 (0)]) ∧ Below w.heap.size w w' := by
  have hw3 := hL.size
  have X := box4_start w hL a ae b be d 0
  obtain ⟨⟨i0, i1, i2⟩, ⟨i3, i4, i5⟩⟩ := hL.ne
  go_enter Tryd.func19, Tryd.ntmps19
  go_wp2_with fail
  go_region_with (go_at_call 22; first | ((with_reducible refine (plain_calls a ae _ X.drew.L).mono ?_); rintro en w1 ⟨rfl, hb⟩; have X1 := X.drew.below hb; clear hb; have X1s := X1.size; have a0X1 := X1.a0; have a1X1 := X1.a1; have b0X1 := X1.b0; have b1X1 := X1.b1; have d0X1 := X1.d0; have d1X1 := X1.d1; have r0X1 := X1.r0; have r1X1 := X1.r1; have fa0X1 := X1.fa0; have fa1X1 := X1.fa1; have fb0X1 := X1.fb0; have fb1X1 := X1.fb1; have fr0X1 := X1.fr0; have fr1X1 := X1.fr1; obtain ⟨⟨l0X1, l1X1, l2X1⟩, ⟨l3X1, l4X1, l5X1⟩⟩ := X1.L.small; obtain ⟨lsX1, n0X1, n1X1, y0X1, y1X1, u0X1, u1X1⟩ := X1.L) | ((with_reducible refine (plain_calls b be _ X1.L).mono ?_); rintro en w2 ⟨rfl, hb⟩; have X2 := X1.below hb; clear hb; have X2s := X2.size; have a0X2 := X2.a0; have a1X2 := X2.a1; have b0X2 := X2.b0; have b1X2 := X2.b1; have d0X2 := X2.d0; have d1X2 := X2.d1; have r0X2 := X2.r0; have r1X2 := X2.r1; have fa0X2 := X2.fa0; have fa1X2 := X2.fa1; have fb0X2 := X2.fb0; have fb1X2 := X2.fb1; have fr0X2 := X2.fr0; have fr1X2 := X2.fr1; obtain ⟨⟨l0X2, l1X2, l2X2⟩, ⟨l3X2, l4X2, l5X2⟩⟩ := X2.L.small; obtain ⟨lsX2, n0X2, n1X2, y0X2, y1X2, u0X2, u1X2⟩ := X2.L))
  all_goals
    clear X X1 X1s
    go_wp2
    refine bodyPost_ret (v := .agg #[.int .i64 (d), .int .i64 (0)]) ?_ rfl ⟨rfl, ?_⟩
    · simp only [results, Tryd.results19]
      go_simp
    · repeat (with_reducible refine below_sets ?_ _ _ _ ?_)
      · with_reducible exact X2.B
      all_goals first | exact le3 _ | exact le1 _ | exact le0 _
set_option maxHeartbeats 8000000 in
theorem joined_3 (a ae b be d : Int) (w : World) (hL : LaidW w) (c1 : (plT a ae == d && ae == 0) = false) (c2 : (plT b be == d && be == 0) = false) (c3 : (ae != 0) = true) :
    Calls Tryd.prog 19 #[.agg #[.int .i64 a, .int .i64 ae], .agg #[.int .i64 b, .int .i64 be], .agg #[.int .i64 d, .int .i64 0]] w fun en w' => en = .returned (.agg #[.int .i64 (0), .int .i64 (wo ae be)]) ∧ Below w.heap.size w w' := by
  have hw3 := hL.size
  have X := box4_start w hL a ae b be d 0
  obtain ⟨⟨i0, i1, i2⟩, ⟨i3, i4, i5⟩⟩ := hL.ne
  go_enter Tryd.func19, Tryd.ntmps19
  go_wp2_with fail
  go_region_with (go_at_call 22; first | ((with_reducible refine (plain_calls a ae _ X.drew.L).mono ?_); rintro en w1 ⟨rfl, hb⟩; have X1 := X.drew.below hb; clear hb; have X1s := X1.size; have a0X1 := X1.a0; have a1X1 := X1.a1; have b0X1 := X1.b0; have b1X1 := X1.b1; have d0X1 := X1.d0; have d1X1 := X1.d1; have r0X1 := X1.r0; have r1X1 := X1.r1; have fa0X1 := X1.fa0; have fa1X1 := X1.fa1; have fb0X1 := X1.fb0; have fb1X1 := X1.fb1; have fr0X1 := X1.fr0; have fr1X1 := X1.fr1; obtain ⟨⟨l0X1, l1X1, l2X1⟩, ⟨l3X1, l4X1, l5X1⟩⟩ := X1.L.small; obtain ⟨lsX1, n0X1, n1X1, y0X1, y1X1, u0X1, u1X1⟩ := X1.L) | ((with_reducible refine (plain_calls b be _ X1.L).mono ?_); rintro en w2 ⟨rfl, hb⟩; have X2 := X1.below hb; clear hb; have X2s := X2.size; have a0X2 := X2.a0; have a1X2 := X2.a1; have b0X2 := X2.b0; have b1X2 := X2.b1; have d0X2 := X2.d0; have d1X2 := X2.d1; have r0X2 := X2.r0; have r1X2 := X2.r1; have fa0X2 := X2.fa0; have fa1X2 := X2.fa1; have fb0X2 := X2.fb0; have fb1X2 := X2.fb1; have fr0X2 := X2.fr0; have fr1X2 := X2.fr1; obtain ⟨⟨l0X2, l1X2, l2X2⟩, ⟨l3X2, l4X2, l5X2⟩⟩ := X2.L.small; obtain ⟨lsX2, n0X2, n1X2, y0X2, y1X2, u0X2, u1X2⟩ := X2.L))
  all_goals
    clear X X1 X1s
    go_wp2_with (go_at_call 14; (with_reducible refine (logic_Worse.calls ae be _ _ (wo_eq ae be)).mono ?_); rintro en w3 ⟨rfl, hb⟩; have X3 := ((X2.setA hw3 (plT a ae) ae).setB hw3 (plT b be) be).below hb; clear hb; have X3s := X3.size; have a0X3 := X3.a0; have a1X3 := X3.a1; have b0X3 := X3.b0; have b1X3 := X3.b1; have d0X3 := X3.d0; have d1X3 := X3.d1; have r0X3 := X3.r0; have r1X3 := X3.r1; have fa0X3 := X3.fa0; have fa1X3 := X3.fa1; have fb0X3 := X3.fb0; have fb1X3 := X3.fb1; have fr0X3 := X3.fr0; have fr1X3 := X3.fr1; obtain ⟨⟨l0X3, l1X3, l2X3⟩, ⟨l3X3, l4X3, l5X3⟩⟩ := X3.L.small; obtain ⟨lsX3, n0X3, n1X3, y0X3, y1X3, u0X3, u1X3⟩ := X3.L)
    refine bodyPost_ret (v := .agg #[.int .i64 (0), .int .i64 (wo ae be)]) ?_ rfl ⟨rfl, ?_⟩
    · simp only [results, Tryd.results19]
      go_simp
    · repeat (with_reducible refine below_sets ?_ _ _ _ ?_)
      · with_reducible exact X3.B
      all_goals first | exact le3 _ | exact le1 _ | exact le0 _
set_option maxHeartbeats 8000000 in
theorem joined_4 (a ae b be d : Int) (w : World) (hL : LaidW w) (c1 : (plT a ae == d && ae == 0) = false) (c2 : (plT b be == d && be == 0) = false) (c3 : (ae != 0) = false) (c4 : (be != 0) = true) :
    Calls Tryd.prog 19 #[.agg #[.int .i64 a, .int .i64 ae], .agg #[.int .i64 b, .int .i64 be], .agg #[.int .i64 d, .int .i64 0]] w fun en w' => en = .returned (.agg #[.int .i64 (0), .int .i64 (wo ae be)]) ∧ Below w.heap.size w w' := by
  have hw3 := hL.size
  have X := box4_start w hL a ae b be d 0
  obtain ⟨⟨i0, i1, i2⟩, ⟨i3, i4, i5⟩⟩ := hL.ne
  go_enter Tryd.func19, Tryd.ntmps19
  go_wp2_with fail
  go_region_with (go_at_call 22; first | ((with_reducible refine (plain_calls a ae _ X.drew.L).mono ?_); rintro en w1 ⟨rfl, hb⟩; have X1 := X.drew.below hb; clear hb; have X1s := X1.size; have a0X1 := X1.a0; have a1X1 := X1.a1; have b0X1 := X1.b0; have b1X1 := X1.b1; have d0X1 := X1.d0; have d1X1 := X1.d1; have r0X1 := X1.r0; have r1X1 := X1.r1; have fa0X1 := X1.fa0; have fa1X1 := X1.fa1; have fb0X1 := X1.fb0; have fb1X1 := X1.fb1; have fr0X1 := X1.fr0; have fr1X1 := X1.fr1; obtain ⟨⟨l0X1, l1X1, l2X1⟩, ⟨l3X1, l4X1, l5X1⟩⟩ := X1.L.small; obtain ⟨lsX1, n0X1, n1X1, y0X1, y1X1, u0X1, u1X1⟩ := X1.L) | ((with_reducible refine (plain_calls b be _ X1.L).mono ?_); rintro en w2 ⟨rfl, hb⟩; have X2 := X1.below hb; clear hb; have X2s := X2.size; have a0X2 := X2.a0; have a1X2 := X2.a1; have b0X2 := X2.b0; have b1X2 := X2.b1; have d0X2 := X2.d0; have d1X2 := X2.d1; have r0X2 := X2.r0; have r1X2 := X2.r1; have fa0X2 := X2.fa0; have fa1X2 := X2.fa1; have fb0X2 := X2.fb0; have fb1X2 := X2.fb1; have fr0X2 := X2.fr0; have fr1X2 := X2.fr1; obtain ⟨⟨l0X2, l1X2, l2X2⟩, ⟨l3X2, l4X2, l5X2⟩⟩ := X2.L.small; obtain ⟨lsX2, n0X2, n1X2, y0X2, y1X2, u0X2, u1X2⟩ := X2.L))
  all_goals
    clear X X1 X1s
    go_wp2_with (go_at_call 14; (with_reducible refine (logic_Worse.calls ae be _ _ (wo_eq ae be)).mono ?_); rintro en w3 ⟨rfl, hb⟩; have X3 := ((X2.setA hw3 (plT a ae) ae).setB hw3 (plT b be) be).below hb; clear hb; have X3s := X3.size; have a0X3 := X3.a0; have a1X3 := X3.a1; have b0X3 := X3.b0; have b1X3 := X3.b1; have d0X3 := X3.d0; have d1X3 := X3.d1; have r0X3 := X3.r0; have r1X3 := X3.r1; have fa0X3 := X3.fa0; have fa1X3 := X3.fa1; have fb0X3 := X3.fb0; have fb1X3 := X3.fb1; have fr0X3 := X3.fr0; have fr1X3 := X3.fr1; obtain ⟨⟨l0X3, l1X3, l2X3⟩, ⟨l3X3, l4X3, l5X3⟩⟩ := X3.L.small; obtain ⟨lsX3, n0X3, n1X3, y0X3, y1X3, u0X3, u1X3⟩ := X3.L)
    refine bodyPost_ret (v := .agg #[.int .i64 (0), .int .i64 (wo ae be)]) ?_ rfl ⟨rfl, ?_⟩
    · simp only [results, Tryd.results19]
      go_simp
    · repeat (with_reducible refine below_sets ?_ _ _ _ ?_)
      · with_reducible exact X3.B
      all_goals first | exact le3 _ | exact le1 _ | exact le0 _
set_option maxHeartbeats 8000000 in
theorem joined_5 (a ae b be d : Int) (w : World) (hL : LaidW w) (c1 : (plT a ae == d && ae == 0) = false) (c2 : (plT b be == d && be == 0) = false) (c3 : (ae != 0) = false) (c4 : (be != 0) = false) (c5 : (plT a ae == 2 && ae == 0) = true) :
    Calls Tryd.prog 19 #[.agg #[.int .i64 a, .int .i64 ae], .agg #[.int .i64 b, .int .i64 be], .agg #[.int .i64 d, .int .i64 0]] w fun en w' => en = .returned (.agg #[.int .i64 (2), .int .i64 (0)]) ∧ Below w.heap.size w w' := by
  have hw3 := hL.size
  have X := box4_start w hL a ae b be d 0
  obtain ⟨⟨i0, i1, i2⟩, ⟨i3, i4, i5⟩⟩ := hL.ne
  go_enter Tryd.func19, Tryd.ntmps19
  go_wp2_with fail
  go_region_with (go_at_call 22; first | ((with_reducible refine (plain_calls a ae _ X.drew.L).mono ?_); rintro en w1 ⟨rfl, hb⟩; have X1 := X.drew.below hb; clear hb; have X1s := X1.size; have a0X1 := X1.a0; have a1X1 := X1.a1; have b0X1 := X1.b0; have b1X1 := X1.b1; have d0X1 := X1.d0; have d1X1 := X1.d1; have r0X1 := X1.r0; have r1X1 := X1.r1; have fa0X1 := X1.fa0; have fa1X1 := X1.fa1; have fb0X1 := X1.fb0; have fb1X1 := X1.fb1; have fr0X1 := X1.fr0; have fr1X1 := X1.fr1; obtain ⟨⟨l0X1, l1X1, l2X1⟩, ⟨l3X1, l4X1, l5X1⟩⟩ := X1.L.small; obtain ⟨lsX1, n0X1, n1X1, y0X1, y1X1, u0X1, u1X1⟩ := X1.L) | ((with_reducible refine (plain_calls b be _ X1.L).mono ?_); rintro en w2 ⟨rfl, hb⟩; have X2 := X1.below hb; clear hb; have X2s := X2.size; have a0X2 := X2.a0; have a1X2 := X2.a1; have b0X2 := X2.b0; have b1X2 := X2.b1; have d0X2 := X2.d0; have d1X2 := X2.d1; have r0X2 := X2.r0; have r1X2 := X2.r1; have fa0X2 := X2.fa0; have fa1X2 := X2.fa1; have fb0X2 := X2.fb0; have fb1X2 := X2.fb1; have fr0X2 := X2.fr0; have fr1X2 := X2.fr1; obtain ⟨⟨l0X2, l1X2, l2X2⟩, ⟨l3X2, l4X2, l5X2⟩⟩ := X2.L.small; obtain ⟨lsX2, n0X2, n1X2, y0X2, y1X2, u0X2, u1X2⟩ := X2.L))
  all_goals
    clear X X1 X1s
    go_wp2
    refine bodyPost_ret (v := .agg #[.int .i64 (2), .int .i64 (0)]) ?_ rfl ⟨rfl, ?_⟩
    · simp only [results, Tryd.results19]
      go_simp
    · repeat (with_reducible refine below_sets ?_ _ _ _ ?_)
      · with_reducible exact X2.B
      all_goals first | exact le3 _ | exact le1 _ | exact le0 _
set_option maxHeartbeats 8000000 in
theorem joined_6 (a ae b be d : Int) (w : World) (hL : LaidW w) (c1 : (plT a ae == d && ae == 0) = false) (c2 : (plT b be == d && be == 0) = false) (c3 : (ae != 0) = false) (c4 : (be != 0) = false) (c5 : (plT a ae == 2 && ae == 0) = false) (c6 : (plT b be == 2 && be == 0) = true) :
    Calls Tryd.prog 19 #[.agg #[.int .i64 a, .int .i64 ae], .agg #[.int .i64 b, .int .i64 be], .agg #[.int .i64 d, .int .i64 0]] w fun en w' => en = .returned (.agg #[.int .i64 (2), .int .i64 (0)]) ∧ Below w.heap.size w w' := by
  have hw3 := hL.size
  have X := box4_start w hL a ae b be d 0
  obtain ⟨⟨i0, i1, i2⟩, ⟨i3, i4, i5⟩⟩ := hL.ne
  go_enter Tryd.func19, Tryd.ntmps19
  go_wp2_with fail
  go_region_with (go_at_call 22; first | ((with_reducible refine (plain_calls a ae _ X.drew.L).mono ?_); rintro en w1 ⟨rfl, hb⟩; have X1 := X.drew.below hb; clear hb; have X1s := X1.size; have a0X1 := X1.a0; have a1X1 := X1.a1; have b0X1 := X1.b0; have b1X1 := X1.b1; have d0X1 := X1.d0; have d1X1 := X1.d1; have r0X1 := X1.r0; have r1X1 := X1.r1; have fa0X1 := X1.fa0; have fa1X1 := X1.fa1; have fb0X1 := X1.fb0; have fb1X1 := X1.fb1; have fr0X1 := X1.fr0; have fr1X1 := X1.fr1; obtain ⟨⟨l0X1, l1X1, l2X1⟩, ⟨l3X1, l4X1, l5X1⟩⟩ := X1.L.small; obtain ⟨lsX1, n0X1, n1X1, y0X1, y1X1, u0X1, u1X1⟩ := X1.L) | ((with_reducible refine (plain_calls b be _ X1.L).mono ?_); rintro en w2 ⟨rfl, hb⟩; have X2 := X1.below hb; clear hb; have X2s := X2.size; have a0X2 := X2.a0; have a1X2 := X2.a1; have b0X2 := X2.b0; have b1X2 := X2.b1; have d0X2 := X2.d0; have d1X2 := X2.d1; have r0X2 := X2.r0; have r1X2 := X2.r1; have fa0X2 := X2.fa0; have fa1X2 := X2.fa1; have fb0X2 := X2.fb0; have fb1X2 := X2.fb1; have fr0X2 := X2.fr0; have fr1X2 := X2.fr1; obtain ⟨⟨l0X2, l1X2, l2X2⟩, ⟨l3X2, l4X2, l5X2⟩⟩ := X2.L.small; obtain ⟨lsX2, n0X2, n1X2, y0X2, y1X2, u0X2, u1X2⟩ := X2.L))
  all_goals
    clear X X1 X1s
    go_wp2
    refine bodyPost_ret (v := .agg #[.int .i64 (2), .int .i64 (0)]) ?_ rfl ⟨rfl, ?_⟩
    · simp only [results, Tryd.results19]
      go_simp
    · repeat (with_reducible refine below_sets ?_ _ _ _ ?_)
      · with_reducible exact X2.B
      all_goals first | exact le3 _ | exact le1 _ | exact le0 _
set_option maxHeartbeats 8000000 in
theorem joined_7 (a ae b be d : Int) (w : World) (hL : LaidW w) (c1 : (plT a ae == d && ae == 0) = false) (c2 : (plT b be == d && be == 0) = false) (c3 : (ae != 0) = false) (c4 : (be != 0) = false) (c5 : (plT a ae == 2 && ae == 0) = false) (c6 : (plT b be == 2 && be == 0) = false) :
    Calls Tryd.prog 19 #[.agg #[.int .i64 a, .int .i64 ae], .agg #[.int .i64 b, .int .i64 be], .agg #[.int .i64 d, .int .i64 0]] w fun en w' => en = .returned (.agg #[.int .i64 (plT a ae), .int .i64 (ae)]) ∧ Below w.heap.size w w' := by
  have hw3 := hL.size
  have X := box4_start w hL a ae b be d 0
  obtain ⟨⟨i0, i1, i2⟩, ⟨i3, i4, i5⟩⟩ := hL.ne
  go_enter Tryd.func19, Tryd.ntmps19
  go_wp2_with fail
  go_region_with (go_at_call 22; first | ((with_reducible refine (plain_calls a ae _ X.drew.L).mono ?_); rintro en w1 ⟨rfl, hb⟩; have X1 := X.drew.below hb; clear hb; have X1s := X1.size; have a0X1 := X1.a0; have a1X1 := X1.a1; have b0X1 := X1.b0; have b1X1 := X1.b1; have d0X1 := X1.d0; have d1X1 := X1.d1; have r0X1 := X1.r0; have r1X1 := X1.r1; have fa0X1 := X1.fa0; have fa1X1 := X1.fa1; have fb0X1 := X1.fb0; have fb1X1 := X1.fb1; have fr0X1 := X1.fr0; have fr1X1 := X1.fr1; obtain ⟨⟨l0X1, l1X1, l2X1⟩, ⟨l3X1, l4X1, l5X1⟩⟩ := X1.L.small; obtain ⟨lsX1, n0X1, n1X1, y0X1, y1X1, u0X1, u1X1⟩ := X1.L) | ((with_reducible refine (plain_calls b be _ X1.L).mono ?_); rintro en w2 ⟨rfl, hb⟩; have X2 := X1.below hb; clear hb; have X2s := X2.size; have a0X2 := X2.a0; have a1X2 := X2.a1; have b0X2 := X2.b0; have b1X2 := X2.b1; have d0X2 := X2.d0; have d1X2 := X2.d1; have r0X2 := X2.r0; have r1X2 := X2.r1; have fa0X2 := X2.fa0; have fa1X2 := X2.fa1; have fb0X2 := X2.fb0; have fb1X2 := X2.fb1; have fr0X2 := X2.fr0; have fr1X2 := X2.fr1; obtain ⟨⟨l0X2, l1X2, l2X2⟩, ⟨l3X2, l4X2, l5X2⟩⟩ := X2.L.small; obtain ⟨lsX2, n0X2, n1X2, y0X2, y1X2, u0X2, u1X2⟩ := X2.L))
  all_goals
    clear X X1 X1s
    go_wp2
    refine bodyPost_ret (v := .agg #[.int .i64 (plT a ae), .int .i64 (ae)]) ?_ rfl ⟨rfl, ?_⟩
    · simp only [results, Tryd.results19]
      go_simp
    · repeat (with_reducible refine below_sets ?_ _ _ _ ?_)
      · with_reducible exact X2.B
      all_goals first | exact le3 _ | exact le1 _ | exact le0 _
end Go.Proofs.YtblbdepklmlcoaaDoor
