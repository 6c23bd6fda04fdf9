/- Both, one of both, turned about: the program's and the document's walks. -/
import Derived.Test.YtblbdepklmlcoaaDoorLc
namespace Go.Proofs.YtblbdepklmlcoaaDoor
open Go.RowKit Go.Proofs.YtblbdepklmlcoaaDoorW.PrintWords A
set_option linter.unusedVariables false
set_option linter.unusedSimpArgs false
attribute [local go_sem high] eqA24
theorem joined_calls (a ae b be d : Int) (w : World) (hL : LaidW w) :
    Calls Tryd.prog 19 #[.agg #[.int .i64 a, .int .i64 ae], .agg #[.int .i64 b, .int .i64 be], .agg #[.int .i64 d, .int .i64 0]] w fun en w' => en = .returned (.agg #[.int .i64 (jT a ae b be d), .int .i64 (jE a ae b be d)]) ∧ Below w.heap.size w w' := by
  cases c1 : (plT a ae == d && ae == 0)
  · cases c2 : (plT b be == d && be == 0)
    · have n12 : ¬ ((plT a ae == d && ae == 0) = true ∨ (plT b be == d && be == 0) = true) := by rw [c1, c2]; simp
      have eE : jE a ae b be d = wo ae be := by unfold jE; rw [if_neg n12]
      rw [eE]
      cases c3 : (ae != 0)
      · cases c4 : (be != 0)
        · have e3 : ae = 0 := by simpa using c3
          have e4 : be = 0 := by simpa using c4
          have n34 : ¬ (ae ≠ 0 ∨ be ≠ 0) := by simp [e3, e4]
          have eW : wo ae be = 0 := by rw [e3, e4]; rfl
          rw [eW]
          cases c5 : (plT a ae == 2 && ae == 0)
          · cases c6 : (plT b be == 2 && be == 0)
            · have n56 : ¬ (plT a ae = 2 ∨ plT b be = 2) := by
                rintro (h | h)
                · rw [h, e3] at c5; cases c5
                · rw [h, e4] at c6; cases c6
              have eT : jT a ae b be d = plT a ae := by unfold jT; rw [if_neg n12, if_neg n34, if_neg n56]
              rw [eT]
              have := joined_7 a ae b be d w hL c1 c2 c3 c4 c5 c6
              rw [e3] at this ⊢; exact this
            · have eT : jT a ae b be d = 2 := by unfold jT; rw [if_neg n12, if_neg n34, if_pos (Or.inr (by simp at c6; exact c6.1))]
              rw [eT]; exact joined_6 a ae b be d w hL c1 c2 c3 c4 c5 c6
          · have eT : jT a ae b be d = 2 := by unfold jT; rw [if_neg n12, if_neg n34, if_pos (Or.inl (by simp at c5; exact c5.1))]
            rw [eT]; exact joined_5 a ae b be d w hL c1 c2 c3 c4 c5
        · have eT : jT a ae b be d = 0 := by unfold jT; rw [if_neg n12, if_pos (Or.inr (by simpa using c4))]
          rw [eT]; exact joined_4 a ae b be d w hL c1 c2 c3 c4
      · have eT : jT a ae b be d = 0 := by unfold jT; rw [if_neg n12, if_pos (Or.inl (by simpa using c3))]
        rw [eT]; exact joined_3 a ae b be d w hL c1 c2 c3
    · have eT : jT a ae b be d = d := by unfold jT; rw [if_pos (Or.inr c2)]
      have eE : jE a ae b be d = 0 := by unfold jE; rw [if_pos (Or.inr c2)]
      rw [eT, eE]; exact joined_2 a ae b be d w hL c1 c2
  · have eT : jT a ae b be d = d := by unfold jT; rw [if_pos (Or.inl c1)]
    have eE : jE a ae b be d = 0 := by unfold jE; rw [if_pos (Or.inl c1)]
    rw [eT, eE]; exact joined_1 a ae b be d w hL c1
theorem and_calls (a ae b be : Int) (w : World) (hL : LaidW w) :
    Calls Tryd.prog 8 #[.agg #[.int .i64 a, .int .i64 ae], .agg #[.int .i64 b, .int .i64 be]] w fun en w' => en = .returned (.agg #[.int .i64 (jT a ae b be 0), .int .i64 (jE a ae b be 0)]) ∧ Below w.heap.size w w' := by
  have hB : ∀ o p q, Below w.heap.size w (((w.alloc o).alloc p).alloc q) := fun _ _ _ => by repeat (first | exact Below.refl _ _ | apply below_alloc)
  have hL0 := hL
  obtain ⟨⟨l0, l1, l2⟩, ⟨l3, l4, l5⟩⟩ := hL.small
  obtain ⟨ls, n0, n1, y0, y1, u0, u1⟩ := hL
  go_enter Tryd.func8, Tryd.ntmps8
  go_wp2_with fail
  (with_reducible refine (joined_calls a ae b be 0 _ (hL0.below (hB _ _ _))).mono ?_)
  rintro en w1 ⟨rfl, hb⟩
  have hB1 := below_step (hB _ _ _) hb
  have hs := hb.size
  simp only [World.size_alloc] at hs
  have z2 : w.heap.size + 1 + 1 < w1.heap.size := by omega
  have r0 : w1.cell? ⟨w.heap.size + 1 + 1, 0, none⟩ = some (.int .i64 0) := (hb.cell (by simp)).trans (by go_simp)
  have r1 : w1.cell? ⟨w.heap.size + 1 + 1, 1, none⟩ = some (.int .i64 0) := (hb.cell (by simp)).trans (by go_simp)
  have f0 : w1.frozen? ⟨w.heap.size + 1 + 1, 0, none⟩ = false := (hb.frozen (by simp)).trans (by go_simp)
  have f1 : w1.frozen? ⟨w.heap.size + 1 + 1, 1, none⟩ = false := (hb.frozen (by simp)).trans (by go_simp)
  clear hb
  go_wp2
  refine bodyPost_ret (v := .agg #[.int .i64 (jT a ae b be 0), .int .i64 (jE a ae b be 0)]) ?_ rfl ⟨rfl, ?_⟩
  · simp only [results, Tryd.results8]
    go_simp
  · repeat (with_reducible refine below_sets ?_ _ _ _ ?_)
    · with_reducible exact hB1
    all_goals omega
theorem or_calls (a ae b be : Int) (w : World) (hL : LaidW w) :
    Calls Tryd.prog 10 #[.agg #[.int .i64 a, .int .i64 ae], .agg #[.int .i64 b, .int .i64 be]] w fun en w' => en = .returned (.agg #[.int .i64 (jT a ae b be 1), .int .i64 (jE a ae b be 1)]) ∧ Below w.heap.size w w' := by
  have hB : ∀ o p q, Below w.heap.size w (((w.alloc o).alloc p).alloc q) := fun _ _ _ => by repeat (first | exact Below.refl _ _ | apply below_alloc)
  have hL0 := hL
  obtain ⟨⟨l0, l1, l2⟩, ⟨l3, l4, l5⟩⟩ := hL.small
  obtain ⟨ls, n0, n1, y0, y1, u0, u1⟩ := hL
  go_enter Tryd.func10, Tryd.ntmps10
  go_wp2_with fail
  (with_reducible refine (joined_calls a ae b be 1 _ (hL0.below (hB _ _ _))).mono ?_)
  rintro en w1 ⟨rfl, hb⟩
  have hB1 := below_step (hB _ _ _) hb
  have hs := hb.size
  simp only [World.size_alloc] at hs
  have z2 : w.heap.size + 1 + 1 < w1.heap.size := by omega
  have r0 : w1.cell? ⟨w.heap.size + 1 + 1, 0, none⟩ = some (.int .i64 0) := (hb.cell (by simp)).trans (by go_simp)
  have r1 : w1.cell? ⟨w.heap.size + 1 + 1, 1, none⟩ = some (.int .i64 0) := (hb.cell (by simp)).trans (by go_simp)
  have f0 : w1.frozen? ⟨w.heap.size + 1 + 1, 0, none⟩ = false := (hb.frozen (by simp)).trans (by go_simp)
  have f1 : w1.frozen? ⟨w.heap.size + 1 + 1, 1, none⟩ = false := (hb.frozen (by simp)).trans (by go_simp)
  clear hb
  go_wp2
  refine bodyPost_ret (v := .agg #[.int .i64 (jT a ae b be 1), .int .i64 (jE a ae b be 1)]) ?_ rfl ⟨rfl, ?_⟩
  · simp only [results, Tryd.results10]
    go_simp
  · repeat (with_reducible refine below_sets ?_ _ _ _ ?_)
    · with_reducible exact hB1
    all_goals omega
def mkV (a ae : Int) : Int := if ae = 0 then (if a = 0 then 0 else if a = 1 then 1 else 2) else 3
theorem mark_eq (a ae : Int) : haspref04_Mark.f a ae = some (mkV a ae) := by
  unfold haspref04_Mark.f mkV
  split
  · split
    · rename_i h; rw [h]
    · split
      · rename_i h; rw [h]
      · rfl
  · rfl
def notTab : List Int := [1, 0, 2, 0]
theorem mk_cases (a ae : Int) : mkV a ae = 0 ∨ mkV a ae = 1 ∨ mkV a ae = 2 ∨ mkV a ae = 3 := by
  unfold mkV
  split
  · split
    · simp
    · split <;> simp
  · simp
end Go.Proofs.YtblbdepklmlcoaaDoor
