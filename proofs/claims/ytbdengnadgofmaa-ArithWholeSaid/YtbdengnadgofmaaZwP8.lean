/- Quotient and rest make the dividend again; a sum less one of its parts is the other one: the plain law of layer 3, last part. -/
import Derived.Test.YtbdengnadgofmaaZwP6
import Derived.Test.YtbdengnadgofmaaZwVx15
namespace Go.Proofs.Ytbdengnadgofmaa
open Go.RowKit Go.Proofs.YtbdengnadgofmaaW.PrintWords V Fl
set_option linter.unusedSimpArgs false
set_option linter.unusedVariables false
theorem do_wh (g : Nat) (op a b : Int) (h : op = 7 ∨ op = 8 ∨ op = 9 ∨ op = 10 ∨ op = 11) : arith_Do.f (g + 19) op [(⟨2, a, E0⟩ : S25), (⟨2, b, E0⟩ : S25)] = some (fin 2 (whA op a b)) := by
  induction g with
  | zero =>
    rw [do_two op a b h, whole_eq, Option.bind_some]
    unfold fin
    split <;> rfl
  | succ g ih => exact arith_Do.mono _ _ _ _ ih
theorem fin0 (n : Int) : fin 2 (n, 0) = (2, n, E0, 0) := rfl
theorem fin31 : fin 2 (0, 31) = (0, 0, E0, 31) := rfl
theorem fin32 : fin 2 (0, 32) = (0, 0, E0, 32) := rfl
theorem whA7 (a b : Int) : whA 7 a b = if addO a b then (0, 31) else (wrap64 (a + b), 0) := rfl
theorem whA8 (a b : Int) : whA 8 a b = if subO a b then (0, 31) else (wrap64 (a - b), 0) := rfl
theorem whole_j (a b : Int) (ha : i64 a) (hb : i64 b) : hasplaw03_ArithWhole.j0 20 a b = some true := by
  rw [hasplaw03_ArithWhole.j0]
  unfold hasplaw03_num.f
  simp only [Option.bind_some]
  have h1 := do_wh 0 7 a b (by simp)
  rw [whA7] at h1
  have s1 := addO_spec a b ha hb
  unfold E0 at h1
  rw [h1]
  cases e1 : addO a b
  · have hi := s1.1.1 e1
    rw [w64_in _ hi]
    simp only [Bool.false_eq_true, if_false, fin0, Option.bind_some, if_true]
    have h2 := do_wh 0 8 (a + b) b (by simp)
    rw [whA8] at h2
    have s2 := subO_spec (a + b) b hi hb
    have e2 : subO (a + b) b = false := s2.1.2 (by rw [show a + b - b = a by omega]; exact ha)
    unfold E0 at h2
    rw [h2, e2, show a + b - b = a by omega, w64_in _ ha]
    simp [fin0, E0]
  · have hn : ¬ i64 (a + b) := fun h => by rw [s1.1.2 h] at e1; cases e1
    unfold i64 at *
    have x1 : ((decide (a < 0)) == (decide (b < 0))) = true := by rw [beq_iff_eq, decide_eq_decide]; omega
    have x2 : a ≠ 0 := by omega
    have x3 : b ≠ 0 := by omega
    simp [fin31, x1, x2, x3]
theorem WholePure (a : Int) (wa : (Lit.int .i64 a).wf = true) (b : Int) (wb : (Lit.int .i64 b).wf = true) : ∃ k, hasplaw03_ArithWhole.f k a b = some true := by
  have ha := i64_of_wf a wa
  have hb := i64_of_wf b wb
  refine ⟨20, ?_⟩
  have hj := whole_j a b ha hb
  unfold hasplaw03_ArithWhole.f hasplaw03_speaks.f hasplaw03_num.f
  simp only [Option.bind_some, if_true]
  have h1 := do_wh 1 10 a b (by simp)
  have h2 := do_wh 1 11 a b (by simp)
  unfold E0 at h1 h2
  rw [h1, h2]
  simp only [Option.bind_some]
  by_cases b0 : b = 0
  · subst b0
    have e1 : whA 10 a 0 = (0, 32) := rfl
    have e2 : whA 11 a 0 = (0, 32) := rfl
    rw [if_pos rfl, e1, e2, fin32]
    simp [hj]
  · rw [if_neg b0]
    have e2 : whA 11 a b = ((if b = -1 then 0 else Int.tmod a b), 0) := by unfold whA; rw [if_neg (by decide), if_neg (by decide), if_neg (by decide), if_neg (by decide), if_neg b0, if_pos rfl]
    have e1 : whA 10 a b = if a = -9223372036854775808 ∧ b = -1 then (0, 31) else (wrap64 (Int.tdiv a b), 0) := by unfold whA; rw [if_neg (by decide), if_neg (by decide), if_neg (by decide), if_neg (by decide), if_neg b0, if_neg (by decide)]
    rw [e2, e1, fin0]
    simp only [if_true]
    by_cases hm : a = -9223372036854775808 ∧ b = -1
    · obtain ⟨m1, m2⟩ := hm
      subst m1 m2
      have e : (if (-9223372036854775808 : Int) = -9223372036854775808 ∧ (-1 : Int) = -1 then ((0 : Int), (31 : Int)) else (wrap64 (Int.tdiv (-9223372036854775808) (-1)), 0)) = (0, 31) := if_pos ⟨rfl, rfl⟩
      rw [e, fin31, if_pos rfl]
      simp [hj]
    · rw [if_neg hm, fin0]
      have ht : i64 (Int.tdiv a b) := tdiv_i64 a b ha b0 (fun h => hm ⟨h.2, h.1⟩)
      have key : wrap64 (wrap64 (wrap64 (Int.tdiv a b) * b) + (if b = -1 then 0 else Int.tmod a b)) = a := by
        rw [w64_in _ ht]
        have hd := Int.tdiv_mul_add_tmod a b
        have hr : (if b = -1 then 0 else Int.tmod a b) = Int.tmod a b := by
          split
          · rename_i b1; subst b1; rw [Int.tmod_neg, Int.tmod_one]
          · rfl
        rw [hr]
        obtain ⟨q, hq⟩ := w64_mod (Int.tdiv a b * b)
        rw [hq]
        have : Int.tdiv a b * b + q * 18446744073709551616 + Int.tmod a b = a + q * 18446744073709551616 := by omega
        rw [this]
        unfold i64 at ha
        simp only [wrap64]; omega
      simp only [if_true, key]
      by_cases am : a = -9223372036854775808
      · have b1 : b ≠ -1 := fun h => hm ⟨am, h⟩
        rw [if_pos am]
        have : (((0 : Int) != 0) != (b == -1)) = false := by simp [b1]
        rw [this]
        simp [hj]
      · rw [if_neg am]
        simp [hj]
end Go.Proofs.Ytbdengnadgofmaa
