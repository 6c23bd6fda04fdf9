import Derived.Test.YtbdengnadgofmaaZdVx13
/- The types of answers: the plain law of layer 3, third part. -/
namespace Go.Proofs.Ytbdengnadgofmaa
open Go.RowKit Go.Proofs.YtbdengnadgofmaaW.PrintWords V
set_option linter.unusedSimpArgs false
set_option linter.unusedVariables false
def opN (op : Int) : Int := if 7 ≤ op ∧ op ≤ 12 then 2 else if 13 ≤ op ∧ op ≤ 15 then 1 else 0
theorem opers (g : Nat) (op : Int) : arith_operands.f (g + 1) op = some (opN op) := by
  unfold arith_operands.f opN
  simp only [arith_operands.j0]
  by_cases h : 7 ≤ op ∧ op ≤ 15
  · have : op = 7 ∨ op = 8 ∨ op = 9 ∨ op = 10 ∨ op = 11 ∨ op = 12 ∨ op = 13 ∨ op = 14 ∨ op = 15 := by omega
    rcases this with rfl | rfl | rfl | rfl | rfl | rfl | rfl | rfl | rfl <;> simp
  · have e : (op == 12) = false := by simp; omega
    rw [if_neg (by omega), if_neg (by omega), if_neg (by omega), if_neg (by omega), if_neg (by omega), e, if_neg (by simp), if_neg (by omega), if_neg (by omega), if_neg (by omega), if_neg (by omega), if_neg (by omega)]
theorem counts (g : Nat) (op : Int) : haspref03_Count.f (g + 1) op = some (opN op) := by
  unfold haspref03_Count.f opN
  simp only [haspref03_Count.j0]
  by_cases h : 7 ≤ op ∧ op ≤ 15
  · have : op = 7 ∨ op = 8 ∨ op = 9 ∨ op = 10 ∨ op = 11 ∨ op = 12 ∨ op = 13 ∨ op = 14 ∨ op = 15 := by omega
    rcases this with rfl | rfl | rfl | rfl | rfl | rfl | rfl | rfl | rfl <;> simp
  · rw [if_neg (show ¬ (7 ≤ op ∧ op ≤ 12) by omega), if_neg (show ¬ (13 ≤ op ∧ op ≤ 15) by omega)]
    by_cases h7 : 7 ≤ op
    · have e : decide (op ≤ 12) = false := by simp; omega
      rw [if_pos h7, e, if_neg (by simp), if_pos (by omega), if_neg (by omega)]
    · rw [if_neg (by omega), if_neg (by simp), if_neg (by omega)]
def ansV (op t : Int) : Int :=
  if op = 14 then (if 1 ≤ t ∧ t ≤ 3 then 2 else 0) else if op = 15 then (if t = 2 ∨ t = 3 then 3 else 0) else if op = 12 then (if t = 4 then 4 else 0)
  else if op = 11 then (if t = 2 then 2 else 0) else if t = 2 ∨ t = 3 then t else 0
def isOp (op : Int) : Prop := op = 7 ∨ op = 8 ∨ op = 9 ∨ op = 10 ∨ op = 11 ∨ op = 12 ∨ op = 13 ∨ op = 14 ∨ op = 15
theorem answer_eq (g : Nat) (op t : Int) (h : isOp op) : arith_answer.f (g + 5) op t = some (ansV op t) := by
  unfold arith_answer.f
  by_cases t1 : t = 1
  · subst t1; rcases h with rfl | rfl | rfl | rfl | rfl | rfl | rfl | rfl | rfl <;> simp [arith_answer.j0, arith_answer.j1, arith_answer.j2, arith_answer.j3, arith_answer.j4, ansV]
  by_cases t2 : t = 2
  · subst t2; rcases h with rfl | rfl | rfl | rfl | rfl | rfl | rfl | rfl | rfl <;> simp [arith_answer.j0, arith_answer.j1, arith_answer.j2, arith_answer.j3, arith_answer.j4, ansV]
  by_cases t3 : t = 3
  · subst t3; rcases h with rfl | rfl | rfl | rfl | rfl | rfl | rfl | rfl | rfl <;> simp [arith_answer.j0, arith_answer.j1, arith_answer.j2, arith_answer.j3, arith_answer.j4, ansV]
  by_cases t4 : t = 4
  · subst t4; rcases h with rfl | rfl | rfl | rfl | rfl | rfl | rfl | rfl | rfl <;> simp [arith_answer.j0, arith_answer.j1, arith_answer.j2, arith_answer.j3, arith_answer.j4, ansV]
  have t13 : ¬ (1 ≤ t ∧ t ≤ 3) := by omega
  rcases h with rfl | rfl | rfl | rfl | rfl | rfl | rfl | rfl | rfl <;> simp [arith_answer.j0, arith_answer.j1, arith_answer.j2, arith_answer.j3, arith_answer.j4, ansV, t1, t2, t3, t4] <;> omega
theorem one_eq (g : Nat) (op t : Int) (h : isOp op) : haspref03_One.f (g + 1) op t = some (ansV op t) := by
  unfold haspref03_One.f
  by_cases t1 : t = 1
  · subst t1; rcases h with rfl | rfl | rfl | rfl | rfl | rfl | rfl | rfl | rfl <;> simp [haspref03_One.j0, ansV]
  by_cases t2 : t = 2
  · subst t2; rcases h with rfl | rfl | rfl | rfl | rfl | rfl | rfl | rfl | rfl <;> simp [haspref03_One.j0, ansV]
  by_cases t3 : t = 3
  · subst t3; rcases h with rfl | rfl | rfl | rfl | rfl | rfl | rfl | rfl | rfl <;> simp [haspref03_One.j0, ansV]
  by_cases t4 : t = 4
  · subst t4; rcases h with rfl | rfl | rfl | rfl | rfl | rfl | rfl | rfl | rfl <;> simp [haspref03_One.j0, ansV]
  by_cases q : 1 ≤ t
  · have q3 : ¬ t ≤ 3 := by omega
    rcases h with rfl | rfl | rfl | rfl | rfl | rfl | rfl | rfl | rfl <;> simp [haspref03_One.j0, ansV, t1, t2, t3, t4, q, q3]
  · rcases h with rfl | rfl | rfl | rfl | rfl | rfl | rfl | rfl | rfl <;> simp [haspref03_One.j0, ansV, t1, t2, t3, t4, q]
def alV (op : Int) : Int := if op = 12 then 4 else if op = 11 ∨ op = 14 then 2 else if op = 15 then 3 else 0
/-- The type of an operator's answer to operands of one type or Null. -/
def tyV (op t : Int) : Int × Bool := if t = 0 then (alV op, alV op != 0) else (ansV op t, ansV op t != 0)
def two (op x y : Int) : Int × Bool := if x = 0 then tyV op y else if y = 0 then tyV op x else if x = y then tyV op x else (0, false)
end Go.Proofs.Ytbdengnadgofmaa
