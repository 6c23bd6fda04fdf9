/- The types of answers: the plain law of layer 3, third part. -/
import Derived.Test.YtbdengnadgofmaaVx13
namespace Go.Proofs.Ytbdengnadgofmaa
open Go.RowKit Go.Proofs.YtbdengnadgofmaaW.PrintWords V
set_option linter.unusedSimpArgs false
set_option linter.unusedVariables false
theorem rd2_0 (x y : Int) : rd [x, y] 0 = x := rfl
theorem rd2_1 (x y : Int) : rd [x, y] 1 = y := rfl
theorem rd1_0 (x : Int) : rd [x] 0 = x := rfl
theorem ww1 : wrap64 (0 + 1) = 1 := by decide +kernel
theorem ww2 : wrap64 (1 + 1) = 2 := by decide +kernel
theorem ww3 : wrap64 ((2 : Int) - 1) = 1 := by decide +kernel
theorem ww4 : wrap64 ((1 : Int) - 1) = 0 := by decide +kernel
def opN (op : Int) : Int := if 7 ≤ op ∧ op ≤ 12 then 2 else if 13 ≤ op ∧ op ≤ 15 then 1 else 0
theorem opers (g : Nat) (op : Int) : arith_operands.f (g + 1) op = some (opN op) := by
  unfold arith_operands.f opN
  simp only [arith_operands.j0]
  by_cases h : 7 ≤ op ∧ op ≤ 15
  · have : op = 7 ∨ op = 8 ∨ op = 9 ∨ op = 10 ∨ op = 11 ∨ op = 12 ∨ op = 13 ∨ op = 14 ∨ op = 15 := by omega
    rcases this with rfl | rfl | rfl | rfl | rfl | rfl | rfl | rfl | rfl <;> simp
  · have e : (op == 12) = false := by simp; omega
    rw [if_neg (by omega), if_neg (by omega), if_neg (by omega), if_neg (by omega), if_neg (by omega), e, if_neg (by simp), if_neg (by omega), if_neg (by omega), if_neg (by omega), if_neg (by omega), if_neg (by omega)]
theorem counts (g : Nat) (op : Int) : haspref03_Count.f (g + 1) op = some (opN op) := by
  unfold haspref03_Count.f opN
  simp only [haspref03_Count.j0]
  by_cases h : 7 ≤ op ∧ op ≤ 15
  · have : op = 7 ∨ op = 8 ∨ op = 9 ∨ op = 10 ∨ op = 11 ∨ op = 12 ∨ op = 13 ∨ op = 14 ∨ op = 15 := by omega
    rcases this with rfl | rfl | rfl | rfl | rfl | rfl | rfl | rfl | rfl <;> simp
  · rw [if_neg (show ¬ (7 ≤ op ∧ op ≤ 12) by omega), if_neg (show ¬ (13 ≤ op ∧ op ≤ 15) by omega)]
    by_cases h7 : 7 ≤ op
    · have e : decide (op ≤ 12) = false := by simp; omega
      rw [if_pos h7, e, if_neg (by simp), if_pos (by omega), if_neg (by omega)]
    · rw [if_neg (by omega), if_neg (by simp), if_neg (by omega)]
def ansV (op t : Int) : Int :=
  if op = 14 then (if 1 ≤ t ∧ t ≤ 3 then 2 else 0) else if op = 15 then (if t = 2 ∨ t = 3 then 3 else 0) else if op = 12 then (if t = 4 then 4 else 0)
  else if op = 11 then (if t = 2 then 2 else 0) else if t = 2 ∨ t = 3 then t else 0
def isOp (op : Int) : Prop := op = 7 ∨ op = 8 ∨ op = 9 ∨ op = 10 ∨ op = 11 ∨ op = 12 ∨ op = 13 ∨ op = 14 ∨ op = 15
theorem answer_eq (g : Nat) (op t : Int) (h : isOp op) : arith_answer.f (g + 5) op t = some (ansV op t) := by
  unfold arith_answer.f
  by_cases t1 : t = 1
  · subst t1; rcases h with rfl | rfl | rfl | rfl | rfl | rfl | rfl | rfl | rfl <;> simp [arith_answer.j0, arith_answer.j1, arith_answer.j2, arith_answer.j3, arith_answer.j4, ansV]
  by_cases t2 : t = 2
  · subst t2; rcases h with rfl | rfl | rfl | rfl | rfl | rfl | rfl | rfl | rfl <;> simp [arith_answer.j0, arith_answer.j1, arith_answer.j2, arith_answer.j3, arith_answer.j4, ansV]
  by_cases t3 : t = 3
  · subst t3; rcases h with rfl | rfl | rfl | rfl | rfl | rfl | rfl | rfl | rfl <;> simp [arith_answer.j0, arith_answer.j1, arith_answer.j2, arith_answer.j3, arith_answer.j4, ansV]
  by_cases t4 : t = 4
  · subst t4; rcases h with rfl | rfl | rfl | rfl | rfl | rfl | rfl | rfl | rfl <;> simp [arith_answer.j0, arith_answer.j1, arith_answer.j2, arith_answer.j3, arith_answer.j4, ansV]
  have t13 : ¬ (1 ≤ t ∧ t ≤ 3) := by omega
  rcases h with rfl | rfl | rfl | rfl | rfl | rfl | rfl | rfl | rfl <;> simp [arith_answer.j0, arith_answer.j1, arith_answer.j2, arith_answer.j3, arith_answer.j4, ansV, t1, t2, t3, t4] <;> omega
theorem one_eq (g : Nat) (op t : Int) (h : isOp op) : haspref03_One.f (g + 1) op t = some (ansV op t) := by
  unfold haspref03_One.f
  by_cases t1 : t = 1
  · subst t1; rcases h with rfl | rfl | rfl | rfl | rfl | rfl | rfl | rfl | rfl <;> simp [haspref03_One.j0, ansV]
  by_cases t2 : t = 2
  · subst t2; rcases h with rfl | rfl | rfl | rfl | rfl | rfl | rfl | rfl | rfl <;> simp [haspref03_One.j0, ansV]
  by_cases t3 : t = 3
  · subst t3; rcases h with rfl | rfl | rfl | rfl | rfl | rfl | rfl | rfl | rfl <;> simp [haspref03_One.j0, ansV]
  by_cases t4 : t = 4
  · subst t4; rcases h with rfl | rfl | rfl | rfl | rfl | rfl | rfl | rfl | rfl <;> simp [haspref03_One.j0, ansV]
  by_cases q : 1 ≤ t
  · have q3 : ¬ t ≤ 3 := by omega
    rcases h with rfl | rfl | rfl | rfl | rfl | rfl | rfl | rfl | rfl <;> simp [haspref03_One.j0, ansV, t1, t2, t3, t4, q, q3]
  · rcases h with rfl | rfl | rfl | rfl | rfl | rfl | rfl | rfl | rfl <;> simp [haspref03_One.j0, ansV, t1, t2, t3, t4, q]
def alV (op : Int) : Int := if op = 12 then 4 else if op = 11 ∨ op = 14 then 2 else if op = 15 then 3 else 0
theorem alone_eq (g : Nat) (op : Int) (h : isOp op) : arith_alone.f (g + 1) op = some (alV op) := by
  unfold arith_alone.f
  rcases h with rfl | rfl | rfl | rfl | rfl | rfl | rfl | rfl | rfl <;> simp [arith_alone.j0, alV]
/-- The type of an operator's answer to operands of one type or Null. -/
def tyV (op t : Int) : Int × Bool := if t = 0 then (alV op, alV op != 0) else (ansV op t, ansV op t != 0)
theorem l0_end (g : Nat) (op t : Int) (l : List Int) (n : Int) (h : isOp op) : arith_Type.l0 (g + 6) op t l n n = some (tyV op t) := by
  rw [arith_Type.l0, if_neg (by omega), alone_eq _ _ h, answer_eq g _ _ h]
  simp only [Option.bind_some, tyV]
  split <;> rfl
theorem j2_end (g : Nat) (op x : Int) (h : isOp op) : haspref03_Type.j2 (g + 2) op x x = some (tyV op x) := by
  rw [haspref03_Type.j2, if_pos rfl, one_eq g _ _ h]
  simp only [Option.bind_some, tyV]
  by_cases x0 : x = 0
  · rw [if_pos x0, if_pos x0]
    rcases h with rfl | rfl | rfl | rfl | rfl | rfl | rfl | rfl | rfl <;> simp [haspref03_Type.j3, alV]
  · rw [if_neg x0, if_neg x0]
def two (op x y : Int) : Int × Bool := if x = 0 then tyV op y else if y = 0 then tyV op x else if x = y then tyV op x else (0, false)
theorem type2 (op x y : Int) (h : isOp op) : arith_Type.l0 18 op 0 [x, y] 2 0 = some (two op x y) := by
  have e : ([x, y].length : Int) = 2 := rfl
  rw [arith_Type.l0, if_pos (by decide), if_pos (by decide), e, if_pos (by decide), if_pos rfl, rd2_0, arith_Type.j2, if_neg (by simp), ww1]
  unfold two
  by_cases hx : x = 0
  · rw [if_pos hx, if_pos hx, arith_Type.l0, if_pos (by decide), if_pos (by decide), e, if_pos (by decide), if_pos rfl, rd2_1, arith_Type.j2, if_neg (by simp), ww2]
    by_cases hy : y = 0
    · rw [if_pos hy, l0_end 8 _ _ _ _ h, hy]
    · rw [if_neg hy, l0_end 8 _ _ _ _ h]
  · rw [if_neg hx, if_neg hx, arith_Type.l0, if_pos (by decide), if_pos (by decide), e, if_pos (by decide), if_neg hx, rd2_1]
    by_cases hy : y = 0
    · rw [if_pos hy, if_pos hy, arith_Type.j2, if_neg (by simp), ww2, if_pos hy, l0_end 8 _ _ _ _ h]
    · rw [if_neg hy, if_neg hy, arith_Type.j2, ww2]
      by_cases hxy : x = y
      · have e2 : (y != x) = false := by simp [hxy]
        rw [e2, if_neg (by simp), if_neg hy, if_pos hxy, l0_end 8 _ _ _ _ h, hxy]
      · have e2 : (y != x) = true := by simp; exact fun h => hxy h.symm
        rw [e2, if_pos rfl, if_neg hxy]
theorem rtype2 (op x y : Int) (h : isOp op) : haspref03_Type.j0 19 op [x, y] false = some (two op x y) := by
  have e : ([x, y].length : Int) = 2 := rfl
  rw [haspref03_Type.j0, if_neg (by simp), e, ww3, if_pos (by decide), if_pos (by decide), if_pos (by decide), rd2_0, rd2_1]
  unfold two
  by_cases hx : x = 0
  · rw [if_pos hx, if_pos hx, haspref03_Type.j1]
    split <;> exact j2_end 15 _ _ h
  · rw [if_neg hx, if_neg hx, haspref03_Type.j1]
    by_cases hy : y = 0
    · rw [if_pos hy, if_pos hy]; exact j2_end 15 _ _ h
    · rw [if_neg hy, if_neg hy]
      by_cases hxy : x = y
      · rw [if_pos hxy, ← hxy]; exact j2_end 15 _ _ h
      · rw [haspref03_Type.j2, if_neg hxy, if_neg hxy]
theorem type1 (op x : Int) (h : isOp op) : arith_Type.l0 18 op 0 [x] 1 0 = some (tyV op x) := by
  have e : ([x].length : Int) = 1 := rfl
  rw [arith_Type.l0, if_pos (by decide), if_pos (by decide), e, if_pos (by decide), if_pos rfl, rd1_0, arith_Type.j2, if_neg (by simp), ww1]
  by_cases hx : x = 0
  · rw [if_pos hx, l0_end 10 _ _ _ _ h, hx]
  · rw [if_neg hx, l0_end 10 _ _ _ _ h]
theorem rtype1 (op x : Int) (h : isOp op) : haspref03_Type.j0 19 op [x] false = some (tyV op x) := by
  have e : ([x].length : Int) = 1 := rfl
  rw [haspref03_Type.j0, if_neg (by simp), e, ww4, if_pos (by decide), if_pos (by decide), if_pos (by decide), rd1_0]
  by_cases hx : x = 0
  · rw [if_pos hx, haspref03_Type.j1, hx, if_pos rfl]; exact j2_end 15 _ _ h
  · rw [if_neg hx, haspref03_Type.j1, if_neg hx]; exact j2_end 15 _ _ h
theorem types_eq (op : Int) (l : List Int) : ∃ v, arith_Type.f 19 op l = some v ∧ haspref03_Type.f 19 op l = some v := by
  unfold arith_Type.f haspref03_Type.f
  rw [opers 18, counts 18]
  simp only [Option.bind_some]
  by_cases h0 : opN op = 0
  · rw [if_pos h0, if_pos h0]; exact ⟨(0, false), by rw [arith_Type.j0, if_pos rfl], by rw [haspref03_Type.j0, if_pos rfl]⟩
  · rw [if_neg h0, if_neg h0]
    by_cases hl : opN op = (l.length : Int)
    · have hb : (opN op != (l.length : Int)) = false := by simp [hl]
      rw [hb]
      have hop : isOp op := by unfold isOp; unfold opN at h0; split at h0 <;> omega
      have hn : opN op = 1 ∨ opN op = 2 := by unfold opN at h0 ⊢; split <;> (try split) <;> simp_all
      match l, hl with
      | [], hl => simp at hl; omega
      | [x], hl => exact ⟨tyV op x, by rw [arith_Type.j0, if_neg (by simp)]; exact type1 op x hop, rtype1 op x hop⟩
      | [x, y], hl => exact ⟨two op x y, by rw [arith_Type.j0, if_neg (by simp)]; exact type2 op x y hop, rtype2 op x y hop⟩
      | _ :: _ :: _ :: _, hl => simp at hl; omega
    · have hb : (opN op != (l.length : Int)) = true := by simp [hl]
      rw [hb]; exact ⟨(0, false), by rw [arith_Type.j0, if_pos rfl], by rw [haspref03_Type.j0, if_pos rfl]⟩
theorem TypesPure (op : Int) (l : List Int) (hl : l.length * 8 ≤ 140737488351232) : ∃ k, hasplaw03_ArithTypes.f k op l = some true := by
  refine ⟨19, ?_⟩
  unfold hasplaw03_ArithTypes.f hasplaw03_speaks.f
  obtain ⟨v, h1, h2⟩ := types_eq op l
  simp only [Option.bind_some, if_true, List.nil_append, List.length_nil, Nat.zero_add]
  rw [if_pos (by omega), h1, h2]
  simp
end Go.Proofs.Ytbdengnadgofmaa
