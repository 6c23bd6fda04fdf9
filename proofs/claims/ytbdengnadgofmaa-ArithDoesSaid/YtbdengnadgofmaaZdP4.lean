import Derived.Test.YtbdengnadgofmaaZdP0
import Derived.Test.YtbdengnadgofmaaZdP2
import Derived.Test.YtbdengnadgofmaaZdVx14
/- What arith.Do answers, for right operands: the plain law of layer 3, fourth part. -/
namespace Go.Proofs.Ytbdengnadgofmaa
open Go.RowKit Go.Proofs.YtbdengnadgofmaaW.PrintWords V Fl
set_option linter.unusedSimpArgs false
set_option linter.unusedVariables false
def mulO (a b : Int) : Bool := a != 0 && (wrap64 (Int.tdiv (wrap64 (a * b)) a) != b || (a == -1 && b == -9223372036854775808))
def whA (op a b : Int) : Int × Int :=
  if op = 7 then (if addO a b then (0, 31) else (wrap64 (a + b), 0))
  else if op = 8 then (if subO a b then (0, 31) else (wrap64 (a - b), 0))
  else if op = 9 then (if mulO a b then (0, 31) else (wrap64 (a * b), 0))
  else if op = 13 then (if a = -9223372036854775808 then (0, 31) else (wrap64 (-a), 0))
  else if b = 0 then (0, 32)
  else if op = 11 then ((if b = -1 then 0 else Int.tmod a b), 0)
  else if a = -9223372036854775808 ∧ b = -1 then (0, 31) else (wrap64 (Int.tdiv a b), 0)
theorem whole_eq (op ka a : Int) (s : ByteArray) (kb b : Int) (t : ByteArray) : arith_pair_whole.f ka a s kb b t op = some (whA op a b) := by
  unfold arith_pair_whole.f whA
  by_cases h7 : op = 7
  · rw [if_pos h7, if_pos h7]
    show (if addO a b = true then _ else _) = _
    cases addO a b <;> rfl
  rw [if_neg h7, if_neg h7]
  by_cases h8 : op = 8
  · rw [if_pos h8, if_pos h8]
    show (if subO a b = true then _ else _) = _
    cases subO a b <;> rfl
  rw [if_neg h8, if_neg h8]
  by_cases h9 : op = 9
  · rw [if_pos h9, if_pos h9]
    unfold mulO
    by_cases a0 : a = 0
    · simp [a0]
    rw [if_neg a0]
    by_cases q : wrap64 (Int.tdiv (wrap64 (a * b)) a) = b
    · rw [if_pos q]
      by_cases a1 : a = -1
      · rw [if_pos a1]
        by_cases bm : b = -9223372036854775808
        · rw [if_pos bm]; simp [a1, bm]
        · rw [if_neg bm]; simp [a0, q, bm]
      · rw [if_neg a1]; simp [a0, q, a1]
    · rw [if_neg q]; simp [a0, q]
  rw [if_neg h9, if_neg h9]
  by_cases h13 : op = 13
  · rw [if_pos h13, if_pos h13]; split <;> rfl
  rw [if_neg h13, if_neg h13]
  by_cases b0 : b = 0
  · rw [if_pos b0, if_pos b0]
  rw [if_neg b0, if_neg b0]
  by_cases h11 : op = 11
  · rw [if_pos h11, if_pos h11]
    unfold arith_rest.f
    by_cases b1 : b = -1
    · rw [if_pos b1, if_pos b1]; rfl
    · rw [if_neg b1, if_neg b1, if_neg b0]; rfl
  rw [if_neg h11, if_neg h11]
  by_cases am : a = -9223372036854775808
  · rw [if_pos am]
    by_cases b1 : b = -1
    · rw [if_pos b1, if_pos ⟨am, b1⟩]
    · rw [if_neg b1, if_neg (fun h => b1 h.2)]
  · rw [if_neg am, if_neg (fun h => am h.1)]
def ptA (op a b : Int) : Int :=
  if op = 7 then arI (floatBits .add .f64 (ub a) (ub b)) else if op = 8 then arI (floatBits .sub .f64 (ub a) (ub b)) else if op = 9 then arI (floatBits .mul .f64 (ub a) (ub b))
  else if op = 10 then arI (floatBits .quo .f64 (ub a) (ub b)) else rnegI a
theorem point_eq (op ka a : Int) (s : ByteArray) (kb b : Int) (t : ByteArray) : arith_pair_point.f ka a s kb b t op = some (ptA op a b) := by
  unfold arith_pair_point.f ptA real_Add.f real_Sub.f real_Mul.f real_Div.f real_Neg.f
  simp only [Option.bind_some]
  repeat' split
  all_goals rfl
def numA (op ka a b : Int) : Int × Int :=
  if op = 14 then (if ka = 3 then (toIv (ub a), toIe (ub a)) else (a, 0))
  else if op = 15 then (if ka = 2 then (ofIntI a, 0) else (a, 0))
  else if ka = 2 then whA op a b else (ptA op a b, 0)
def fin (t : Int) (p : Int × Int) : Int × Int × ByteArray × Int := if p.2 = 0 then (t, p.1, E0, 0) else (0, 0, E0, p.2)
def doR (op : Int) (a b : S25) : Int × Int × ByteArray × Int :=
  if a.f0 = 0 ∨ b.f0 = 0 then (0, 0, E0, 0)
  else if a.f0 ≠ b.f0 ∨ ansV op a.f0 = 0 then (0, 0, E0, 30)
  else if op = 12 then (if ((a.f2 ++ b.f2).size : Int) > 200 then (0, 0, E0, 1) else (4, 0, a.f2 ++ b.f2, 0))
  else fin (ansV op a.f0) (numA op a.f0 a.f1 b.f1)
theorem ans12 (t : Int) (h : ansV 12 t ≠ 0) : ansV 12 t = 4 := by unfold ansV at *; simp at *; omega
theorem do_at (g : Nat) (op : Int) (l : List S25) (a b : S25) (hop : isOp op) (h0 : 0 < l.length) (hn : l.length < 3) (ha : rd_T25 l 0 = a) (hb : rd_T25 l ((l.length : Int) - 1) = b) (hs : a.f2.size + b.f2.size ≤ 9223372036854775807) :
    arith_Do.j0 (g + 10) op l false = some (doR op a b) := by
  have hw : wrap64 ((l.length : Int) - 1) = (l.length : Int) - 1 := by simp only [wrap64]; omega
  rw [arith_Do.j0, if_neg (by simp), if_pos (by omega), hw, if_pos (by omega), if_pos (by omega), ha, hb]
  unfold doR
  by_cases a0 : a.f0 = 0
  · rw [if_pos a0, arith_Do.j1, if_pos rfl, if_pos (Or.inl a0)]
  rw [if_neg a0, arith_Do.j1]
  by_cases b0 : b.f0 = 0
  · rw [if_pos (by simp [b0]), if_pos (Or.inr b0)]
  rw [if_neg (show ¬ (b.f0 == 0) = true by simp [b0]), if_neg (show ¬ (a.f0 = 0 ∨ b.f0 = 0) by simp [a0, b0]), answer_eq (g + 3) _ _ hop, Option.bind_some]
  by_cases ab : a.f0 = b.f0
  · rw [if_pos ab, arith_Do.j2]
    by_cases t0 : ansV op a.f0 = 0
    · rw [if_pos (by simp [t0]), if_pos (Or.inr t0)]
    have h2 : ¬ (a.f0 ≠ b.f0 ∨ ansV op a.f0 = 0) := by rintro (h | h); exact h ab; exact t0 h
    have h1 : ¬ (ansV op a.f0 == 0) = true := by simp [t0]
    rw [if_neg h1, if_neg h2]
    by_cases h12 : op = 12
    · subst h12
      rw [if_pos rfl, if_pos hs, ans12 _ t0]
      by_cases hz : ((a.f2 ++ b.f2).size : Int) > 200
      · rw [if_pos hz, if_pos hz]; rfl
      · rw [if_neg hz, if_neg hz]; rfl
    · rw [if_neg h12, if_neg h12]
      unfold fin numA
      by_cases h14 : op = 14
      · subst h14
        have tt : ansV 14 a.f0 = 2 := by unfold ansV at t0 ⊢; simp at t0 ⊢; omega
        rw [if_pos rfl, if_pos rfl, arith_Do.j3, if_pos rfl, tt]
        unfold arith_turned.f
        rw [if_pos rfl, arith_turned.j0]
        by_cases k3 : a.f0 = 3
        · rw [if_pos (by simp [k3]), if_pos k3]; unfold real_ToInt.f; simp only [Option.bind_some]
          split <;> rfl
        · rw [if_neg (by simp [k3]), if_neg k3, if_neg (by decide)]; simp
      · rw [if_neg h14, if_neg h14]
        by_cases h15 : op = 15
        · subst h15
          have tt : ansV 15 a.f0 = 3 := by unfold ansV at t0 ⊢; simp at t0 ⊢; omega
          rw [if_pos rfl, arith_Do.j3, if_pos (by simp), tt]
          unfold arith_turned.f
          rw [if_neg (by decide), arith_turned.j0, if_neg (by simp), if_pos rfl]
          by_cases k2 : a.f0 = 2
          · rw [if_pos k2, if_pos k2]; unfold real_OfInt.f; simp
          · rw [if_neg k2, if_neg k2]; simp
        · have tt : ansV op a.f0 = a.f0 ∧ (a.f0 = 2 ∨ a.f0 = 3) := by
            unfold ansV at t0 ⊢
            rw [if_neg h14, if_neg h15, if_neg h12] at t0 ⊢
            split at t0
            · split at t0
              · rename_i e1 e2; rw [if_pos e1, if_pos e2]; exact ⟨e2.symm, Or.inl e2⟩
              · exact absurd rfl t0
            · split at t0
              · rename_i e1 e2; rw [if_neg e1, if_pos e2]; exact ⟨rfl, e2⟩
              · exact absurd rfl t0
          rw [if_neg h15, arith_Do.j3, if_neg (by simp [h15]), tt.1]
          by_cases k2 : a.f0 = 2
          · rw [if_pos k2, if_pos k2, whole_eq, Option.bind_some]
            split <;> rfl
          · rw [if_neg k2, if_neg k2, point_eq]; simp
  · rw [if_neg ab, arith_Do.j2, if_pos rfl, if_pos (Or.inl ab)]
end Go.Proofs.Ytbdengnadgofmaa
