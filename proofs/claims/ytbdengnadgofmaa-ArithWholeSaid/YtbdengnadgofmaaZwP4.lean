/- What arith.Do answers, for right operands: the plain law of layer 3, fourth part. -/
import Derived.Test.YtbdengnadgofmaaZwP0
import Derived.Test.YtbdengnadgofmaaZwP2
import Derived.Test.YtbdengnadgofmaaZwVx14
namespace Go.Proofs.Ytbdengnadgofmaa
open Go.RowKit Go.Proofs.YtbdengnadgofmaaW.PrintWords V Fl
set_option linter.unusedSimpArgs false
set_option linter.unusedVariables false
def mulO (a b : Int) : Bool := a != 0 && (wrap64 (Int.tdiv (wrap64 (a * b)) a) != b || (a == -1 && b == -9223372036854775808))
def whA (op a b : Int) : Int × Int :=
  if op = 7 then (if addO a b then (0, 31) else (wrap64 (a + b), 0))
  else if op = 8 then (if subO a b then (0, 31) else (wrap64 (a - b), 0))
  else if op = 9 then (if mulO a b then (0, 31) else (wrap64 (a * b), 0))
  else if op = 13 then (if a = -9223372036854775808 then (0, 31) else (wrap64 (-a), 0))
  else if b = 0 then (0, 32)
  else if op = 11 then ((if b = -1 then 0 else Int.tmod a b), 0)
  else if a = -9223372036854775808 ∧ b = -1 then (0, 31) else (wrap64 (Int.tdiv a b), 0)
theorem whole_eq (op ka a : Int) (s : ByteArray) (kb b : Int) (t : ByteArray) : arith_pair_whole.f ka a s kb b t op = some (whA op a b) := by
  unfold arith_pair_whole.f whA
  by_cases h7 : op = 7
  · rw [if_pos h7, if_pos h7]
    show (if addO a b = true then _ else _) = _
    cases addO a b <;> rfl
  rw [if_neg h7, if_neg h7]
  by_cases h8 : op = 8
  · rw [if_pos h8, if_pos h8]
    show (if subO a b = true then _ else _) = _
    cases subO a b <;> rfl
  rw [if_neg h8, if_neg h8]
  by_cases h9 : op = 9
  · rw [if_pos h9, if_pos h9]
    unfold mulO
    by_cases a0 : a = 0
    · simp [a0]
    rw [if_neg a0]
    by_cases q : wrap64 (Int.tdiv (wrap64 (a * b)) a) = b
    · rw [if_pos q]
      by_cases a1 : a = -1
      · rw [if_pos a1]
        by_cases bm : b = -9223372036854775808
        · rw [if_pos bm]; simp [a1, bm]
        · rw [if_neg bm]; simp [a0, q, bm]
      · rw [if_neg a1]; simp [a0, q, a1]
    · rw [if_neg q]; simp [a0, q]
  rw [if_neg h9, if_neg h9]
  by_cases h13 : op = 13
  · rw [if_pos h13, if_pos h13]; split <;> rfl
  rw [if_neg h13, if_neg h13]
  by_cases b0 : b = 0
  · rw [if_pos b0, if_pos b0]
  rw [if_neg b0, if_neg b0]
  by_cases h11 : op = 11
  · rw [if_pos h11, if_pos h11]
    unfold arith_rest.f
    by_cases b1 : b = -1
    · rw [if_pos b1, if_pos b1]; rfl
    · rw [if_neg b1, if_neg b1, if_neg b0]; rfl
  rw [if_neg h11, if_neg h11]
  by_cases am : a = -9223372036854775808
  · rw [if_pos am]
    by_cases b1 : b = -1
    · rw [if_pos b1, if_pos ⟨am, b1⟩]
    · rw [if_neg b1, if_neg (fun h => b1 h.2)]
  · rw [if_neg am, if_neg (fun h => am h.1)]
def fin (t : Int) (p : Int × Int) : Int × Int × ByteArray × Int := if p.2 = 0 then (t, p.1, E0, 0) else (0, 0, E0, p.2)
end Go.Proofs.Ytbdengnadgofmaa
