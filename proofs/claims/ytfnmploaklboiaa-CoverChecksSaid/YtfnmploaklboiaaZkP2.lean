import Derived.Test.YtfnmploaklboiaaZkP1
import Derived.Test.YtfnmploaklboiaaZkVx2
/- Layer 22: the plain law, third part: the document's right is rightB. -/
namespace Go.Proofs.Ytfnmploaklboiaa
open Go.RowKit Go.Proofs.YtfnmploaklboiaaW.PrintWords V A
set_option linter.unusedSimpArgs false
set_option linter.unusedVariables false
def sixB (x : S33) : Bool := if x.f0 = 2 then decide (x.f6 ≥ -1) else true
def oneB (x : S33) : Bool := if x.f0 = 4 then (x.f11.length : Int) == 1 else true
def jumpB (n : Int) (x : S33) : Bool := if x.f0 = 3 then plaB n x else if x.f0 = 4 then plaB n x else if x.f0 = 8 then plaB n x else true
theorem right_j2 (k : Nat) (n : Int) (b : Bool) (x : S33) : haspref22_right.j2 (k + 1) n b x.f0 x.f1 x.f2 x.f3 x.f4 x.f5 x.f6 x.f7 x.f8 x.f9 x.f10 x.f11 x.f12 x.f13 = some (!b && (jumpB n x && (sixB x && oneB x))) := by
  rw [haspref22_right.j2]
  cases b with
  | true => rfl
  | false =>
    unfold jumpB sixB oneB plaB
    by_cases h3 : x.f0 = 3
    · by_cases a : x.f2 < 0
      · simp [h3, a, Int.not_le.2 a]
      · by_cases b : x.f2 ≥ n
        · simp [h3, a, b, Int.not_lt.2 b]
        · simp [h3, a, b, Int.not_lt.1 a, Int.not_le.1 b]
    · by_cases h4 : x.f0 = 4
      · by_cases a : x.f2 < 0
        · simp [h4, a, Int.not_le.2 a]
        · by_cases b : x.f2 ≥ n
          · simp [h4, a, b, Int.not_lt.2 b]
          · simp [h4, a, b, Int.not_lt.1 a, Int.not_le.1 b, bne]
      · by_cases h8 : x.f0 = 8
        · by_cases a : x.f2 < 0
          · simp [h8, a, Int.not_le.2 a]
          · by_cases b : x.f2 ≥ n
            · simp [h8, a, b, Int.not_lt.2 b]
            · simp [h8, a, b, Int.not_lt.1 a, Int.not_le.1 b]
        · by_cases h2 : x.f0 = 2
          · by_cases a : x.f6 < -1
            · simp [h2, a, Int.not_le.2 a]
            · simp [h2, a, Int.not_lt.1 a]
          · simp [h3, h4, h8, h2]
def curN (x : S33) : Bool := if x.f0 = 2 then curB x else if x.f0 = 3 then curB x else if x.f0 = 4 then curB x else true
theorem curB_neg (x : S33) (h : x.f1 < 0) : curB x = false := by unfold curB; simp [Int.not_le.2 h]
theorem curB_big (x : S33) (h : ¬ x.f1 < 0) : decide (x.f1 > 3) = !curB x := by
  unfold curB
  by_cases a : x.f1 > 3
  · rw [decide_eq_true a, decide_eq_false (p := x.f1 < 4) (by omega)]; simp
  · rw [decide_eq_false a, decide_eq_true (p := x.f1 < 4) (by omega), decide_eq_true (p := x.f1 ≥ 0) (by omega)]; rfl
theorem right_j1 (k : Nat) (n : Int) (b : Bool) (x : S33) : haspref22_right.j1 (k + 2) n b x.f0 x.f1 x.f2 x.f3 x.f4 x.f5 x.f6 x.f7 x.f8 x.f9 x.f10 x.f11 x.f12 x.f13 = some (!b && (curN x && (jumpB n x && (sixB x && oneB x)))) := by
  rw [haspref22_right.j1]
  cases b with
  | true => rfl
  | false =>
    rw [if_neg (c := (false = true)) (by decide), right_j2, right_j2, right_j2]
    unfold curN
    by_cases h2 : x.f0 = 2
    · rw [if_pos h2, if_pos h2]
      by_cases a : x.f1 < 0
      · rw [if_pos a, curB_neg x a]; rfl
      · rw [if_neg a, curB_big x a]; simp
    · rw [if_neg h2, if_neg h2]
      by_cases h3 : x.f0 = 3
      · rw [if_pos h3, if_pos h3]
        by_cases a : x.f1 < 0
        · rw [if_pos a, curB_neg x a]; rfl
        · rw [if_neg a, curB_big x a]; simp
      · rw [if_neg h3, if_neg h3]
        by_cases h4 : x.f0 = 4
        · rw [if_pos h4, if_pos h4]
          by_cases a : x.f1 < 0
          · rw [if_pos a, curB_neg x a]; rfl
          · rw [if_neg a, curB_big x a]; simp
        · rw [if_neg h4, if_neg h4]; rfl
def nonB (x : S33) : Bool := if x.f0 = 1 then x.f3 != 0 else true
theorem right_j0 (k : Nat) (n : Int) (b : Bool) (x : S33) : haspref22_right.j0 (k + 3) n b x.f0 x.f1 x.f2 x.f3 x.f4 x.f5 x.f6 x.f7 x.f8 x.f9 x.f10 x.f11 x.f12 x.f13 = some (!b && (nonB x && (curN x && (jumpB n x && (sixB x && oneB x))))) := by
  rw [haspref22_right.j0]
  cases b with
  | true => rfl
  | false =>
    rw [if_neg (c := (false = true)) (by decide), right_j1, right_j1]
    unfold nonB
    by_cases h1 : x.f0 = 1
    · rw [if_pos h1, if_pos h1]; rfl
    · rw [if_neg h1, if_neg h1]; rfl
theorem right_f (k : Nat) (n : Int) (x : S33) : haspref22_right.f (k + 3) x.f0 x.f1 x.f2 x.f3 x.f4 x.f5 x.f6 x.f7 x.f8 x.f9 x.f10 x.f11 x.f12 x.f13 n =
    some ((decide (x.f0 ≥ 1) && decide (x.f0 ≤ 12) && modB x) && (nonB x && (curN x && (jumpB n x && (sixB x && oneB x))))) := by
  unfold haspref22_right.f modB isKnown
  simp only [right_j0]
  by_cases h1 : x.f0 < 1
  · rw [if_pos h1, decide_eq_false (p := x.f0 ≥ 1) (by omega)]; rfl
  by_cases h2 : x.f0 > 12
  · rw [if_neg h1, if_pos h2, decide_eq_false (p := x.f0 ≤ 12) (by omega)]; simp
  by_cases h3 : x.f3 < 0
  · rw [if_neg h1, if_neg h2, if_pos h3, decide_eq_false (p := 0 ≤ x.f3) (by omega)]; simp
  by_cases h4 : x.f3 > 6
  · rw [if_neg h1, if_neg h2, if_neg h3, if_pos h4, decide_eq_false (p := x.f3 ≤ 6) (by omega)]; simp
  by_cases h5 : x.f4 < 0
  · rw [if_neg h1, if_neg h2, if_neg h3, if_neg h4, if_pos h5, decide_eq_false (p := 0 ≤ x.f4) (by omega)]; simp
  rw [if_neg h1, if_neg h2, if_neg h3, if_neg h4, if_neg h5, decide_eq_true (p := x.f0 ≥ 1) (by omega), decide_eq_true (p := x.f0 ≤ 12) (by omega), decide_eq_true (p := 0 ≤ x.f3) (by omega), decide_eq_true (p := x.f3 ≤ 6) (by omega), decide_eq_true (p := 0 ≤ x.f4) (by omega)]
  by_cases h6 : x.f4 > 6
  · rw [decide_eq_true h6, decide_eq_false (p := x.f4 ≤ 6) (by omega)]; rfl
  · rw [decide_eq_false h6, decide_eq_true (p := x.f4 ≤ 6) (by omega)]; simp
theorem right_eq (k : Nat) (n : Int) (x : S33) : haspref22_right.f (k + 3) x.f0 x.f1 x.f2 x.f3 x.f4 x.f5 x.f6 x.f7 x.f8 x.f9 x.f10 x.f11 x.f12 x.f13 n = some (rightB n x) := by
  rw [right_f]
  congr 1
  unfold nonB curN jumpB sixB oneB rightB
  by_cases h1 : x.f0 = 1
  · simp [h1]
  by_cases h2 : x.f0 = 2
  · simp [h2, Bool.and_assoc]
  by_cases h3 : x.f0 = 3
  · simp [h3, Bool.and_assoc]
  by_cases h4 : x.f0 = 4
  · simp [h4, Bool.and_assoc]
  by_cases h8 : x.f0 = 8
  · simp [h8, Bool.and_assoc]
  · simp only [if_neg h1, if_neg h2, if_neg h3, if_neg h4, if_neg h8]
    cases modB x <;> simp
end Go.Proofs.Ytfnmploaklboiaa
