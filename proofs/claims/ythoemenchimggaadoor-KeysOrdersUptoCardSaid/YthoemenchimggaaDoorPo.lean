/- Layer 5: the order of bytes, the document's Order and Begins. -/
import Derived.Test.YthoemenchimggaaDoorPn
import Derived.Test.YthoemenchimggaaDoorVx11
namespace Go.Proofs.YthoemenchimggaaDoor
open Go.RowKit Go.Proofs.YthoemenchimggaaDoorW.PrintWords Fl V A
set_option linter.unusedSimpArgs false
set_option linter.unusedVariables false
theorem rdi_at (l : List Int) (i : Nat) (h : i < l.length) : rd l (i : Int) = l[i] := by simp [rd, List.getD, h]
/-- The order of bytes. -/
def ordL : List Int → List Int → Int
  | [], [] => 0
  | [], _ :: _ => -1
  | _ :: _, [] => 1
  | x :: a, y :: b => if x < y then -1 else if y < x then 1 else ordL a b
theorem order_at : ∀ (m : Nat) (a b : List Int) (i g : Nat), a.length - i ≤ m → i ≤ a.length → i ≤ b.length → a.length ≤ 4398046511104 → b.length ≤ 4398046511104 →
    haspref05_Order.l0 (2 * m + g + 2) a b i = some (ordL (a.drop i) (b.drop i)) := by
  intro m
  induction m with
  | zero =>
    intro a b i g hm hi hj ha hb
    have : i = a.length := by omega
    subst this
    rw [show 2 * 0 + g + 2 = g + 1 + 1 by omega, haspref05_Order.l0, if_neg (by omega), haspref05_Order.j1, if_neg (by decide), List.drop_length]
    by_cases h : a.length < b.length
    · rw [if_pos (by omega), List.drop_eq_getElem_cons h, ordL]
    · rw [if_neg (by omega), if_neg (by omega), List.drop_of_length_le (by omega), ordL]
  | succ m ih =>
    intro a b i g hm hi hj ha hb
    rw [show 2 * (m + 1) + g + 2 = (2 * m + g + 2) + 1 + 1 by omega, haspref05_Order.l0]
    by_cases h : i < a.length
    · rw [if_pos (by omega), haspref05_Order.j1, List.drop_eq_getElem_cons h]
      by_cases h2 : i < b.length
      · rw [if_pos (by simpa using h2), if_pos (by omega), if_pos (by omega), if_pos (by omega), rdi_at a i h, rdi_at b i h2, List.drop_eq_getElem_cons h2, ordL]
        by_cases h3 : a[i] < b[i]
        · rw [if_pos h3, if_pos h3]
        · rw [if_neg h3, if_neg h3]
          by_cases h4 : b[i] < a[i]
          · rw [if_pos h4, if_pos h4]
          · rw [if_neg h4, if_neg h4, w64n i (by omega), ih a b (i + 1) g (by omega) (by omega) (by omega) ha hb]
      · rw [if_neg (by simpa using h2), if_neg (by omega), if_pos (by omega), List.drop_of_length_le (i := i) (l := b) (by omega), ordL]
    · have : i = a.length := by omega
      subst this
      rw [if_neg (by omega), haspref05_Order.j1, if_neg (by decide), List.drop_length]
      by_cases h : a.length < b.length
      · rw [if_pos (by omega), List.drop_eq_getElem_cons h, ordL]
      · rw [if_neg (by omega), if_neg (by omega), List.drop_of_length_le (by omega), ordL]
theorem order_eq (a b : List Int) (k : Nat) (hk : 2 * a.length + 2 ≤ k) (ha : a.length ≤ 4398046511104) (hb : b.length ≤ 4398046511104) : haspref05_Order.f k a b = some (ordL a b) := by
  have h := order_at a.length a b 0 (k - 2 * a.length - 2) (by omega) (by omega) (by omega) ha hb
  rw [show 2 * a.length + (k - 2 * a.length - 2) + 2 = k by omega, List.drop_zero, List.drop_zero] at h
  exact h
theorem begins_at : ∀ (m : Nat) (a b : List Int) (i g : Nat), b.length - i ≤ m → i ≤ b.length → b.length ≤ a.length → a.length ≤ 4398046511104 →
    haspref05_Begins.l0 (m + g + 1) a b i = some (decide ((b.drop i) <+: (a.drop i))) := by
  intro m
  induction m with
  | zero =>
    intro a b i g hm hi hj ha
    have : i = b.length := by omega
    subst this
    rw [haspref05_Begins.l0, if_neg (by omega), List.drop_length]
    simp
  | succ m ih =>
    intro a b i g hm hi hj ha
    rw [show m + 1 + g + 1 = (m + g + 1) + 1 by omega, haspref05_Begins.l0]
    by_cases h : i < b.length
    · have h2 : i < a.length := by omega
      rw [if_pos (by omega), if_pos (by omega), if_pos (by omega), rdi_at a i h2, rdi_at b i h, List.drop_eq_getElem_cons h, List.drop_eq_getElem_cons h2]
      by_cases h3 : a[i] = b[i]
      · rw [if_pos h3, w64n i (by omega), ih a b (i + 1) g (by omega) (by omega) hj ha]
        simp only [List.cons_prefix_cons, h3, true_and]
      · rw [if_neg h3]
        have : ¬ b[i] = a[i] := fun h => h3 h.symm
        simp only [List.cons_prefix_cons, this, false_and, decide_false]
    · have : i = b.length := by omega
      subst this
      rw [if_neg (by omega), List.drop_length]
      simp
theorem begins_eq (a b : List Int) (k : Nat) (hk : b.length + 1 ≤ k) (ha : a.length ≤ 4398046511104) : haspref05_Begins.f k a b = some (decide (b <+: a)) := by
  unfold haspref05_Begins.f
  by_cases h : a.length < b.length
  · rw [if_pos (by omega)]
    have : ¬ b <+: a := fun hp => by have := hp.length_le; omega
    simp [this]
  · rw [if_neg (by omega)]
    have h := begins_at b.length a b 0 (k - b.length - 1) (by omega) (by omega) (by omega) ha
    rw [show b.length + (k - b.length - 1) + 1 = k by omega, List.drop_zero, List.drop_zero] at h
    exact h
theorem ordL_pre : ∀ (p a b : List Int), ordL (p ++ a) (p ++ b) = ordL a b
  | [], a, b => rfl
  | x :: p, a, b => by rw [List.cons_append, List.cons_append, ordL, if_neg (by omega), if_neg (by omega), ordL_pre p a b]
/-- The first difference of two lists is a lesser number in the first one. -/
def Lt1 (a b : List Int) : Prop := ∃ p x y s t, a = p ++ x :: s ∧ b = p ++ y :: t ∧ x < y
theorem Lt1.app {a b : List Int} (h : Lt1 a b) (c d : List Int) : Lt1 (a ++ c) (b ++ d) := by
  obtain ⟨p, x, y, s, t, rfl, rfl, hl⟩ := h
  exact ⟨p, x, y, s ++ c, t ++ d, by simp, by simp, hl⟩
theorem Lt1.pre {a b : List Int} (h : Lt1 a b) (q : List Int) : Lt1 (q ++ a) (q ++ b) := by
  obtain ⟨p, x, y, s, t, rfl, rfl, hl⟩ := h
  exact ⟨q ++ p, x, y, s, t, by simp, by simp, hl⟩
theorem Lt1.cons {a b : List Int} (h : Lt1 a b) (q : Int) : Lt1 (q :: a) (q :: b) := h.pre [q]
theorem Lt1.head {x y : Int} (h : x < y) (s t : List Int) : Lt1 (x :: s) (y :: t) := ⟨[], x, y, s, t, rfl, rfl, h⟩
theorem Lt1.lt {a b : List Int} (h : Lt1 a b) : ordL a b = -1 := by
  obtain ⟨p, x, y, s, t, rfl, rfl, hl⟩ := h
  rw [ordL_pre, ordL, if_pos hl]
theorem Lt1.gt {a b : List Int} (h : Lt1 a b) : ordL b a = 1 := by
  obtain ⟨p, x, y, s, t, rfl, rfl, hl⟩ := h
  rw [ordL_pre, ordL, if_neg (by omega), if_pos hl]
theorem be_lt : ∀ (n : Nat) (u v : Int), 0 ≤ u → u < v → v < 256 ^ n → Lt1 (be n u) (be n v)
  | 0, u, v, h0, h1, h2 => by
    rw [Int.pow_zero] at h2
    omega
  | n + 1, u, v, h0, h1, h2 => by
    rw [Int.pow_succ] at h2
    rw [be, be]
    by_cases h : u / 256 < v / 256
    · exact (be_lt n (u / 256) (v / 256) (by omega) h (Int.ediv_lt_of_lt_mul (by decide) h2)).app _ _
    · have e : u / 256 = v / 256 := by omega
      rw [e]
      exact (Lt1.head (by omega) [] []).pre _
theorem eight_lt (u v : Int) (h0 : 0 ≤ u) (h : u < v) (hv : v < 18446744073709551616) : Lt1 (eightB u) (eightB v) := by
  rw [eightB_be, eightB_be]
  exact be_lt 8 u v h0 h (by rw [show (256 : Int) ^ 8 = 18446744073709551616 by decide]; exact hv)
end Go.Proofs.YthoemenchimggaaDoor
