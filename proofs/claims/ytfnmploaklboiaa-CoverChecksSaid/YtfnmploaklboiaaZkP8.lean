import Derived.Test.YtfnmploaklboiaaZkP7
/- Layer 22: the plain law, ninth part: the document's changes as a recursion on the list. -/
namespace Go.Proofs.Ytfnmploaklboiaa
open Go.RowKit Go.Proofs.YtfnmploaklboiaaW.PrintWords V A
set_option linter.unusedSimpArgs false
set_option linter.unusedVariables false
def anyC (f : Int) : Bool := f == 6 || f == 7 || f == 9 || f == 10
/-- The document's changes, from the instruction at i on; g, a, p, e: guards, applies, the last guard's place, emits so far. -/
def goC (t : ByteArray) (l : List S33) : List S33 → Int → Int → Int → Int → Nat → Bool
  | [], g, a, p, e, i => if t.toList = [] then true else g == 1 && (a == 1 && (cov (modeF l t) 2 && tailB t l e))
  | x :: r, g, a, p, e, i =>
    !(t.toList.isEmpty && anyC x.f0) &&
    (if x.f0 = 9 then goC t l r (g + 1) a i e (i + 1)
     else if x.f0 = 10 then (p ≥ 0 && p == (i : Int) - 1) && goC t l r g (a + 1) p e (i + 1)
     else if x.f0 = 6 then !(decide (g > 0)) && goC t l r g a p (e + 1) (i + 1)
     else if x.f0 = 7 then !(decide (g > 0)) && goC t l r g a p e (i + 1)
     else goC t l r g a p e (i + 1))
theorem w64e (a : Int) (i : Nat) (h0 : 0 ≤ a) (h : a ≤ i) (hi : i < 140737488355328) : wrap64 (a + 1) = a + 1 := by simp only [wrap64]; omega
theorem changes_l0 (t : ByteArray) (l : List S33) (hl : l.length < 140737488355328) : ∀ (n i k : Nat) (g a p e : Int), i + n = l.length → 4 * n + l.length + 2 < k → 0 ≤ g → g ≤ i → 0 ≤ a → a ≤ i → 0 ≤ e → e ≤ i →
    haspref22_changes.l0 k g a p e (i : Int) t l = some (goC t l (l.drop i) g a p e i)
  | n, i, 0, g, a, p, e, hi, hk, g0, g1, a0, a1, e0, e1 => by omega
  | 0, i, k + 1, g, a, p, e, hi, hk, g0, g1, a0, a1, e0, e1 => by
    obtain ⟨k, rfl⟩ : ∃ j, k = j + 1 := ⟨k - 1, by omega⟩
    rw [haspref22_changes.l0, if_neg (by omega), List.drop_eq_nil_of_le (by omega), goC]
    by_cases ht : t.toList = []
    · rw [if_pos ht, if_pos ht]
    · rw [if_neg ht, if_neg ht]
      rw [changes_j4 t l hl k (by omega)]
      by_cases hg : g = 1
      · by_cases ha : a = 1
        · rw [if_pos hg, if_pos ha, refMode_eq t t l hl _ (by omega), Option.bind_some, refCov_eq, Option.bind_some, changes_j4 t l hl k (by omega), hg, ha]
          simp
        · rw [if_pos hg, if_neg ha]; simp [ha]
      · rw [if_neg hg]; simp [hg]
  | n + 1, i, k + 1, g, a, p, e, hi, hk, g0, g1, a0, a1, e0, e1 => by
    obtain ⟨k, rfl⟩ : ∃ j, k = j + 3 := ⟨k - 3, by omega⟩
    have h : i < l.length := by omega
    have ih := fun g a p e => changes_l0 t l hl n (i + 1) k g a p e (by omega) (by omega)
    have wg := w64e g i g0 g1 (by omega)
    have wa := w64e a i a0 a1 (by omega)
    have we := w64e e i e0 e1 (by omega)
    have wi : wrap64 ((i : Int) - 1) = (i : Int) - 1 := by simp only [wrap64]; omega
    have e3 : ∀ g a p e : Int, 0 ≤ g → g ≤ i + 1 → 0 ≤ a → a ≤ i + 1 → 0 ≤ e → e ≤ i → haspref22_changes.j3 (k + 1) g a p e (i : Int) l[i].f0 t l = some (if l[i].f0 = 6 then !(decide (g > 0)) && goC t l (l.drop (i + 1)) g a p (e + 1) (i + 1) else if l[i].f0 = 7 then !(decide (g > 0)) && goC t l (l.drop (i + 1)) g a p e (i + 1) else goC t l (l.drop (i + 1)) g a p e (i + 1)) := by
      intro g a p e g0 g1 a0 a1 e0 e1
      rw [haspref22_changes.j3, w64e e i e0 e1 (by omega), w64n i (by omega), ih g a p (e + 1) g0 (by omega) a0 (by omega) (by omega) (by omega), ih g a p e g0 (by omega) a0 (by omega) e0 (by omega)]
      by_cases h6 : l[i].f0 = 6
      · rw [if_pos h6, if_pos h6]; by_cases hg : g > 0 <;> simp [hg]
      · rw [if_neg h6, if_neg h6]
        by_cases h7 : l[i].f0 = 7
        · rw [if_pos h7, if_pos h7]; by_cases hg : g > 0 <;> simp [hg]
        · rw [if_neg h7, if_neg h7]
    have ej : ∀ b : Bool, haspref22_changes.j1 (k + 3) g a p e (i : Int) l[i].f0 b t l = some (!b && (if l[i].f0 = 9 then goC t l (l.drop (i + 1)) (g + 1) a i e (i + 1)
     else if l[i].f0 = 10 then (p ≥ 0 && p == (i : Int) - 1) && goC t l (l.drop (i + 1)) g (a + 1) p e (i + 1)
     else if l[i].f0 = 6 then !(decide (g > 0)) && goC t l (l.drop (i + 1)) g a p (e + 1) (i + 1)
     else if l[i].f0 = 7 then !(decide (g > 0)) && goC t l (l.drop (i + 1)) g a p e (i + 1)
     else goC t l (l.drop (i + 1)) g a p e (i + 1))) := by
      intro b
      rw [haspref22_changes.j1]
      cases b with
      | true => rfl
      | false =>
        rw [if_neg (c := (false = true)) (by decide), Bool.not_false, Bool.true_and]
        by_cases h9 : l[i].f0 = 9
        · rw [if_pos h9, if_pos h9, haspref22_changes.j2, if_neg (by omega), wg, e3 (g + 1) a i e (by omega) (by omega) a0 (by omega) e0 e1, if_neg (c := (l[i].f0 = 6)) (by omega), if_neg (c := (l[i].f0 = 7)) (by omega)]
        · rw [if_neg h9, if_neg h9, haspref22_changes.j2]
          by_cases h10 : l[i].f0 = 10
          · rw [if_pos h10, if_pos h10, wi, wa, e3 g (a + 1) p e g0 (by omega) (by omega) (by omega) e0 e1, if_neg (c := (l[i].f0 = 6)) (by omega), if_neg (c := (l[i].f0 = 7)) (by omega)]
            by_cases hp : p < 0
            · rw [if_pos hp, decide_eq_false (p := p ≥ 0) (by omega)]; rfl
            · rw [if_neg hp, decide_eq_true (p := p ≥ 0) (by omega)]
              by_cases hq : p = (i : Int) - 1
              · rw [if_pos hq, beq_iff_eq.2 hq]; rfl
              · rw [if_neg hq, beq_eq_false_iff_ne.2 hq]; rfl
          · rw [if_neg h10, if_neg h10, e3 g a p e g0 (by omega) a0 (by omega) e0 e1]
    rw [haspref22_changes.l0, if_pos (by omega), if_pos (by omega), rd33_at l i h, ej, ej, ej, List.drop_eq_getElem_cons h, goC]
    unfold anyC
    by_cases ht : t.toList = []
    · rw [if_pos ht, ht]
      by_cases h6 : l[i].f0 = 6
      · rw [if_pos h6, h6]; rfl
      · rw [if_neg h6]
        by_cases h7 : l[i].f0 = 7
        · rw [if_pos h7, h7]; rfl
        · rw [if_neg h7]
          by_cases h9 : l[i].f0 = 9
          · rw [if_pos h9, h9]; rfl
          · rw [if_neg h9, beq_eq_false_iff_ne.2 h6, beq_eq_false_iff_ne.2 h7, beq_eq_false_iff_ne.2 h9]; rfl
    · rw [if_neg ht, show t.toList.isEmpty = false by cases hh : t.toList with
        | nil => exact absurd hh ht
        | cons _ _ => rfl]
      rfl
end Go.Proofs.Ytfnmploaklboiaa
