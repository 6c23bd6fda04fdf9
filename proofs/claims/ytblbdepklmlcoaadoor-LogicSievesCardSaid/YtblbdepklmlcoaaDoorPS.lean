/- Whether a list of verdicts lets a row through: the plain law. -/
import Derived.Test.YtblbdepklmlcoaaDoorP0
import Derived.Test.YtblbdepklmlcoaaDoorVx4
namespace Go.Proofs.YtblbdepklmlcoaaDoor
open Go.RowKit Go.Proofs.YtblbdepklmlcoaaDoorW.PrintWords A
set_option linter.unusedVariables false
set_option linter.unusedSimpArgs false
theorem vmark_eq (a ae : Int) : V.haspref04_Mark.f a ae = some (mkV a ae) := by
  unfold V.haspref04_Mark.f mkV
  split
  · split
    · rename_i h; rw [h]
    · split
      · rename_i h; rw [h]
      · rfl
  · rfl
theorem vworse_eq (a b : Int) : V.haspref04_Worse.f a b = some (wo a b) := by
  unfold V.haspref04_Worse.f wo mn
  repeat' split
  all_goals rfl
theorem mk_bad (x : S24) : bad x = true ↔ mkV x.f0 x.f1 = 0 ∨ mkV x.f0 x.f1 = 2 := by
  unfold bad badV mkV
  by_cases h : x.f1 = 0 <;> by_cases k : x.f0 = 0 <;> by_cases l : x.f0 = 1 <;> simp_all
theorem rsieve1 : ∀ (m : Nat) (l : List S24) (i g : Nat) (e : Int), l.length - i ≤ m → i ≤ l.length → l.length < 9223372036854775807 →
    V.haspref04_Sieve.l1 (m + g + 1) l e i = some (((l.drop i).foldl (fun e x => wo e x.f1) e == 0), (l.drop i).foldl (fun e x => wo e x.f1) e) := by
  intro m
  induction m with
  | zero =>
    intro l i g e hm hi hl
    have : i = l.length := by omega
    subst this
    rw [V.haspref04_Sieve.l1, if_neg (by omega)]; simp
  | succ m ih =>
    intro l i g e hm hi hl
    rw [show m + 1 + g + 1 = (m + g + 1) + 1 by omega, V.haspref04_Sieve.l1]
    by_cases h : i < l.length
    · rw [if_pos (by omega), if_pos (by omega), rd_at l i h, w64n i (by omega), List.drop_eq_getElem_cons h, List.foldl_cons, vworse_eq, Option.bind_some]
      exact ih l (i + 1) g _ (by omega) (by omega) hl
    · have : i = l.length := by omega
      subst this
      rw [if_neg (by omega)]; simp
theorem rsieve0 : ∀ (m : Nat) (l : List S24) (i g : Nat), l.length - i ≤ m → i ≤ l.length → l.length < 9223372036854775807 →
    V.haspref04_Sieve.l0 (m + g + l.length + 2) l 0 i = some (if (l.drop i).any bad = true then (false, 0) else (worstV l == 0, worstV l)) := by
  intro m
  induction m with
  | zero =>
    intro l i g hm hi hl
    have : i = l.length := by omega
    subst this
    rw [show 0 + g + l.length + 2 = (l.length + g + 1) + 1 by omega, V.haspref04_Sieve.l0, if_neg (by omega)]
    have := rsieve1 l.length l 0 g 0 (by omega) (by omega) hl
    rw [show ((0 : Nat) : Int) = 0 from rfl] at this
    rw [this, List.drop_length, List.any_nil, if_neg (by decide), List.drop_zero]; rfl
  | succ m ih =>
    intro l i g hm hi hl
    rw [show m + 1 + g + l.length + 2 = (m + g + l.length + 2) + 1 by omega, V.haspref04_Sieve.l0]
    by_cases h : i < l.length
    · rw [if_pos (by omega), if_pos (by omega), rd_at l i h, w64n i (by omega), List.drop_eq_getElem_cons h, List.any_cons, vmark_eq, Option.bind_some]
      by_cases h0 : mkV l[i].f0 l[i].f1 = 0
      · rw [if_pos h0, (mk_bad _).2 (Or.inl h0)]; simp
      · rw [if_neg h0]
        by_cases h2 : mkV l[i].f0 l[i].f1 = 2
        · rw [if_pos h2, (mk_bad _).2 (Or.inr h2)]; simp
        · rw [if_neg h2]
          have hb : bad l[i] = false := by
            cases e : bad l[i]
            · rfl
            · rcases (mk_bad _).1 e with e | e
              · exact absurd e h0
              · exact absurd e h2
          rw [hb, Bool.false_or]
          exact ih l (i + 1) g (by omega) (by omega) hl
    · have hi' : i = l.length := by omega
      have := ih l i (g + 1) (by omega) hi hl
      rw [show m + (g + 1) + l.length + 2 = (m + g + l.length + 2) + 1 by omega, V.haspref04_Sieve.l0] at this
      exact this
theorem sieve_same (l : List S24) : sieveV l = if (l.drop 0).any bad = true then (false, 0) else (worstV l == 0, worstV l) := by
  unfold sieveV
  rw [List.drop_zero]
theorem rsieve (l : List S24) (k : Nat) (hk : l.length + l.length + 2 ≤ k) (hl : l.length < 9223372036854775807) : V.haspref04_Sieve.f k l = some (sieveV l) := by
  have := rsieve0 l.length l 0 (k - (l.length + l.length + 2)) (by omega) (by omega) hl
  rw [show l.length + (k - (l.length + l.length + 2)) + l.length + 2 = k by omega] at this
  unfold V.haspref04_Sieve.f
  rw [sieve_same]
  exact this
theorem kept_at : ∀ (m : Nat) (l : List S24) (i g : Nat), l.length - i ≤ m → i ≤ l.length → l.length < 9223372036854775807 →
    V.hasplaw04_LogicSieves.l0 (m + g + 1) l l (l.length : Int) i = some true := by
  intro m
  induction m with
  | zero =>
    intro l i g hm hi hl
    rw [V.hasplaw04_LogicSieves.l0, if_neg (by omega)]
  | succ m ih =>
    intro l i g hm hi hl
    rw [show m + 1 + g + 1 = (m + g + 1) + 1 by omega, V.hasplaw04_LogicSieves.l0]
    by_cases h : i < l.length
    · rw [if_pos (by omega), if_pos (by omega), if_pos (by omega), if_pos (by omega), w64n i (by omega)]
      simp only [beq_self_eq_true, Bool.not_true, Bool.or_self, Bool.false_eq_true, if_false]
      exact ih l (i + 1) g (by omega) (by omega) hl
    · rw [if_neg (by omega)]
theorem SievesPure (l : List S24) (hl : l.length * 16 ≤ 140737488351232) : ∃ k, V.hasplaw04_LogicSieves.f k l = some true := by
  refine ⟨l.length + l.length + 3, ?_⟩
  unfold V.hasplaw04_LogicSieves.f
  rw [speaks_eq]
  unfold logic_Sieve.f
  simp only [Option.bind_some, if_true, List.nil_append, List.length_nil, Nat.zero_add]
  rw [if_pos (by omega), if_pos (by omega), rsieve l _ (by omega) (by omega)]
  simp only [Option.bind_some, bne_self_eq_false, Bool.false_eq_true, if_false]
  rw [show l.length + l.length + 3 = (l.length + l.length + 2) + 1 by omega, V.hasplaw04_LogicSieves.j0, if_neg (by simp)]
  have := kept_at l.length l 0 (l.length + 1) (by omega) (by omega) (by omega)
  rw [show l.length + (l.length + 1) + 1 = l.length + l.length + 2 by omega] at this
  exact this
end Go.Proofs.YtblbdepklmlcoaaDoor
