/- A row gets through conditions in whatever order they stand: the plain law. -/
import Derived.Test.YtblbdepklmlcoaaDoorP0
import Derived.Test.YtblbdepklmlcoaaDoorVx6
namespace Go.Proofs.YtblbdepklmlcoaaDoor
open Go.RowKit Go.Proofs.YtblbdepklmlcoaaDoorW.PrintWords A
set_option linter.unusedVariables false
set_option linter.unusedSimpArgs false
theorem fold_wo (l : List S24) (e : Int) : l.foldl (fun e x => wo e x.f1) e = wo e (worstV l) := by
  unfold worstV
  induction l generalizing e with
  | nil => rw [List.foldl_nil, List.foldl_nil, wo_zero']
  | cons x l ih => rw [List.foldl_cons, List.foldl_cons, ih, ih (wo 0 x.f1), wo_zero, wo_assoc]
theorem worst_cons (x : S24) (l : List S24) : worstV (x :: l) = wo x.f1 (worstV l) := by
  show (x :: l).foldl (fun e x => wo e x.f1) 0 = _
  rw [List.foldl_cons, fold_wo, wo_zero]
theorem worst_snoc (x : S24) (l : List S24) : worstV (l ++ [x]) = wo (worstV l) x.f1 := by
  show (l ++ [x]).foldl (fun e x => wo e x.f1) 0 = _
  rw [List.foldl_append]; rfl
theorem worst_rev (l : List S24) : worstV l.reverse = worstV l := by
  induction l with
  | nil => rfl
  | cons x l ih => rw [List.reverse_cons, worst_snoc, ih, worst_cons, wo_comm]
theorem sieve_rev (l : List S24) : sieveV l.reverse = sieveV l := by
  unfold sieveV
  rw [worst_rev, List.any_reverse]
theorem order_at (more : S24) : ∀ (m : Nat) (l : List S24) (i g : Nat), l.length - i ≤ m → i ≤ l.length → l.length * 16 ≤ 140737488351232 →
    V.hasplaw04_LogicOrder.l0 (m + g + 2) l ((l.take i).reverse) l (l.length : Int) i more.f0 more.f1 = some true := by
  intro m
  induction m with
  | zero =>
    intro l i g hm hi hl
    have : i = l.length := by omega
    subst this
    rw [List.take_length, show 0 + g + 2 = (g + 1) + 1 by omega, V.hasplaw04_LogicOrder.l0, if_neg (by omega)]
    unfold logic_Sieve.f
    simp only [Option.bind_some, List.nil_append, List.length_nil, Nat.zero_add, List.length_cons, List.length_append, List.length_reverse]
    rw [if_pos (by omega), if_pos (by omega), if_pos (by omega)]
    simp only [Option.bind_some]
    rw [if_pos (by omega), if_pos (by omega)]
    simp only [Option.bind_some, sieve_rev, bne_self_eq_false, Bool.false_eq_true, if_false, if_true]
    have e : ([(⟨more.f0, more.f1⟩ : S24)] ++ l) = more :: l := rfl
    rw [e]
    unfold sieveV
    rw [List.any_cons, worst_cons]
    by_cases hb : l.any bad = true
    · have hb2 : (bad more || l.any bad) = true := by rw [hb]; simp
      simp [hb, V.hasplaw04_LogicOrder.j1]
    · have hb' : l.any bad = false := by simpa using hb
      rw [if_neg hb, hb', Bool.or_false]
      by_cases hm2 : bad more = true
      · rw [if_pos hm2]
        by_cases hw : worstV l = 0 <;> simp [hw, V.hasplaw04_LogicOrder.j1]
      · rw [if_neg hm2]
        by_cases hw : worstV l = 0
        · rw [hw]; by_cases hx : wo more.f1 0 = 0 <;> simp [hx, V.hasplaw04_LogicOrder.j1]
        · have hx : wo more.f1 (worstV l) ≠ 0 := wo_nz _ _ (Or.inr hw)
          simp [hw, hx, V.hasplaw04_LogicOrder.j1]
  | succ m ih =>
    intro l i g hm hi hl
    rw [show m + 1 + g + 2 = (m + g + 2) + 1 by omega, V.hasplaw04_LogicOrder.l0]
    by_cases h : i < l.length
    · rw [if_pos (by omega), if_pos (by omega), if_pos (by omega), rd_at l i h, w64n i (by omega)]
      simp only [Option.bind_some]
      rw [if_pos (by simp; omega)]
      have e : [(⟨l[i].f0, l[i].f1⟩ : S24)] ++ (l.take i).reverse = (l.take (i + 1)).reverse := by rw [List.take_succ_eq_append_getElem h, List.reverse_append]; rfl
      rw [e]
      exact ih l (i + 1) g (by omega) (by omega) hl
    · have hi' : i = l.length := by omega
      have := ih l i (g + 1) (by omega) hi hl
      rw [show m + (g + 1) + 2 = (m + g + 2) + 1 by omega, V.hasplaw04_LogicOrder.l0] at this
      exact this
theorem OrderPure (l : List S24) (hl : l.length * 16 ≤ 140737488351232) (t e : Int) : ∃ k, V.hasplaw04_LogicOrder.f k l t e = some true := by
  refine ⟨l.length + 0 + 2, ?_⟩
  unfold V.hasplaw04_LogicOrder.f
  rw [speaks_eq]
  simp only [Option.bind_some, if_true]
  exact order_at ⟨t, e⟩ l.length l 0 0 (by omega) (by omega) hl
end Go.Proofs.YtblbdepklmlcoaaDoor
