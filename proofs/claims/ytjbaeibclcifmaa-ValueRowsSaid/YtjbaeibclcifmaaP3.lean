/- Rows are copied, compared and met again: the plain law of layer 2, last part. -/
import Derived.Test.YtjbaeibclcifmaaP2
import Derived.Test.YtjbaeibclcifmaaVx7
namespace Go.Proofs.Ytjbaeibclcifmaa
open Go.RowKit Go.Proofs.YtjbaeibclcifmaaW.PrintWords Fl V
set_option linter.unusedSimpArgs false
set_option linter.unusedVariables false

theorem w64n (i : Nat) (h : i < 4398046511105) : wrap64 ((i : Int) + 1) = ((i + 1 : Nat) : Int) := by simp only [wrap64]; omega
theorem rd_at (l : List S24) (i : Nat) (h : i < l.length) : rd_T24 l (i : Int) = l[i] := by simp [rd_T24, List.getD, h]
theorem copy_at : ∀ (m : Nat) (l : List S24) (i g : Nat), l.length - i ≤ m → i ≤ l.length → l.length ≤ 4398046511104 → haspref02_CopyRow.l0 (m + g + 1) l (l.take i) i = some l := by
  intro m
  induction m with
  | zero =>
    intro l i g hm hi hl
    have : i = l.length := by omega
    subst this
    rw [haspref02_CopyRow.l0, if_neg (by omega), List.take_length]
  | succ m ih =>
    intro l i g hm hi hl
    rw [show m + 1 + g + 1 = (m + g + 1) + 1 by omega, haspref02_CopyRow.l0]
    by_cases h : i < l.length
    · rw [if_pos (by omega), if_pos (by omega), if_pos (by rw [List.length_take]; omega), rd_at l i h, w64n i (by omega)]
      have e : l.take i ++ [(⟨l[i].f0, l[i].f1, l[i].f2⟩ : S24)] = l.take (i + 1) := by rw [List.take_succ_eq_append_getElem h]
      rw [e]
      exact ih l (i + 1) g (by omega) (by omega) hl
    · have : i = l.length := by omega
      subst this
      rw [if_neg (by omega), List.take_length]
theorem copy_eq (l : List S24) (k : Nat) (hk : l.length + 1 ≤ k) (hl : l.length ≤ 4398046511104) : haspref02_CopyRow.f k l = some l := by
  have h := copy_at l.length l 0 (k - l.length - 1) (by omega) (by omega) hl
  rw [show l.length + (k - l.length - 1) + 1 = k by omega] at h
  exact h
theorem same_at : ∀ (m : Nat) (l : List S24) (i g : Nat), l.length - i ≤ m → i ≤ l.length → l.length ≤ 4398046511104 → haspref02_SameRow.l0 (m + g + 1) l l i = some true := by
  intro m
  induction m with
  | zero =>
    intro l i g hm hi hl
    rw [haspref02_SameRow.l0, if_neg (by omega)]
  | succ m ih =>
    intro l i g hm hi hl
    rw [show m + 1 + g + 1 = (m + g + 1) + 1 by omega, haspref02_SameRow.l0]
    by_cases h : i < l.length
    · rw [if_pos (by omega), if_pos (by omega), if_pos (by omega), w64n i (by omega)]
      simp only [beq_self_eq_true, Bool.not_true, Bool.or_self, Bool.false_eq_true, if_false]
      exact ih l (i + 1) g (by omega) (by omega) hl
    · rw [if_neg (by omega)]
theorem same_eq (l : List S24) (k : Nat) (hk : l.length + 1 ≤ k) (hl : l.length ≤ 4398046511104) : haspref02_SameRow.f k l l = some true := by
  have h := same_at l.length l 0 (k - l.length - 1) (by omega) (by omega) hl
  rw [show l.length + (k - l.length - 1) + 1 = k by omega] at h
  unfold haspref02_SameRow.f
  rw [if_pos rfl]
  exact h
theorem less_len (a b : Nat) : haspref02_less.f (decide ((a : Int) < b)) (decide ((a : Int) > b)) = some (if a < b then -1 else if b < a then 1 else 0) := by
  unfold haspref02_less.f
  simp only [decide_eq_true_eq, gt_iff_lt, Int.ofNat_lt]
  repeat' split
  all_goals rfl
theorem vrows_end (l m : List S24) (h : l.length ≤ 0 ∨ m.length ≤ 0) : value_Rows.l l m = some (if l.length < m.length then -1 else if m.length < l.length then 1 else 0) := by
  cases l <;> cases m <;> simp [value_Rows.l] at h ⊢
theorem rows_at : ∀ (m : Nat) (l l' : List S24) (i g : Nat), l.length - i ≤ m → i ≤ l.length → i ≤ l'.length → l.length ≤ 4398046511104 →
    haspref02_Rows.l0 (2 * m + g + 2) l l' i = value_Rows.l (l.drop i) (l'.drop i) := by
  intro m
  induction m with
  | zero =>
    intro l l' i g hm hi hi' hl
    have : i = l.length := by omega
    rw [show 2 * 0 + g + 2 = (g + 1) + 1 by omega, haspref02_Rows.l0, if_neg (by omega), haspref02_Rows.j1, if_neg (by simp), less_len, Option.bind_some, vrows_end _ _ (Or.inl (by simp; omega))]
    simp only [List.length_drop]
    congr 1
    repeat' split
    all_goals first | rfl | omega
  | succ m ih =>
    intro l l' i g hm hi hi' hl
    rw [show 2 * (m + 1) + g + 2 = (2 * m + g + 2) + 1 + 1 by omega, haspref02_Rows.l0]
    by_cases h : i < l.length
    · rw [if_pos (by omega), haspref02_Rows.j1]
      by_cases h' : i < l'.length
      · rw [if_pos (by simp; omega), if_pos (by omega), if_pos (by omega), if_pos (by omega), rd_at l i h, rd_at l' i h', w64n i (by omega), List.drop_eq_getElem_cons h, List.drop_eq_getElem_cons h', value_Rows.l, rcompare_eq, vcompare_eq]
        simp only [Option.bind_some]
        split
        · exact ih l l' (i + 1) g (by omega) (by omega) (by omega) hl
        · rfl
      · rw [if_neg (by simp; omega), less_len, Option.bind_some, vrows_end _ _ (Or.inr (by simp; omega))]
        simp only [List.length_drop]
        congr 1
        repeat' split
        all_goals first | rfl | omega
    · rw [if_neg (by omega), haspref02_Rows.j1, if_neg (by simp), less_len, Option.bind_some, vrows_end _ _ (Or.inl (by simp; omega))]
      simp only [List.length_drop]
      congr 1
      repeat' split
      all_goals first | rfl | omega
theorem vrows_some : ∀ l m : List S24, ∃ r, value_Rows.l l m = some r
  | [], [] => ⟨_, rfl⟩
  | [], _ :: _ => ⟨_, rfl⟩
  | _ :: _, [] => ⟨_, rfl⟩
  | x :: xs, y :: ys => by
    rw [value_Rows.l, vcompare_eq]
    simp only [Option.bind_some]
    split
    · exact vrows_some xs ys
    · exact ⟨_, rfl⟩
theorem RowsPure (l : List S24) (hl : l.length * 32 ≤ 140737488351232) (m : List S24) (hm : m.length * 32 ≤ 140737488351232) : ∃ k, hasplaw02_ValueRows.f k l m = some true := by
  refine ⟨2 * l.length + (2 * m.length) + 2, ?_⟩
  unfold hasplaw02_ValueRows.f hasplaw02_speaks.f value_Rows.f haspref02_Rows.f
  have h := rows_at l.length l m 0 (2 * m.length) (by omega) (by omega) (by omega) (by omega)
  simp only [List.drop_zero] at h
  obtain ⟨r, hr⟩ := vrows_some l m
  rw [copy_eq l _ (by omega) (by omega), copy_eq m _ (by omega) (by omega)]
  rw [show ((0 : Nat) : Int) = 0 from rfl] at h
  simp only [Option.bind_some, if_true, h, hr]
  rw [same_eq l _ (by omega) (by omega), same_eq m _ (by omega) (by omega)]
  simp only [Option.bind_some, if_true]
end Go.Proofs.Ytjbaeibclcifmaa
