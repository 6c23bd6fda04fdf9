import Derived.Test.YtnjobnkkpfaigaaZaP0
import Derived.Test.YtnjobnkkpfaigaaZaVx11
/- Layer 6: a row of Nulls. -/
namespace Go.Proofs.Ytnjobnkkpfaigaa
open Go.RowKit Go.Proofs.YtnjobnkkpfaigaaW.PrintWords Fl V A
set_option linter.unusedSimpArgs false
set_option linter.unusedVariables false
theorem rdn_at (n i : Nat) (h : i < n) : rd_T43 (List.replicate n z43) (i : Int) = z43 := by rw [rdv_at _ _ (by simpa using h)]; simp
theorem nfit_at : ∀ (m : Nat) (l : List S47) (i g : Nat), l.length - i ≤ m → i ≤ l.length → l.length ≤ 4398046511104 →
    rows_Fit.l0 (2 * m + g + 6) l (List.replicate l.length z43) l.length i = some (if (l.drop i).any (·.f2) = true then 60 else 0) := by
  intro m
  induction m with
  | zero =>
    intro l i g hm hi hl
    have : i = l.length := by omega
    subst this
    rw [show 2 * 0 + g + 6 = (g + 5) + 1 by omega, rows_Fit.l0, if_neg (by omega), List.drop_length]
    simp
  | succ m ih =>
    intro l i g hm hi hl
    rw [show 2 * (m + 1) + g + 6 = (2 * m + g + 6 + 1) + 1 by omega, rows_Fit.l0]
    by_cases h : i < l.length
    · rw [if_pos (by omega), if_pos (by omega), if_pos (by simpa using h), rdn_at _ _ h, rdc_at l i h]
      simp only [z43]
      rw [show 2 * m + g + 6 + 1 = (2 * m + g + 3) + 4 by omega, null_check, Option.bind_some, if_pos rfl, if_pos trivial, if_pos (by omega)]
      rw [show 2 * m + g + 3 + 4 = (2 * m + g + 6) + 1 by omega, rows_Fit.j1, List.drop_eq_getElem_cons h]
      cases hf : l[i].f2
      · rw [if_neg (by decide), if_pos rfl, w64n i (by omega)]
        have := ih l (i + 1) g (by omega) (by omega) hl
        simp only [z43] at this
        rw [this, List.any_cons, hf, Bool.false_or]
      · rw [if_pos rfl, List.any_cons, hf, Bool.true_or, if_pos rfl]
    · have : i = l.length := by omega
      subst this
      rw [if_neg (by omega), List.drop_length]
      simp
theorem nfit_eq (l : List S47) (k : Nat) (hk : 2 * l.length + 6 ≤ k) (hl : l.length ≤ 4398046511104) : rows_Fit.f k l (List.replicate l.length z43) = some (if l.any (·.f2) = true then 60 else 0) := by
  have h := nfit_at l.length l 0 (k - 2 * l.length - 6) (by omega) (by omega) hl
  rw [show 2 * l.length + (k - 2 * l.length - 6) + 6 = k by omega] at h
  unfold rows_Fit.f
  rw [if_pos (by simp), List.length_replicate]
  exact h
theorem nenc_at : ∀ (m n i g : Nat) (x : List Int), n - i ≤ m → i ≤ n → n ≤ 4398046511104 → x.length = (n + 7) / 8 →
    ∃ y, rows_Encode.l0 (m + g + 1) x (List.replicate n z43) n i = some (y, 0) ∧ y.length = (n + 7) / 8 := by
  intro m
  induction m with
  | zero =>
    intro n i g x hm hi hl hx
    have : i = n := by omega
    subst this
    exact ⟨x, by rw [show 0 + g + 1 = g + 1 by omega, rows_Encode.l0, if_neg (by omega)], hx⟩
  | succ m ih =>
    intro n i g x hm hi hl hx
    rw [show m + 1 + g + 1 = (m + g + 1) + 1 by omega, rows_Encode.l0]
    by_cases h : i < n
    · rw [if_pos (by omega), if_pos (by omega), if_pos (by simpa using h), rdn_at _ _ h]
      simp only [z43]
      rw [if_pos trivial, d8_eq i (by omega), if_pos (by omega), if_pos (by omega), if_pos (by rw [Int.tmod_eq_emod_of_nonneg (by omega)]; omega), w64n i (by omega)]
      exact ih n (i + 1) g _ (by omega) (by omega) hl (by rw [List.length_set]; exact hx)
    · have : i = n := by omega
      subst this
      exact ⟨x, by rw [if_neg (by omega)], hx⟩
theorem nulls_at : ∀ (m : Nat) (l : List S47) (i g : Nat) (free : Bool), l.length - i ≤ m → i ≤ l.length → l.length ≤ 4398046511104 → free = !((l.take i).any (·.f2)) →
    hasplaw06_RowsNulls.l0 (m + g + 2 * l.length + 61) l (List.replicate l.length z43) free l l.length i = some true := by
  intro m
  induction m with
  | zero =>
    intro l i g free hm hi hl hf
    have : i = l.length := by omega
    subst this
    rw [List.take_length] at hf
    rw [show 0 + g + 2 * l.length + 61 = (g + 2 * l.length + 60) + 1 by omega, hasplaw06_RowsNulls.l0, if_neg (by omega), cols_eq l _ (by omega) hl, Option.bind_some]
    unfold rows_Encode.f
    rw [nfit_eq l _ (by omega) hl, Option.bind_some]
    cases ha : l.any (·.f2)
    · rw [ha] at hf
      subst hf
      obtain ⟨y, hy, hyl⟩ := nenc_at l.length l.length 0 (g + l.length + 59) (List.replicate ((l.length + 7) / 8) 0) (by omega) (by omega) hl (by simp)
      rw [show l.length + (g + l.length + 59) + 1 = g + 2 * l.length + 60 by omega] at hy
      simp only [Bool.false_eq_true, if_false, if_true, Bool.not_false, V.rows_bitmap.f, Option.bind_some, List.length_replicate, bm_eq l.length hl, Int.toNat_natCast]
      rw [if_pos (by omega), if_pos (by omega)]
      rw [show ((0 : Nat) : Int) = 0 from rfl] at hy
      rw [hy, Option.bind_some, if_pos rfl, hyl]
      simp
    · rw [ha] at hf
      subst hf
      simp
  | succ m ih =>
    intro l i g free hm hi hl hf
    by_cases h : i < l.length
    · rw [show m + 1 + g + 2 * l.length + 61 = (m + g + 2 * l.length + 61) + 1 by omega, hasplaw06_RowsNulls.l0]
      rw [if_pos (by omega), if_pos (by omega), if_pos (by omega), rdc_at l i h, w64n i (by omega)]
      have e : (l.take (i + 1)).any (·.f2) = ((l.take i).any (·.f2) || l[i].f2) := by rw [List.take_succ_eq_append_getElem h, List.any_append]; simp
      cases free
      · rw [if_neg (by decide)]
        exact ih l (i + 1) g _ (by omega) (by omega) hl (by rw [e]; cases ha : (l.take i).any (·.f2) <;> simp [ha] at hf ⊢)
      · rw [if_pos rfl]
        exact ih l (i + 1) g _ (by omega) (by omega) hl (by rw [e]; cases ha : (l.take i).any (·.f2) <;> simp [ha] at hf ⊢)
    · exact (show m + 1 + g + 2 * l.length + 61 = m + (g + 1) + 2 * l.length + 61 by omega) ▸ ih l i (g + 1) free (by omega) hi hl hf
theorem NullsPure (l0 : List S47) (hz0 : l0.length * 32 ≤ reachBytes) : ∃ k, hasplaw06_RowsNulls.f k l0 = some true := by
  have hl : l0.length ≤ 4398046511104 := by unfold reachBytes at hz0; omega
  refine ⟨l0.length + 0 + 2 * l0.length + 61, ?_⟩
  unfold hasplaw06_RowsNulls.f
  rw [speaks_eq _ (by omega), Option.bind_some, if_pos rfl, if_pos (by omega), if_pos (by omega), Int.toNat_natCast]
  have := nulls_at l0.length l0 0 0 true (by omega) (by omega) hl (by simp)
  simpa using this
end Go.Proofs.Ytnjobnkkpfaigaa
