/- Layer 5: KeysThere and KeysBack, the plain laws. -/
import Derived.Test.YthoemenchimggaaDoorPr
import Derived.Test.YthoemenchimggaaDoorVx9
namespace Go.Proofs.YthoemenchimggaaDoor
open Go.RowKit Go.Proofs.YthoemenchimggaaDoorW.PrintWords Fl V A
set_option linter.unusedSimpArgs false
set_option linter.unusedVariables false
theorem there_at : ∀ (m : Nat) (l : List S35) (i g : Nat), l.length - i ≤ m → i ≤ l.length → l.length ≤ 4398046511104 → hasplaw05_KeysThere.l0 (2 * m + g + 1) (l.map norm) l (l.length : Int) i = some true := by
  intro m
  induction m with
  | zero =>
    intro l i g hm hi hl
    rw [show 2 * 0 + g + 1 = g + 1 by omega, hasplaw05_KeysThere.l0, if_neg (by omega)]
  | succ m ih =>
    intro l i g hm hi hl
    rw [show 2 * (m + 1) + g + 1 = (2 * m + g + 1) + 1 + 1 by omega, hasplaw05_KeysThere.l0]
    by_cases h : i < l.length
    · have hml : i < (l.map norm).length := by rw [List.length_map]; exact h
      have hr : rd_T35 (l.map norm) (i : Int) = norm l[i] := by rw [rdv_at _ i hml, List.getElem_map]
      rw [if_pos (by omega), if_pos (by omega), if_pos (by omega), rdv_at l i h]
      by_cases h3 : (l[i]).f0 = 3
      · rw [if_pos h3, hasplaw05_KeysThere.j2, hr]
        by_cases hz : (l[i]).f1 = -9223372036854775808
        · rw [if_pos (by simpa using hz), if_pos (by omega), if_pos (by rw [List.length_map]; omega)]
          have hn : norm l[i] = ⟨(l[i]).f0, 0, (l[i]).f2⟩ := by unfold norm; rw [if_pos ⟨h3, hz⟩]
          rw [hn, w64n i (by omega), if_neg (by simp)]
          exact ih l (i + 1) g (by omega) (by omega) hl
        · rw [if_neg (by simpa using hz), if_pos (by omega), if_pos (by rw [List.length_map]; omega)]
          have hn : norm l[i] = l[i] := by unfold norm; rw [if_neg (fun q => hz q.2)]
          rw [hn, w64n i (by omega), if_neg (by simp)]
          exact ih l (i + 1) g (by omega) (by omega) hl
      · rw [if_neg h3, hasplaw05_KeysThere.j2, hr, if_neg (by decide), if_pos (by omega), if_pos (by rw [List.length_map]; omega)]
        have hn : norm l[i] = l[i] := by unfold norm; rw [if_neg (fun q => h3 q.1)]
        rw [hn, w64n i (by omega), if_neg (by simp)]
        exact ih l (i + 1) g (by omega) (by omega) hl
    · rw [if_neg (by omega)]
theorem TherePure (l : List S35) (hl : l.length ≤ 10000000) (r : ∀ x ∈ l, Rg x) : ∃ k, hasplaw05_KeysThere.f k l = some true := by
  refine ⟨2 * l.length + 102, ?_⟩
  unfold hasplaw05_KeysThere.f
  rw [speaks_eq _ (by omega), Option.bind_some, if_pos rfl]
  obtain ⟨x, hx, gx⟩ := right_eq l (2 * l.length + 102) (by omega) (by omega)
  rw [hx, Option.bind_some]
  cases x
  · rw [if_neg (by decide)]
  · rw [if_pos rfl]
    have g := gx rfl
    have hk := keyL_bound l g
    rw [copy_eq l _ (by omega) (by omega), Option.bind_some, encode_eq l g (by omega), Option.bind_some, decode_eq _ (keyL_bytes l) (by omega), Option.bind_some, decK_key l (fun v hv => ⟨g v hv, r v hv⟩)]
    dsimp only
    rw [if_pos rfl, List.length_map, bne_self_eq_false, hasplaw05_KeysThere.j0, if_neg (by decide)]
    have := there_at l.length l 0 100 (by omega) (by omega) (by omega)
    exact this
theorem BackPure (b : List Int) (hl : b.length ≤ 10000000) (hb : ∀ x ∈ b, 0 ≤ x ∧ x < 256) : ∃ k, hasplaw05_KeysBack.f k b = some true := by
  refine ⟨60, ?_⟩
  unfold hasplaw05_KeysBack.f
  rw [speaks_eq _ (by omega), Option.bind_some, if_pos rfl, Option.bind_some, if_pos (by rw [List.length_nil]; omega), List.nil_append, decode_eq b hb (by omega), Option.bind_some]
  by_cases h : (decK b).2 = 0
  · rw [if_pos h]
    have hk := decK_back b hb (decK b).1 (Prod.ext rfl h)
    unfold keys_Encode.f
    rw [hk, if_pos (by omega), Option.bind_some, beq_self_eq_true]
  · rw [if_neg h]
end Go.Proofs.YthoemenchimggaaDoor
