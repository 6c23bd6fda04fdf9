import Derived.Test.YtnjobnkkpfaigaaZcP12
/- Layer 6: the plain law RowsDecodes. -/
namespace Go.Proofs.Ytnjobnkkpfaigaa
open Go.RowKit Go.Proofs.YtnjobnkkpfaigaaW.PrintWords Go.Proofs.YtnjobnkkpfaigaaW.PrintMore Fl V A
set_option linter.unusedSimpArgs false
set_option linter.unusedVariables false
theorem decGo_len (NL : List Int) : ∀ (cs : List S47) (i : Nat) (xs : List Int) (err : Int) (row : List S43), (decGo NL cs i xs err row).1.length ≤ row.length + cs.length
  | [], i, xs, err, row => by
    unfold decGo
    generalize (if xs.length > 0 then failE err 4 else err) = E
    by_cases h : E ≠ 0
    · rw [if_pos h]; exact Nat.zero_le _
    · rw [if_neg h]; exact Nat.le_refl _
  | c :: cs, i, xs, err, row => by
    unfold decGo
    have step : ∀ (E : Int) (ys : List Int) (v : S43), (if E ≠ 0 then (([] : List S43), E) else decGo NL cs (i + 1) ys E (row ++ [v])).1.length ≤ row.length + (c :: cs).length := by
      intro E ys v
      by_cases h : E ≠ 0
      · rw [if_pos h]; exact Nat.zero_le _
      · rw [if_neg h]
        have := decGo_len NL cs (i + 1) ys E (row ++ [v])
        rw [List.length_append, List.length_singleton] at this
        rw [List.length_cons]
        omega
    by_cases hb : bitC (NL.getD (i / 8) 0) i = true
    · rw [if_pos hb]; exact step _ _ _
    · rw [if_neg hb]; exact step _ _ _
theorem decodeV_len (l0 : List S47) (l1 : List Int) : (decodeV l0 l1).1.length ≤ l0.length := by
  have := decGo_len (takeY l1 0 ((l0.length + 7) / 8 : Nat)) l0 0 (takeX l1 0 ((l0.length + 7) / 8 : Nat)) (padE (takeY l1 0 ((l0.length + 7) / 8 : Nat)) l0.length ((l0.length + 7) / 8) (takeE l1 0 ((l0.length + 7) / 8 : Nat))) []
  rw [List.length_nil, Nat.zero_add] at this
  exact this
theorem over_at : ∀ (d : Nat) (x6 x8 : List S43) (n i g : Nat), n - i = d → i ≤ n → x6.length = n → n ≤ 4398046511104 → x8.length ≤ 4398046511104 →
    hasplaw06_RowsDecodes.l0 (d + (x8.length + g + 2)) x6 x8 x8 (n : Int) (i : Int) = some true := by
  intro d
  induction d with
  | zero =>
    intro x6 x8 n i g hd hi h6 hn h8
    have : i = n := by omega
    subst this
    rw [show 0 + (x8.length + g + 2) = (x8.length + g + 1) + 1 by omega, hasplaw06_RowsDecodes.l0, if_neg (by omega), same_eq x8 _ (by omega) h8]
    rfl
  | succ d ih =>
    intro x6 x8 n i g hd hi h6 hn h8
    rw [show d + 1 + (x8.length + g + 2) = (d + (x8.length + g + 2)) + 1 by omega, hasplaw06_RowsDecodes.l0, if_pos (by omega), if_pos (by omega), if_pos (by omega), w64n i (by omega)]
    exact ih _ x8 n (i + 1) g (by omega) (by omega) (by rw [List.length_set]; exact h6) hn h8
theorem bytesB_of {l : List Int} (h : ∀ x ∈ l, 0 ≤ x ∧ x < 256) : bytesB l = true := by
  unfold bytesB
  rw [List.all_eq_true]
  intro x hx
  have := h x hx
  simp [this.1, this.2]
theorem decF (l0 : List S47) (l1 : List Int) (hl : l0.length ≤ 4398046511104) (hx : ∀ x ∈ l1, 0 ≤ x ∧ x < 256) : rows_Decode.f l0 l1 = some (decodeV l0 l1) := by
  unfold rows_Decode.f
  rw [bytesB_of hx, decide_eq_true hl]
  rfl
theorem DecodesPure (l0 : List S47) (l1 : List Int) (h0 : l0.length ≤ 4398046511104) (h1 : l1.length < 140737488355328) (hx : ∀ x ∈ l1, 0 ≤ x ∧ x < 256) : ∃ k, hasplaw06_RowsDecodes.f k l0 l1 = some true := by
  have hlen := decodeV_len l0 l1
  refine ⟨300 * l0.length + 200, ?_⟩
  unfold hasplaw06_RowsDecodes.f
  rw [speaks_eq _ (by omega), Option.bind_some, if_pos rfl, Option.bind_some, if_pos (by simpa using h1), Option.bind_some, List.nil_append, cols_eq l0 _ (by omega) h0, Option.bind_some, decF l0 l1 h0 hx, Option.bind_some, Option.bind_some, decF l0 l1 h0 hx, Option.bind_some, decR l0 l1 _ (by omega) h0 h1 hx, Option.bind_some, same_eq _ _ (by omega) (by omega), Option.bind_some, if_pos rfl, if_pos rfl, bne_self_eq_false]
  rw [show 300 * l0.length + 200 = (300 * l0.length + 199) + 1 by omega, hasplaw06_RowsDecodes.j0, if_neg (by decide)]
  have e := over_at (decodeV l0 l1).1.length (decodeV l0 l1).1 (decodeV l0 l1).1 (decodeV l0 l1).1.length 0 (300 * l0.length + 199 - 2 * (decodeV l0 l1).1.length - 2) (by omega) (by omega) rfl (by omega) (by omega)
  rw [show (decodeV l0 l1).1.length + ((decodeV l0 l1).1.length + (300 * l0.length + 199 - 2 * (decodeV l0 l1).1.length - 2) + 2) = 300 * l0.length + 199 by omega] at e
  exact e
end Go.Proofs.Ytnjobnkkpfaigaa
