/- Layer 5: KeysEncodes, the plain law. -/
import Derived.Test.YthoemenchimggaaDoorP4
namespace Go.Proofs.YthoemenchimggaaDoor
open Go.RowKit Go.Proofs.YthoemenchimggaaDoorW.PrintWords Fl V A
set_option linter.unusedSimpArgs false
set_option linter.unusedVariables false
theorem EncodesPure (l : List S35) (hl : l.length ≤ 10000000) (hk : (keyL l).length ≤ 60000000000000) (hr : ∀ x ∈ l, -9223372036854775808 ≤ x.f1 ∧ x.f1 < 9223372036854775808) (hs : ∀ x ∈ l, x.f2.size ≤ 4398046511104) : ∃ k, hasplaw05_KeysEncodes.f k l = some true := by
  refine ⟨fu l + l.length + 100, ?_⟩
  unfold hasplaw05_KeysEncodes.f
  have he : keys_Encode.f l = some (keyL l) := by unfold keys_Encode.f; rw [if_pos (by omega)]
  have h2 : haspref05_Encode.f (fu l + l.length + 100) l = some (keyL l) := by
    have := enc_at l hr hs (by omega) l.length 0 (l.length + 90) [] (by omega) (by omega) (by rw [List.drop_zero, List.length_nil]; omega)
    rw [List.drop_zero, List.nil_append, show fu l + (l.length + 90) + 10 = fu l + l.length + 100 by omega] at this
    exact this
  obtain ⟨x, hx, gx⟩ := right_eq l (fu l + l.length + 100) (by omega) (by omega)
  rw [speaks_eq _ (by omega), Option.bind_some, if_pos rfl, hx, Option.bind_some, copy_eq l _ (by omega) (by omega)]
  cases x
  · rw [if_neg (by decide), Option.bind_some, he, Option.bind_some]
  · rw [if_pos rfl, Option.bind_some, he, Option.bind_some, h2, Option.bind_some, if_pos rfl, same_eq l _ (by omega) (by omega), Option.bind_some]
theorem keyL_sizes : ∀ (l : List S35), (keyL l).length ≤ 11 * l.length + 2 * (l.map fun x => x.f2.size).sum
  | [] => by simp [keyL]
  | x :: l => by
    have ih := keyL_sizes l
    have := tail_bound x
    simp only [keyL, List.length_cons, List.length_append, List.map_cons, List.sum_cons]
    omega
end Go.Proofs.YthoemenchimggaaDoor
