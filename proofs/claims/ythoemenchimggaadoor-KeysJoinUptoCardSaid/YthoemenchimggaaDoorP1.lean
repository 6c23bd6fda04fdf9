/- Layer 5: KeysJoin, the plain law. -/
import Derived.Test.YthoemenchimggaaDoorP0
import Derived.Test.YthoemenchimggaaDoorVx13
namespace Go.Proofs.YthoemenchimggaaDoor
open Go.RowKit Go.Proofs.YthoemenchimggaaDoorW.PrintWords Fl V A
set_option linter.unusedSimpArgs false
set_option linter.unusedVariables false
theorem str_append (a b : List Int) : strOfNums (a ++ b) = strOfNums a ++ strOfNums b := by
  apply ByteArray.ext
  rw [ByteArray.data_append]
  simp [strOfNums]
theorem JoinPure (a b : List S35) (hl : a.length + b.length ≤ 10000000) : ∃ k, hasplaw05_KeysJoin.f k a b = some true := by
  refine ⟨a.length + b.length + 100, ?_⟩
  unfold hasplaw05_KeysJoin.f
  rw [speaks_eq _ (by omega), Option.bind_some, if_pos rfl]
  obtain ⟨x, hx, gx⟩ := right_eq a (a.length + b.length + 100) (by omega) (by omega)
  obtain ⟨y, hy, gy⟩ := right_eq b (a.length + b.length + 100) (by omega) (by omega)
  rw [hx, Option.bind_some]
  cases x
  · rw [if_neg (by decide), hasplaw05_KeysJoin.j0, if_pos rfl]
  · rw [if_pos rfl, hy, Option.bind_some]
    cases y
    · rw [Bool.not_false, hasplaw05_KeysJoin.j0, if_pos rfl]
    · have ga := gx rfl
      have gb := gy rfl
      have hka := keyL_bound a ga
      have hkb := keyL_bound b gb
      rw [Bool.not_true, hasplaw05_KeysJoin.j0, if_neg (by decide), copy_eq a _ (by omega) (by omega), Option.bind_some, if_pos (by omega),
        encode_eq (a ++ b) (fun v hv => by rcases List.mem_append.1 hv with h | h; exact ga v h; exact gb v h) (by rw [List.length_append]; omega), Option.bind_some,
        Option.bind_some, encode_eq a ga (by omega), Option.bind_some, copy_eq b _ (by omega) (by omega), Option.bind_some, encode_eq b gb (by omega), Option.bind_some,
        if_pos (by rw [strOfNums_size, strOfNums_size]; omega), keyL_append, str_append, beq_self_eq_true]
end Go.Proofs.YthoemenchimggaaDoor
