import Derived.Test.YtnjobnkkpfaigaaZfP5
/- Layer 6: the reference's Encode, by the same plain description: the whole. -/
namespace Go.Proofs.Ytnjobnkkpfaigaa
open Go.RowKit Go.Proofs.YtnjobnkkpfaigaaW.PrintWords Go.Proofs.YtnjobnkkpfaigaaW.PrintMore Fl V A
set_option linter.unusedSimpArgs false
set_option linter.unusedVariables false
theorem chunk_full (r : List S43) (b : Nat) : chunk (nf r) r.length b = ((nf r).drop (8 * b)).take 8 := by
  unfold chunk
  rw [List.take_of_length_le (show (nf r).length ≤ r.length by simp [nf])]
theorem chunk_flen (r : List S43) (b : Nat) : (chunk (nf r) r.length b).length = min 8 (r.length - 8 * b) := by
  rw [chunk_full, List.length_take, List.length_drop]
  simp [nf]
theorem chunk_get (r : List S43) (b k : Nat) (h : k < (chunk (nf r) r.length b).length) (h' : 8 * b + k < r.length) : (chunk (nf r) r.length b)[k] = decide (r[8 * b + k].f0 = 0) := by
  rw [List.getElem_of_eq (chunk_full r b), List.getElem_take, List.getElem_drop, nf_at r _ h']
end Go.Proofs.Ytnjobnkkpfaigaa
