import Derived.Test.YtnjobnkkpfaigaaZeP6
/- Layer 6: the reference's Encode, by the same plain description: the whole. -/
namespace Go.Proofs.Ytnjobnkkpfaigaa
open Go.RowKit Go.Proofs.YtnjobnkkpfaigaaW.PrintWords Go.Proofs.YtnjobnkkpfaigaaW.PrintMore Fl V A
set_option linter.unusedSimpArgs false
set_option linter.unusedVariables false
theorem chunk_full (r : List S43) (b : Nat) : chunk (nf r) r.length b = ((nf r).drop (8 * b)).take 8 := by
  unfold chunk
  rw [List.take_of_length_le (show (nf r).length ≤ r.length by simp [nf])]
theorem chunk_flen (r : List S43) (b : Nat) : (chunk (nf r) r.length b).length = min 8 (r.length - 8 * b) := by
  rw [chunk_full, List.length_take, List.length_drop]
  simp [nf]
theorem chunk_get (r : List S43) (b k : Nat) (h : k < (chunk (nf r) r.length b).length) (h' : 8 * b + k < r.length) : (chunk (nf r) r.length b)[k] = decide (r[8 * b + k].f0 = 0) := by
  rw [List.getElem_of_eq (chunk_full r b), List.getElem_take, List.getElem_drop, nf_at r _ h']
theorem fitL_chk : ∀ (l : List S47) (r : List S43), l.length = r.length → fitL l r = 0 → ∀ v ∈ r, chk v = 0
  | [], [], _, _ => by simp
  | c :: cs, v :: vs, hl, h => by
    rw [fitL] at h
    by_cases hc : chk v = 0
    · rw [if_pos hc] at h
      have ht : fitL cs vs = 0 := by
        by_cases h0 : v.f0 = 0
        · rw [if_pos h0] at h
          split at h
          · omega
          · exact h
        · rw [if_neg h0] at h
          split at h
          · exact h
          · omega
      intro y hy
      rcases List.mem_cons.1 hy with rfl | hy
      · exact hc
      · exact fitL_chk cs vs (by simpa using hl) ht y hy
    · rw [if_neg hc] at h
      exact absurd h hc
theorem fitE_chk (l : List S47) (r : List S43) (h : fitE l r = 0) : ∀ v ∈ r, chk v = 0 := by
  unfold fitE at h
  by_cases hl : l.length = r.length
  · rw [if_pos hl] at h; exact fitL_chk l r hl h
  · rw [if_neg hl] at h; omega
end Go.Proofs.Ytnjobnkkpfaigaa
