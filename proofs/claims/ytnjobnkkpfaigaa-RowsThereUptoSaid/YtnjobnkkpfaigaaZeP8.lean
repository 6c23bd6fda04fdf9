import Derived.Test.YtnjobnkkpfaigaaZeP7
/- Layer 6: the plain law RowsEncodes. -/
namespace Go.Proofs.Ytnjobnkkpfaigaa
open Go.RowKit Go.Proofs.YtnjobnkkpfaigaaW.PrintWords Go.Proofs.YtnjobnkkpfaigaaW.PrintMore Fl V A
set_option linter.unusedSimpArgs false
set_option linter.unusedVariables false
theorem data_len (v : S43) (h : chk v = 0) : (dataOf v).length ≤ 201 := by
  have hs := (chk_ok v h).2.2
  unfold dataOf
  repeat' split
  · simp
  · simp
  · rw [List.length_cons, bytesOf_length]; omega
  · simp
theorem flat_len : ∀ r : List S43, (∀ v ∈ r, chk v = 0) → (r.flatMap dataOf).length ≤ 201 * r.length
  | [], _ => by simp
  | v :: vs, h => by
    rw [List.flatMap_cons, List.length_append, List.length_cons]
    have h1 := data_len v (h v (List.mem_cons_self ..))
    have h2 := flat_len vs (fun y hy => h y (List.mem_cons_of_mem _ hy))
    omega
theorem bytes_len (l : List S47) (r : List S43) (h : fitE l r = 0) (hl : r.length ≤ 137438953472) : (rowBytes r).length < 140737488355328 := by
  have := flat_len r (fitE_chk l r h)
  unfold rowBytes
  rw [List.length_append, bm_len]
  omega
end Go.Proofs.Ytnjobnkkpfaigaa
