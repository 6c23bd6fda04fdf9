import Derived.Test.YtnjobnkkpfaigaaZbP6
/- Layer 6: the reference's Encode, by the same plain description: the whole. -/
namespace Go.Proofs.Ytnjobnkkpfaigaa
open Go.RowKit Go.Proofs.YtnjobnkkpfaigaaW.PrintWords Go.Proofs.YtnjobnkkpfaigaaW.PrintMore Fl V A
set_option linter.unusedSimpArgs false
set_option linter.unusedVariables false
theorem encl2_at : ∀ (m : Nat) (r : List S43) (i g : Nat) (x : List Int), r.length - i ≤ m → i ≤ r.length → r.length ≤ 4398046511104 → (∀ v ∈ r, chk v = 0) →
    x.length + ((r.drop i).flatMap dataOf).length < 140737488355328 →
    haspref06_Encode.l2 (250 * m + g + 1) r x i = some (x ++ (r.drop i).flatMap dataOf, 0) := by
  intro m
  induction m with
  | zero =>
    intro r i g x hm hi hl hc hx
    have : i = r.length := by omega
    subst this
    rw [show 250 * 0 + g + 1 = g + 1 by omega, haspref06_Encode.l2, if_neg (by omega), List.drop_length]
    simp
  | succ m ih =>
    intro r i g x hm hi hl hc hx
    by_cases h : i < r.length
    · rw [List.drop_eq_getElem_cons h, List.flatMap_cons, List.length_append] at hx
      obtain ⟨g', hg, e⟩ := encrow r x i (250 * m + g + 1) h (hc _ (List.getElem_mem h)) hl (by omega)
      rw [show 250 * (m + 1) + g + 1 = 250 * m + g + 1 + 250 by omega, e, show g' = 250 * m + (g' - 250 * m - 1) + 1 by omega]
      rw [ih r (i + 1) _ _ (by omega) (by omega) hl hc (by rw [List.length_append]; omega), List.drop_eq_getElem_cons h, List.flatMap_cons, List.append_assoc]
    · rw [show 250 * (m + 1) + g + 1 = 250 * m + (g + 250) + 1 by omega]
      exact ih r i (g + 250) x (by omega) hi hl hc hx
theorem chunk_full (r : List S43) (b : Nat) : chunk (nf r) r.length b = ((nf r).drop (8 * b)).take 8 := by
  unfold chunk
  rw [List.take_of_length_le (show (nf r).length ≤ r.length by simp [nf])]
theorem chunk_flen (r : List S43) (b : Nat) : (chunk (nf r) r.length b).length = min 8 (r.length - 8 * b) := by
  rw [chunk_full, List.length_take, List.length_drop]
  simp [nf]
theorem chunk_get (r : List S43) (b k : Nat) (h : k < (chunk (nf r) r.length b).length) (h' : 8 * b + k < r.length) : (chunk (nf r) r.length b)[k] = decide (r[8 * b + k].f0 = 0) := by
  rw [List.getElem_of_eq (chunk_full r b), List.getElem_take, List.getElem_drop, nf_at r _ h']
theorem shl1 (k : Nat) (h : k < 8) : shl .i64 1 (IntKind.u64.wrap (k : Int)) = ((2 ^ k : Nat) : Int) := by
  have hk : k = 0 ∨ k = 1 ∨ k = 2 ∨ k = 3 ∨ k = 4 ∨ k = 5 ∨ k = 6 ∨ k = 7 := by omega
  rcases hk with rfl | rfl | rfl | rfl | rfl | rfl | rfl | rfl <;> decide
theorem encl1r_at : ∀ (m : Nat) (r : List S43) (b k g : Nat) (x : List Int), (chunk (nf r) r.length b).length - k = m → k ≤ (chunk (nf r) r.length b).length → r.length ≤ 4398046511104 → 8 * b < r.length → x.length < 140737488355328 →
    haspref06_Encode.l1 (2 * m + g + 2) r x ((8 * b : Nat) : Int) ((val ((chunk (nf r) r.length b).take k) : Nat) : Int) (k : Int) = haspref06_Encode.l0 g r (x ++ [((val (chunk (nf r) r.length b) : Nat) : Int)]) ((8 * (b + 1) : Nat) : Int) := by
  intro m
  induction m with
  | zero =>
    intro r b k g x hm hk hl hb hx
    have hfl := chunk_flen r b
    have hke : k = (chunk (nf r) r.length b).length := by omega
    have hv := val_lt (chunk (nf r) r.length b)
    have hp : 2 ^ (chunk (nf r) r.length b).length ≤ 256 := by
      have := Nat.pow_le_pow_right (n := 2) (by omega) (show (chunk (nf r) r.length b).length ≤ 8 by omega)
      omega
    rw [hke, List.take_length, show 2 * 0 + g + 2 = (g + 1) + 1 by omega, haspref06_Encode.l1]
    have ew : wrap64 (((8 * b : Nat) : Int) + 8) = ((8 * (b + 1) : Nat) : Int) := by rw [IntWalk.wrap64_in _ (by omega)]; omega
    have em : ((val (chunk (nf r) r.length b) : Nat) : Int) % 256 = ((val (chunk (nf r) r.length b) : Nat) : Int) := by omega
    by_cases h8 : (chunk (nf r) r.length b).length < 8
    · rw [if_pos (by omega), haspref06_Encode.j2]
      have ed : decide (wrap64 (((8 * b : Nat) : Int) + (((chunk (nf r) r.length b).length : Nat) : Int)) < (r.length : Int)) = false := decide_eq_false (by rw [IntWalk.wrap64_in _ (by omega)]; omega)
      rw [ed, if_neg (by decide), if_pos hx, em, ew]
    · rw [if_neg (by omega), haspref06_Encode.j2, if_neg (by decide), if_pos hx, em, ew]
  | succ m ih =>
    intro r b k g x hm hk hl hb hx
    have hfl := chunk_flen r b
    have hkl : k < (chunk (nf r) r.length b).length := by omega
    have hkn : 8 * b + k < r.length := by omega
    rw [show 2 * (m + 1) + g + 2 = (2 * m + g + 2 + 1) + 1 by omega, haspref06_Encode.l1, if_pos (by omega), haspref06_Encode.j2]
    have ewi : wrap64 (((8 * b : Nat) : Int) + (k : Int)) = ((8 * b + k : Nat) : Int) := by rw [IntWalk.wrap64_in _ (by omega)]; omega
    rw [ewi, decide_eq_true (show ((8 * b + k : Nat) : Int) < (r.length : Int) by omega), if_pos rfl, if_pos (by omega), if_pos (by omega), rdv_at r _ hkn, w64n k (by omega)]
    have ih' := ih r b (k + 1) g x (by omega) (by omega) hl hb hx
    have hcg := chunk_get r b k hkl hkn
    have ev : val ((chunk (nf r) r.length b).take (k + 1)) = val ((chunk (nf r) r.length b).take k) + (if r[8 * b + k].f0 = 0 then 2 ^ k else 0) := by
      rw [List.take_succ_eq_append_getElem hkl, val_snoc, hcg, List.length_take, Nat.min_eq_left (by omega)]
      by_cases h0 : r[8 * b + k].f0 = 0 <;> simp [h0]
    rw [ev] at ih'
    by_cases h0 : r[8 * b + k].f0 = 0
    · rw [if_pos h0] at ih' ⊢
      have hv := val_lt ((chunk (nf r) r.length b).take k)
      rw [List.length_take, Nat.min_eq_left (by omega)] at hv
      have hp : 2 ^ k ≤ 128 := by
        have := Nat.pow_le_pow_right (n := 2) (by omega) (show k ≤ 7 by omega)
        omega
      rw [if_pos (by rw [u64w0 k (by omega)]; omega), shl1 k (by omega), IntWalk.wrap64_in _ (by omega)]
      rw [show ((val ((chunk (nf r) r.length b).take k) : Nat) : Int) + ((2 ^ k : Nat) : Int) = ((val ((chunk (nf r) r.length b).take k) + 2 ^ k : Nat) : Int) by omega]
      exact ih'
    · rw [if_neg h0] at ih' ⊢
      rw [Nat.add_zero] at ih'
      exact ih'
theorem bm_take (f : List Bool) (nb n b : Nat) (h : b < nb) : (bm f nb n).take b ++ [((val (chunk f n b) : Nat) : Int)] = (bm f nb n).take (b + 1) := by
  rw [List.take_succ_eq_append_getElem (by rw [bm_len]; exact h), bm_at f nb n b h]
theorem encl0_at : ∀ (m : Nat) (r : List S43) (b g : Nat), (r.length + 7) / 8 - b ≤ m → b ≤ (r.length + 7) / 8 → r.length ≤ 4398046511104 → (∀ v ∈ r, chk v = 0) → (rowBytes r).length < 140737488355328 →
    haspref06_Encode.l0 (19 * m + (250 * r.length + g + 1) + 1) r ((bm (nf r) ((r.length + 7) / 8) r.length).take b) ((8 * b : Nat) : Int) = some (rowBytes r, 0) := by
  intro m
  induction m with
  | zero =>
    intro r b g hm hb hl hc hx
    have : b = (r.length + 7) / 8 := by omega
    rw [show 19 * 0 + (250 * r.length + g + 1) + 1 = (250 * r.length + g + 1) + 1 by omega, haspref06_Encode.l0, if_neg (by omega), List.take_of_length_le (by rw [bm_len]; omega)]
    unfold rowBytes at hx ⊢
    rw [List.length_append] at hx
    have := encl2_at r.length r 0 g (bm (nf r) ((r.length + 7) / 8) r.length) (by omega) (by omega) hl hc (by simpa using hx)
    simpa using this
  | succ m ih =>
    intro r b g hm hb hl hc hx
    by_cases h : b < (r.length + 7) / 8
    · have hfl := chunk_flen r b
      rw [show 19 * (m + 1) + (250 * r.length + g + 1) + 1 = (19 * m + (250 * r.length + (g + 18) + 1) + 1) + 1 by omega, haspref06_Encode.l0, if_pos (by omega)]
      have hx' : ((bm (nf r) ((r.length + 7) / 8) r.length).take b).length < 140737488355328 := by rw [List.length_take, bm_len]; omega
      have e := encl1r_at (chunk (nf r) r.length b).length r b 0 (19 * m + (250 * r.length + (g + 18 - 2 * (chunk (nf r) r.length b).length - 2) + 1) + 1) ((bm (nf r) ((r.length + 7) / 8) r.length).take b) (by omega) (by omega) hl (by omega) hx'
      rw [show 2 * (chunk (nf r) r.length b).length + (19 * m + (250 * r.length + (g + 18 - 2 * (chunk (nf r) r.length b).length - 2) + 1) + 1) + 2 = 19 * m + (250 * r.length + (g + 18) + 1) + 1 by omega] at e
      rw [show (((val ((chunk (nf r) r.length b).take 0) : Nat) : Int)) = 0 by simp [val], show ((0 : Nat) : Int) = 0 from rfl] at e
      rw [e, bm_take _ _ _ _ h]
      exact ih r (b + 1) _ (by omega) (by omega) hl hc hx
    · rw [show 19 * (m + 1) + (250 * r.length + g + 1) + 1 = 19 * m + (250 * r.length + (g + 19) + 1) + 1 by omega]
      exact ih r b (g + 19) (by omega) hb hl hc hx
theorem fitL_chk : ∀ (l : List S47) (r : List S43), l.length = r.length → fitL l r = 0 → ∀ v ∈ r, chk v = 0
  | [], [], _, _ => by simp
  | c :: cs, v :: vs, hl, h => by
    rw [fitL] at h
    by_cases hc : chk v = 0
    · rw [if_pos hc] at h
      have ht : fitL cs vs = 0 := by
        by_cases h0 : v.f0 = 0
        · rw [if_pos h0] at h
          split at h
          · omega
          · exact h
        · rw [if_neg h0] at h
          split at h
          · exact h
          · omega
      intro y hy
      rcases List.mem_cons.1 hy with rfl | hy
      · exact hc
      · exact fitL_chk cs vs (by simpa using hl) ht y hy
    · rw [if_neg hc] at h
      exact absurd h hc
theorem fitE_chk (l : List S47) (r : List S43) (h : fitE l r = 0) : ∀ v ∈ r, chk v = 0 := by
  unfold fitE at h
  by_cases hl : l.length = r.length
  · rw [if_pos hl] at h; exact fitL_chk l r hl h
  · rw [if_neg hl] at h; omega
theorem encR (l : List S47) (r : List S43) (k : Nat) (hk : 270 * r.length + 40 ≤ k) (hl : r.length ≤ 4398046511104) (hb : fitE l r = 0 → (rowBytes r).length < 140737488355328) :
    haspref06_Encode.f k l r = some (if fitE l r = 0 then (rowBytes r, 0) else ([], fitE l r)) := by
  unfold haspref06_Encode.f
  rw [fitR l r k (by omega) hl, Option.bind_some]
  by_cases h : fitE l r = 0
  · rw [if_pos h, if_pos h]
    have := encl0_at ((r.length + 7) / 8) r 0 (k - 19 * ((r.length + 7) / 8) - 250 * r.length - 2) (by omega) (by omega) hl (fitE_chk l r h) (hb h)
    rw [show 19 * ((r.length + 7) / 8) + (250 * r.length + (k - 19 * ((r.length + 7) / 8) - 250 * r.length - 2) + 1) + 1 = k by omega] at this
    simpa using this
  · rw [if_neg h, if_neg h]
end Go.Proofs.Ytnjobnkkpfaigaa
