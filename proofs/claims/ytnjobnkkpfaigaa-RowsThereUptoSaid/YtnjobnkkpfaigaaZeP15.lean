import Derived.Test.YtnjobnkkpfaigaaZeP14
/- Layer 6: a row that fits is read again from its bytes: the plain law RowsThere. -/
namespace Go.Proofs.Ytnjobnkkpfaigaa
open Go.RowKit Go.Proofs.YtnjobnkkpfaigaaW.PrintWords Go.Proofs.YtnjobnkkpfaigaaW.PrintMore Fl V A
set_option linter.unusedSimpArgs false
set_option linter.unusedVariables false
theorem val_bit : ∀ (l : List Bool) (j : Nat) (h : j < l.length), val l / 2 ^ j % 2 = if l[j] = true then 1 else 0
  | b :: bs, 0, _ => by
    rw [val, Nat.pow_zero, Nat.div_one, List.getElem_cons_zero]
    cases b <;> simp <;> omega
  | b :: bs, j + 1, h => by
    rw [val, Nat.pow_succ, Nat.mul_comm (2 ^ j) 2, ← Nat.div_div_eq_div_mul, List.getElem_cons_succ, ← val_bit bs j (by simpa using h)]
    congr 2
    split <;> omega
theorem bm_bit (r : List S43) (i : Nat) (h : i < r.length) : bitC ((bm (nf r) ((r.length + 7) / 8) r.length).getD (i / 8) 0) i = !decide (r[i].f0 = 0) := by
  have hb : i / 8 < (r.length + 7) / 8 := by omega
  have e : (bm (nf r) ((r.length + 7) / 8) r.length).getD (i / 8) 0 = ((val (chunk (nf r) r.length (i / 8)) : Nat) : Int) := by
    rw [List.getD_eq_getElem?_getD, List.getElem?_eq_getElem (by rw [bm_len]; exact hb), bm_at _ _ _ _ hb]
    rfl
  have hfl := chunk_flen r (i / 8)
  have hv := val_lt (chunk (nf r) r.length (i / 8))
  have hp : 2 ^ (chunk (nf r) r.length (i / 8)).length ≤ 256 := by
    have := Nat.pow_le_pow_right (n := 2) (by omega) (show (chunk (nf r) r.length (i / 8)).length ≤ 8 by omega)
    omega
  have hj : i % 8 < (chunk (nf r) r.length (i / 8)).length := by omega
  have hvb := val_bit (chunk (nf r) r.length (i / 8)) (i % 8) hj
  have hcg := chunk_get r (i / 8) (i % 8) hj (by omega)
  have hi : 8 * (i / 8) + i % 8 = i := by omega
  have hr : r[8 * (i / 8) + i % 8]'(by omega) = r[i] := by congr 1
  rw [hr] at hcg
  rw [hcg] at hvb
  rw [e, bitC_eq _ _ (by omega) (by omega)]
  have hc : ((val (chunk (nf r) r.length (i / 8)) : Nat) : Int) / 2 ^ (i % 8) % 2 = ((val (chunk (nf r) r.length (i / 8)) / 2 ^ (i % 8) % 2 : Nat) : Int) := by push_cast; rfl
  rw [hc, hvb]
  by_cases h0 : r[i].f0 = 0 <;> simp [h0]
theorem bm_pad (r : List S43) (m : Nat) (hm : m = (r.length + 7) / 8) : padE (bm (nf r) m r.length) r.length m 0 = 0 := by
  unfold padE
  by_cases h0 : r.length % 8 = 0
  · rw [decide_eq_false (show ¬ (r.length : Int) % 8 > 0 by omega)]
    rfl
  · have hb : m - 1 < m := by omega
    have e : (bm (nf r) m r.length)[m - 1]?.getD 0 = ((val (chunk (nf r) r.length (m - 1)) : Nat) : Int) := by
      rw [List.getElem?_eq_getElem (by rw [bm_len]; exact hb), bm_at _ _ _ _ hb]
      rfl
    have hfl := chunk_flen r (m - 1)
    have hv := val_lt (chunk (nf r) r.length (m - 1))
    rw [show (chunk (nf r) r.length (m - 1)).length = r.length % 8 by omega] at hv
    have hz : ((val (chunk (nf r) r.length (m - 1)) : Nat) : Int) / 2 ^ (r.length % 8) = 0 := by
      apply Int.ediv_eq_zero_of_lt (by omega)
      exact_mod_cast hv
    rw [e, hz]
    simp
theorem null_of (v : S43) (h : okV v) (h0 : v.f0 = 0) : v = ⟨0, 0, ⟨#[]⟩⟩ := by
  obtain ⟨a, b, c⟩ := v
  unfold okV at h
  dsimp only at h h0
  have hb : b = 0 ∧ c.size = 0 := by
    rcases h with ⟨_, h1, h2⟩ | ⟨h1, _⟩ | ⟨h1, _⟩ | ⟨h1, _⟩ | ⟨h1, _⟩
    · exact ⟨h1, h2⟩
    all_goals omega
  rw [h0, hb.1, empty_of c hb.2]
theorem decGo_data (NL : List Int) : ∀ (cs : List S47) (r : List S43) (i : Nat) (rest : List Int) (row : List S43), cs.length = r.length → fitL cs r = 0 → (∀ v ∈ r, i64B v.f1) →
    (∀ (j : Nat) (h : j < r.length), bitC (NL.getD ((i + j) / 8) 0) (i + j) = !decide (r[j].f0 = 0)) →
    decGo NL cs i (r.flatMap dataOf ++ rest) 0 row = if rest.length > 0 then ([], 4) else (row ++ r, 0)
  | [], [], i, rest, row, _, _, _, _ => by
    unfold decGo
    rw [List.flatMap_nil, List.nil_append, List.append_nil]
    by_cases h : rest.length > 0
    · rw [if_pos h, if_pos h]; rfl
    · rw [if_neg h, if_neg h]; rfl
  | c :: cs, v :: vs, i, rest, row, hl, hf, hw, hb => by
    have hb0 := hb 0 (by simp)
    rw [Nat.add_zero, List.getElem_cons_zero] at hb0
    have hbs : ∀ (j : Nat) (h : j < vs.length), bitC (NL.getD ((i + 1 + j) / 8) 0) (i + 1 + j) = !decide (vs[j].f0 = 0) := by
      intro j h
      have := hb (j + 1) (by simpa using h)
      rw [List.getElem_cons_succ] at this
      rw [show i + 1 + j = i + (j + 1) by omega]
      exact this
    rw [fitL] at hf
    have hc : chk v = 0 := by
      by_cases hc : chk v = 0
      · exact hc
      · rw [if_neg hc] at hf; exact absurd hf hc
    rw [if_pos hc] at hf
    have ho := (chk_iff v).1 hc
    have hl' : cs.length = vs.length := by simpa using hl
    have hw' : ∀ v ∈ vs, i64B v.f1 := fun y hy => hw y (List.mem_cons_of_mem _ hy)
    have ih := fun (ro : List S43) (hfit : fitL cs vs = 0) => decGo_data NL cs vs (i + 1) rest ro hl' hfit hw' hbs
    unfold decGo
    rw [List.flatMap_cons, List.append_assoc]
    by_cases h0 : v.f0 = 0
    · rw [h0] at hb0
      rw [if_pos h0] at hf
      have hv := null_of v ho h0
      have hd : dataOf v = [] := by unfold dataOf; rw [if_pos h0]
      rw [if_neg (by rw [hb0]; decide), hd, List.nil_append]
      have hc2 : c.f2 = false := by
        cases h : c.f2
        · rfl
        · rw [h, if_pos rfl] at hf; omega
      rw [hc2] at hf ⊢
      simp only [Bool.false_eq_true, if_false, ne_eq, not_true_eq_false] at hf ⊢
      rw [ih _ hf, hv]
      simp
    · rw [if_neg h0] at hf
      have hk : v.f0 = c.f1 := by
        by_cases hk : v.f0 = c.f1
        · exact hk
        · rw [if_neg hk] at hf; omega
      rw [if_pos hk] at hf
      rw [if_pos (by rw [hb0, decide_eq_false h0]; rfl), ← hk, valR_data v _ ho h0 (hw v (List.mem_cons_self ..))]
      simp only [ne_eq, not_true_eq_false, if_false]
      rw [ih _ hf]
      simp
theorem decodeV_bytes (l : List S47) (r : List S43) (rest : List Int) (h : fitE l r = 0) (hw : ∀ v ∈ r, i64B v.f1) :
    decodeV l (rowBytes r ++ rest) = if rest.length > 0 then ([], 4) else (r, 0) := by
  have hlr : l.length = r.length := by
    unfold fitE at h
    by_cases hl : l.length = r.length
    · exact hl
    · rw [if_neg hl] at h; omega
  have hf : fitL l r = 0 := by unfold fitE at h; rwa [if_pos hlr] at h
  unfold decodeV rowBytes
  rw [hlr]
  obtain ⟨m, hm⟩ : ∃ m, (r.length + 7) / 8 = m := ⟨_, rfl⟩
  have hbl : (bm (nf r) m r.length).length = m := bm_len _ _ _
  rw [hm, List.append_assoc]
  have y := takeY_pre (bm (nf r) m r.length) (r.flatMap dataOf ++ rest)
  have x := takeX_pre (bm (nf r) m r.length) (r.flatMap dataOf ++ rest)
  have e := takeE_pre (bm (nf r) m r.length) (r.flatMap dataOf ++ rest)
  rw [hbl] at x y e
  rw [x, y, e, bm_pad r m hm.symm, decGo_data _ l r 0 rest [] hlr hf hw]
  · simp
  · intro j hj
    have := bm_bit r j hj
    rw [hm] at this
    rw [Nat.zero_add]
    exact this
theorem bm_in (r : List S43) (m : Nat) : ∀ x ∈ bm (nf r) m r.length, 0 ≤ x ∧ x < 256 := by
  intro x hx
  unfold bm at hx
  obtain ⟨b, _, rfl⟩ := List.mem_map.1 hx
  have hfl := chunk_flen r b
  have hv := val_lt (chunk (nf r) r.length b)
  have hp : 2 ^ (chunk (nf r) r.length b).length ≤ 256 := by
    have := Nat.pow_le_pow_right (n := 2) (by omega) (show (chunk (nf r) r.length b).length ≤ 8 by omega)
    omega
  omega
theorem dataOf_in (v : S43) : ∀ x ∈ dataOf v, 0 ≤ x ∧ x < 256 := by
  unfold dataOf
  intro x hx
  split at hx
  · cases hx
  · split at hx
    · rw [List.mem_singleton] at hx; omega
    · split at hx
      · rcases List.mem_cons.1 hx with rfl | hx
        · omega
        · exact bytesOf_in _ x hx
      · exact range8_in _ x hx
theorem rowBytes_in (r : List S43) : ∀ x ∈ rowBytes r, 0 ≤ x ∧ x < 256 := by
  intro x hx
  unfold rowBytes at hx
  rcases List.mem_append.1 hx with hx | hx
  · exact bm_in r _ x hx
  · obtain ⟨v, _, hv⟩ := List.mem_flatMap.1 hx
    exact dataOf_in v x hv
theorem TherePure (l0 : List S47) (l1 : List S43) (a2 : Int) (h0 : l0.length ≤ 4398046511104) (h1 : l1.length ≤ 137438953472) (hw : ∀ v ∈ l1, i64B v.f1) (ha : 0 ≤ a2 ∧ a2 < 256) : ∃ k, hasplaw06_RowsThere.f k l0 l1 a2 = some true := by
  refine ⟨300 * (l0.length + l1.length) + 100, ?_⟩
  unfold hasplaw06_RowsThere.f
  rw [speaks_eq _ (by omega), Option.bind_some, if_pos rfl, copy_eq l1 _ (by omega) (by omega), Option.bind_some]
  rw [encV l0 l1 _ (by omega) (by omega) (fun h => bytes_len l0 l1 h h1), Option.bind_some]
  by_cases hf : fitE l0 l1 = 0
  · have hl := bytes_len l0 l1 hf h1
    have hin := rowBytes_in l1
    have hin2 : ∀ x ∈ rowBytes l1 ++ [a2], 0 ≤ x ∧ x < 256 := by
      intro x hx
      rcases List.mem_append.1 hx with hx | hx
      · exact hin x hx
      · rw [List.mem_singleton] at hx; rw [hx]; exact ha
    have d1 := decodeV_bytes l0 l1 [] hf hw
    have d2 := decodeV_bytes l0 l1 [a2] hf hw
    rw [List.append_nil, if_neg (by simp)] at d1
    rw [if_pos (by simp)] at d2
    rw [if_pos hf]
    dsimp only
    rw [if_pos rfl, decF l0 _ h0 hin, Option.bind_some, if_pos hl, decF l0 _ h0 hin2, Option.bind_some, d1, d2]
    dsimp only
    rw [if_pos rfl, same_eq l1 _ (by omega) (by omega), Option.bind_some, if_pos rfl]
    rfl
  · rw [if_neg hf]
    dsimp only
    rw [if_neg hf, Option.bind_some, fitV l0 l1 _ (by omega) (by omega), Option.bind_some, if_pos rfl]
    rfl
end Go.Proofs.Ytnjobnkkpfaigaa
