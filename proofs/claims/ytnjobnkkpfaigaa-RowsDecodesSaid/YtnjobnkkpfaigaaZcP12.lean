import Derived.Test.YtnjobnkkpfaigaaZcP11
/- Layer 6: the reference's Decode is the program's. -/
namespace Go.Proofs.Ytnjobnkkpfaigaa
open Go.RowKit Go.Proofs.YtnjobnkkpfaigaaW.PrintWords Go.Proofs.YtnjobnkkpfaigaaW.PrintMore Fl V A
set_option linter.unusedSimpArgs false
set_option linter.unusedVariables false
theorem div_in (y : Int) (h0 : 0 ≤ y) (h1 : y < 256) (r : Nat) : 0 ≤ y / 2 ^ r ∧ y / 2 ^ r < 256 := by
  have hp : (0 : Int) < 2 ^ r := Int.pow_pos (by decide)
  refine ⟨Int.ediv_nonneg h0 (by omega), ?_⟩
  have := Int.ediv_le_self (2 ^ r) h0
  omega
theorem bitC_eq (y : Int) (i : Nat) (h0 : 0 ≤ y) (h1 : y < 256) : bitC y i = decide (y / 2 ^ (i % 8) % 2 = 0) := by
  unfold bitC
  obtain ⟨d0, d1⟩ := div_in y h0 h1 (i % 8)
  rw [u8_and _ 1 d0 d1 (by omega) (by omega), show (1 : Int).toNat = 1 from rfl, nat_mask1, Bool.eq_iff_iff, beq_iff_eq, decide_eq_true_eq]
  omega
theorem bit_eq (x1 : List Int) (i : Nat) (h : i / 8 < x1.length) (hi : i < 140737488355328) (hx : ∀ x ∈ x1, 0 ≤ x ∧ x < 256) : haspref06_bit.f x1 i = some (!bitC (x1.getD (i / 8) 0) i) := by
  have e1 : wrap64 (Int.tdiv (i : Int) 8) = ((i / 8 : Nat) : Int) := by
    rw [Int.tdiv_eq_ediv_of_nonneg (by omega), IntWalk.wrap64_in _ (by omega)]; omega
  have e2 : IntKind.u64.wrap (Int.tmod (i : Int) 8) = ((i % 8 : Nat) : Int) := by
    rw [Int.tmod_eq_emod_of_nonneg (by omega), u64w]; omega
  have hm := hx _ (List.getElem_mem h)
  have e3 : x1.getD (i / 8) 0 = x1[i / 8] := by rw [List.getD_eq_getElem?_getD, List.getElem?_eq_getElem h]; rfl
  unfold haspref06_bit.f
  rw [e1, e2, if_pos (by omega), if_pos (by omega), if_pos (by omega), rd_nat x1 _ h, IntWalk.wrap64_in _ (by omega), e3, bitC_eq _ _ hm.1 hm.2]
  obtain ⟨d0, d1⟩ := div_in _ hm.1 hm.2 (i % 8)
  have es : shr .i64 x1[i / 8] ((i % 8 : Nat) : Int) = x1[i / 8] / 2 ^ (i % 8) := by
    unfold shr
    rw [Int.toNat_natCast, show IntKind.i64.bits = 64 from rfl, Nat.min_eq_left (by omega)]
  rw [es, Int.tmod_eq_emod_of_nonneg d0]
  congr 1
  rw [Bool.eq_iff_iff, beq_iff_eq, Bool.not_eq_true', decide_eq_false_iff_not]
  omega
theorem take_getD (l : List Int) (m j : Nat) (h : j < m) : (l.take m).getD j 0 = l.getD j 0 := by
  rw [List.getD_eq_getElem?_getD, List.getD_eq_getElem?_getD, List.getElem?_take, if_pos h]
theorem decl2_at : ∀ (d : Nat) (x0 : List S47) (x1 : List Int) (m : Nat) (row : List S43) (at_ i g : Nat), x0.length - i = d → i ≤ x0.length → x0.length ≤ 4398046511104 → row.length ≤ i → m = (x0.length + 7) / 8 → m ≤ x1.length → at_ ≤ x1.length → x1.length < 140737488355328 → (∀ x ∈ x1, 0 ≤ x ∧ x < 256) →
    haspref06_Decode.l2 (d + g + 21) x0 x1 [] row at_ i = some (decGo (x1.take m) (x0.drop i) i (x1.drop at_) 0 row) := by
  intro d
  induction d with
  | zero =>
    intro x0 x1 m row at_ i g hd hi hl hr hm hm1 hat hl1 hx
    have : i = x0.length := by omega
    subst this
    rw [show 0 + g + 21 = (g + 20) + 1 by omega, haspref06_Decode.l2, if_neg (by omega), List.drop_length]
    unfold decGo
    by_cases h : at_ < x1.length
    · have h' : (x1.drop at_).length > 0 := by rw [List.length_drop]; omega
      rw [if_pos (by omega), if_pos h']
      rfl
    · have h' : ¬ (x1.drop at_).length > 0 := by rw [List.length_drop]; omega
      rw [if_neg (by omega), if_neg h', if_neg (by decide)]
  | succ d ih =>
    intro x0 x1 m row at_ i g hd hi hl hr hm hm1 hat hl1 hx
    have h : i < x0.length := by omega
    rw [show d + 1 + g + 21 = (d + g + 21) + 1 by omega, haspref06_Decode.l2, if_pos (by omega), bit_eq x1 i (by omega) (by omega) hx, Option.bind_some, if_pos (show (0 : Int) ≤ (i : Int) by omega), if_pos (show (0 : Int) ≤ (i : Int) by omega), rdc_at x0 i h, w64n i (by omega), List.drop_eq_getElem_cons h]
    unfold decGo
    rw [take_getD x1 m _ (by omega)]
    have q1 : x0.length - (i + 1) = d := by omega
    have q2 : row.length < 4398046511104 := by omega
    have q3 : ∀ v : S43, (row ++ [v]).length ≤ i + 1 := by intro v; rw [List.length_append, List.length_singleton]; omega
    have q4 : i + 1 ≤ x0.length := h
    cases hb : bitC (x1.getD (i / 8) 0) i
    · simp only [Bool.not_false, if_true, Bool.false_eq_true, if_false]
      cases hf : x0[i].f2
      · simp only [Bool.false_eq_true, if_false, ne_eq, not_true_eq_false]
        rw [if_pos q2]
        exact ih x0 x1 m _ at_ (i + 1) g q1 q4 hl (q3 _) hm hm1 hat hl1 hx
      · simp only [if_true]
        rw [if_pos (show failE 0 60 ≠ 0 by decide)]
        rfl
    · simp only [Bool.not_true, if_true, Bool.false_eq_true, if_false]
      obtain ⟨a, b, c, dd, e, ho, he, hk⟩ := one_ok (d + g + 1) x0[i].f1 x1 at_ hat hl1 hx
      rw [show d + g + 1 + 20 = d + g + 21 by omega] at ho
      rw [ho, Option.bind_some, he]
      dsimp only
      by_cases h0 : e = 0
      · obtain ⟨at', h5, h1, h2, h3, h4⟩ := hk h0
        rw [if_pos h0, if_pos q2, if_neg (by simpa using h0), h3, h4, h0, h5]
        exact ih x0 x1 m _ at' (i + 1) g q1 q4 hl (q3 _) hm hm1 h2 hl1 hx
      · rw [if_neg h0, if_pos h0]
theorem decl1_at : ∀ (d : Nat) (x0 : List S47) (x1 : List Int) (m : Nat) (row : List S43) (i g : Nat), 8 * m - i = d → 8 * (m - 1) ≤ i → i ≤ 8 * m → 1 ≤ m → m ≤ x1.length → 8 * m < 140737488355328 → (∀ x ∈ x1, 0 ≤ x ∧ x < 256) →
    haspref06_Decode.l1 (d + g + 1) x0 x1 [] row m i = if x1.getD (m - 1) 0 / 2 ^ (i - 8 * (m - 1)) ≠ 0 then some ([], 2) else haspref06_Decode.l2 g x0 x1 [] row m 0 := by
  intro d
  induction d with
  | zero =>
    intro x0 x1 m row i g hd h0 hi hm hm1 hl hx
    have : i = 8 * m := by omega
    subst this
    have hb := hx _ (List.getElem_mem (show m - 1 < x1.length by omega))
    have e3 : x1.getD (m - 1) 0 = x1[m - 1] := by rw [List.getD_eq_getElem?_getD, List.getElem?_eq_getElem (by omega)]; rfl
    rw [e3, show 8 * m - 8 * (m - 1) = 8 by omega, show 0 + g + 1 = g + 1 by omega, haspref06_Decode.l1]
    have e8 : wrap64 ((m : Int) * 8) = ((8 * m : Nat) : Int) := by rw [IntWalk.wrap64_in _ (by omega)]; omega
    rw [e8, if_neg (by omega), if_neg]
    intro hne
    exact hne (Int.ediv_eq_zero_of_lt hb.1 (by omega))
  | succ d ih =>
    intro x0 x1 m row i g hd h0 hi hm hm1 hl hx
    have hb := hx _ (List.getElem_mem (show m - 1 < x1.length by omega))
    have e3 : x1.getD (m - 1) 0 = x1[m - 1] := by rw [List.getD_eq_getElem?_getD, List.getElem?_eq_getElem (by omega)]; rfl
    have e8 : wrap64 ((m : Int) * 8) = ((8 * m : Nat) : Int) := by rw [IntWalk.wrap64_in _ (by omega)]; omega
    have hq : i / 8 = m - 1 := by omega
    rw [show d + 1 + g + 1 = (d + g + 1) + 1 by omega, haspref06_Decode.l1, e8, if_pos (show (i : Int) < ((8 * m : Nat) : Int) by omega), bit_eq x1 i (by omega) (by omega) hx, Option.bind_some, w64n i (by omega), hq, e3, bitC_eq _ _ hb.1 hb.2, show i % 8 = i - 8 * (m - 1) by omega]
    have ih' := ih x0 x1 m row (i + 1) g (by omega) (by omega) (by omega) hm hm1 hl hx
    rw [e3, show i + 1 - 8 * (m - 1) = (i - 8 * (m - 1)) + 1 by omega] at ih'
    obtain ⟨r, hr⟩ : ∃ r, i - 8 * (m - 1) = r := ⟨_, rfl⟩
    rw [hr] at ih' ⊢
    have ep : x1[m - 1] / 2 ^ (r + 1) = x1[m - 1] / 2 ^ r / 2 := by rw [Int.pow_succ, Int.ediv_ediv_of_nonneg (Int.le_of_lt (Int.pow_pos (by decide)))]
    obtain ⟨d0, d1⟩ := div_in _ hb.1 hb.2 r
    rw [ep] at ih'
    obtain ⟨z, hz⟩ : ∃ z, x1[m - 1] / 2 ^ r = z := ⟨_, rfl⟩
    rw [hz] at ih' d0 d1 ⊢
    by_cases h2 : z % 2 = 0
    · rw [decide_eq_true h2, if_neg (by decide), ih']
      by_cases hz0 : z = 0
      · rw [hz0]; rfl
      · rw [if_pos (by omega), if_pos hz0]
    · rw [decide_eq_false h2, if_pos (by decide), if_pos (by omega)]
theorem decl0_at : ∀ (d : Nat) (x0 : List S47) (x1 : List Int) (n g : Nat), (x0.length + 7) / 8 - n = d → n ≤ (x0.length + 7) / 8 → x0.length ≤ 4398046511104 →
    haspref06_Decode.l0 (d + g + 1) x0 x1 [] [] n = if x1.length < (x0.length + 7) / 8 then some ([], 3) else haspref06_Decode.l1 g x0 x1 [] [] (((x0.length + 7) / 8 : Nat) : Int) (x0.length : Int) := by
  intro d
  induction d with
  | zero =>
    intro x0 x1 n g hd hn hl
    have : n = (x0.length + 7) / 8 := by omega
    subst this
    have e8 : wrap64 ((((x0.length + 7) / 8 : Nat) : Int) * 8) = ((8 * ((x0.length + 7) / 8) : Nat) : Int) := by rw [IntWalk.wrap64_in _ (by omega)]; omega
    rw [show 0 + g + 1 = g + 1 by omega, haspref06_Decode.l0, e8, if_neg (by omega)]
    by_cases h : x1.length < (x0.length + 7) / 8
    · rw [if_pos (by omega), if_pos h]
    · rw [if_neg (by omega), if_neg h]
  | succ d ih =>
    intro x0 x1 n g hd hn hl
    have e8 : wrap64 ((n : Int) * 8) = ((8 * n : Nat) : Int) := by rw [IntWalk.wrap64_in _ (by omega)]; omega
    rw [show d + 1 + g + 1 = (d + g + 1) + 1 by omega, haspref06_Decode.l0, e8, if_pos (by omega), w64n n (by omega)]
    exact ih x0 x1 (n + 1) g (by omega) (by omega) hl
theorem decR (x0 : List S47) (x1 : List Int) (k : Nat) (hk : 2 * x0.length + 60 ≤ k) (hl : x0.length ≤ 4398046511104) (hl1 : x1.length < 140737488355328) (hx : ∀ x ∈ x1, 0 ≤ x ∧ x < 256) :
    haspref06_Decode.f k x0 x1 = some (decodeV x0 x1) := by
  unfold haspref06_Decode.f
  obtain ⟨m, hm⟩ : ∃ m, (x0.length + 7) / 8 = m := ⟨_, rfl⟩
  have e := decl0_at m x0 x1 0 (k - m - 1) (by omega) (by omega) hl
  rw [show m + (k - m - 1) + 1 = k by omega, show ((0 : Nat) : Int) = 0 from rfl] at e
  rw [e, hm]
  unfold decodeV
  rw [hm]
  by_cases hs : x1.length < m
  · rw [if_pos hs, takeE_no x1 m hs]
    have : padE (takeY x1 0 m) x0.length m 3 = 3 := by unfold padE failE; split <;> rfl
    rw [this, decGo_keep _ (by decide)]
  · rw [if_neg hs, takeE_ok x1 m (by omega), takeY_ok x1 m (by omega), takeX_ok x1 m (by omega)]
    by_cases h0 : x0.length % 8 = 0
    · have hp : padE (x1.take m) x0.length m 0 = 0 := by
        unfold padE
        rw [decide_eq_false (show ¬ (x0.length : Int) % 8 > 0 by omega)]
        rfl
      have e8 : wrap64 ((m : Int) * 8) = ((8 * m : Nat) : Int) := by rw [IntWalk.wrap64_in _ (by omega)]; omega
      rw [hp, show k - m - 1 = (k - m - 2) + 1 by omega, haspref06_Decode.l1, e8, if_neg (by omega)]
      have e2 := decl2_at x0.length x0 x1 m [] m 0 (k - m - 2 - x0.length - 21) (by omega) (by omega) hl (Nat.zero_le _) hm.symm (by omega) (by omega) hl1 hx
      rw [show x0.length + (k - m - 2 - x0.length - 21) + 21 = k - m - 2 by omega, List.drop_zero, show ((0 : Nat) : Int) = 0 from rfl] at e2
      exact e2
    · have e1 := decl1_at (8 * m - x0.length) x0 x1 m [] x0.length (k - m - 1 - (8 * m - x0.length) - 1) rfl (by omega) (by omega) (by omega) (by omega) (by omega) hx
      rw [show 8 * m - x0.length + (k - m - 1 - (8 * m - x0.length) - 1) + 1 = k - m - 1 by omega, show x0.length - 8 * (m - 1) = x0.length % 8 by omega] at e1
      rw [e1]
      have hg : (x1.take m)[m - 1]?.getD 0 = x1.getD (m - 1) 0 := by
        rw [← List.getD_eq_getElem?_getD]
        exact take_getD x1 m _ (by omega)
      unfold padE
      rw [hg, decide_eq_true (show (x0.length : Int) % 8 > 0 by omega), Bool.true_and]
      by_cases hb : x1.getD (m - 1) 0 / 2 ^ (x0.length % 8) = 0
      · rw [if_neg (by simpa using hb), if_neg (by simpa using hb)]
        have e2 := decl2_at x0.length x0 x1 m [] m 0 (k - m - 1 - (8 * m - x0.length) - 1 - x0.length - 21) (by omega) (by omega) hl (Nat.zero_le _) hm.symm (by omega) (by omega) hl1 hx
        rw [show x0.length + (k - m - 1 - (8 * m - x0.length) - 1 - x0.length - 21) + 21 = k - m - 1 - (8 * m - x0.length) - 1 by omega, List.drop_zero, show ((0 : Nat) : Int) = 0 from rfl] at e2
        exact e2
      · rw [if_pos (by simpa using hb), if_pos (by simpa using hb)]
        rw [show failE 0 2 = 2 from rfl, decGo_keep _ (show (2 : Int) ≠ 0 by decide)]
end Go.Proofs.Ytnjobnkkpfaigaa
