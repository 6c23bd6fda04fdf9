import Derived.Test.YtnjobnkkpfaigaaZfP14
import Derived.Test.YtnjobnkkpfaigaaZfVx11
/- Layer 6: what is read as a row fits, and makes these bytes again: the plain law RowsBack. -/
namespace Go.Proofs.Ytnjobnkkpfaigaa
open Go.RowKit Go.Proofs.YtnjobnkkpfaigaaW.PrintWords Go.Proofs.YtnjobnkkpfaigaaW.PrintMore Fl V A
set_option linter.unusedSimpArgs false
set_option linter.unusedVariables false
theorem takeE_zero {xs : List Int} {n : Nat} (h : takeE xs 0 n = 0) : n ≤ xs.length := by
  by_cases hn : n ≤ xs.length
  · exact hn
  · rw [takeE_no xs n (by omega)] at h; omega
/-- Eight bytes are a number's bytes. -/
theorem num_forth (a b c d e f g h : Int) (ha : 0 ≤ a ∧ a < 256) (hb : 0 ≤ b ∧ b < 256) (hc : 0 ≤ c ∧ c < 256) (hd : 0 ≤ d ∧ d < 256) (he : 0 ≤ e ∧ e < 256) (hf : 0 ≤ f ∧ f < 256) (hg : 0 ≤ g ∧ g < 256) (hh : 0 ≤ h ∧ h < 256) :
    (List.range 8).map (at8 (wrap64 ([a, b, c, d, e, f, g, h].reverse.foldl stepU 0))) = [a, b, c, d, e, f, g, h] := by
  have hr : ∀ x, (List.range 8).map (at8 x) = [at8 x 0, at8 x 1, at8 x 2, at8 x 3, at8 x 4, at8 x 5, at8 x 6, at8 x 7] := fun x => rfl
  rw [hr]
  simp only [List.reverse_cons, List.reverse_nil, List.nil_append, List.cons_append, List.foldl_cons, List.foldl_nil]
  obtain ⟨u1, h1⟩ : ∃ u, 0 * 256 + h = u := ⟨_, rfl⟩
  obtain ⟨u2, h2⟩ : ∃ u, u1 * 256 + g = u := ⟨_, rfl⟩
  obtain ⟨u3, h3⟩ : ∃ u, u2 * 256 + f = u := ⟨_, rfl⟩
  obtain ⟨u4, h4⟩ : ∃ u, u3 * 256 + e = u := ⟨_, rfl⟩
  obtain ⟨u5, h5⟩ : ∃ u, u4 * 256 + d = u := ⟨_, rfl⟩
  obtain ⟨u6, h6⟩ : ∃ u, u5 * 256 + c = u := ⟨_, rfl⟩
  obtain ⟨u7, h7⟩ : ∃ u, u6 * 256 + b = u := ⟨_, rfl⟩
  obtain ⟨u8, h8⟩ : ∃ u, u7 * 256 + a = u := ⟨_, rfl⟩
  rw [stepU_small 0 h (by omega) (by omega) (by omega) (by omega), h1, stepU_small u1 g (by omega) (by omega) (by omega) (by omega), h2, stepU_small u2 f (by omega) (by omega) (by omega) (by omega), h3, stepU_small u3 e (by omega) (by omega) (by omega) (by omega), h4, stepU_small u4 d (by omega) (by omega) (by omega) (by omega), h5, stepU_small u5 c (by omega) (by omega) (by omega) (by omega), h6, stepU_small u6 b (by omega) (by omega) (by omega) (by omega), h7, stepU_small u7 a (by omega) (by omega) (by omega) (by omega), h8]
  have hu : 0 ≤ u8 ∧ u8 < 18446744073709551616 := by omega
  have e0 : at8 (wrap64 u8) 0 = a := by unfold at8; simp only [wrap64, Nat.reduceMul, Int.reducePow]; omega
  have e1 : at8 (wrap64 u8) 1 = b := by unfold at8; simp only [wrap64, Nat.reduceMul, Int.reducePow]; omega
  have e2 : at8 (wrap64 u8) 2 = c := by unfold at8; simp only [wrap64, Nat.reduceMul, Int.reducePow]; omega
  have e3 : at8 (wrap64 u8) 3 = d := by unfold at8; simp only [wrap64, Nat.reduceMul, Int.reducePow]; omega
  have e4 : at8 (wrap64 u8) 4 = e := by unfold at8; simp only [wrap64, Nat.reduceMul, Int.reducePow]; omega
  have e5 : at8 (wrap64 u8) 5 = f := by unfold at8; simp only [wrap64, Nat.reduceMul, Int.reducePow]; omega
  have e6 : at8 (wrap64 u8) 6 = g := by unfold at8; simp only [wrap64, Nat.reduceMul, Int.reducePow]; omega
  have e7 : at8 (wrap64 u8) 7 = h := by unfold at8; simp only [wrap64, Nat.reduceMul, Int.reducePow]; omega
  rw [e0, e1, e2, e3, e4, e5, e6, e7]
theorem num_forth8 (zs : List Int) (hl : zs.length = 8) (hz : ∀ x ∈ zs, 0 ≤ x ∧ x < 256) : (List.range 8).map (at8 (wrap64 (zs.reverse.foldl stepU 0))) = zs := by
  match zs, hl, hz with
  | [a, b, c, d, e, f, g, h], _, hz =>
    exact num_forth a b c d e f g h (hz a (by simp)) (hz b (by simp)) (hz c (by simp)) (hz d (by simp)) (hz e (by simp)) (hz f (by simp)) (hz g (by simp)) (hz h (by simp))
theorem valR_inv (xs : List Int) (t : Int) (hx : ∀ x ∈ xs, 0 ≤ x ∧ x < 256) (h : (valR xs 0 t).err = 0) : okV (valR xs 0 t).v ∧ (valR xs 0 t).v.f0 = t ∧ t ≠ 0 ∧ xs = dataOf (valR xs 0 t).v ++ (valR xs 0 t).xs := by
  by_cases ht : t < 1 ∨ t > 4
  · rw [valR_bad _ _ _ ht] at h
    exact absurd h (by show failE 0 30 ≠ 0; decide)
  · have : t = 1 ∨ t = 2 ∨ t = 3 ∨ t = 4 := by omega
    rcases this with rfl | rfl | rfl | rfl
    · have hv : valR xs 0 1 = ⟨⟨1, (takeY xs 0 1).getD 0 0, ⟨#[]⟩⟩, takeX xs 0 1, if (takeY xs 0 1).getD 0 0 > 1 then failE (takeE xs 0 1) 2 else takeE xs 0 1⟩ := by unfold valR; rw [if_pos rfl]
      rw [hv] at h ⊢
      dsimp only at h ⊢
      by_cases hl : 1 ≤ xs.length
      · obtain ⟨y, ys, rfl⟩ : ∃ y ys, xs = y :: ys := by
          cases xs with
          | nil => simp at hl
          | cons y ys => exact ⟨y, ys, rfl⟩
        have hy := hx y (List.mem_cons_self ..)
        have e1 := takeY_ok (y :: ys) 1 hl
        have e2 := takeX_ok (y :: ys) 1 hl
        have e3 := takeE_ok (y :: ys) 1 hl
        rw [show ((1 : Nat) : Int) = 1 from rfl] at e1 e2 e3
        rw [e1, e3] at h
        rw [e1, e2]
        have g0 : ((y :: ys).take 1).getD 0 0 = y := rfl
        rw [g0] at h ⊢
        have hy1 : y = 0 ∨ y = 1 := by
          by_cases h1 : y > 1
          · rw [if_pos h1] at h; exact absurd h (by decide)
          · omega
        refine ⟨.inr (.inl ⟨rfl, hy1, rfl⟩), rfl, by omega, ?_⟩
        have hd : dataOf ⟨1, y, ⟨#[]⟩⟩ = [y] := by unfold dataOf; rcases hy1 with rfl | rfl <;> rfl
        rw [hd]
        rfl
      · have e3 := takeE_no xs 1 (by omega)
        have e1 := takeY_no xs 1 (by omega)
        rw [show ((1 : Nat) : Int) = 1 from rfl] at e1 e3
        rw [e1, e3] at h
        exact absurd h (by decide)
    · rw [valR_2] at h ⊢
      dsimp only at h ⊢
      have hl : 8 ≤ xs.length := takeE_zero (n := 8) h
      have e2 := takeX_ok xs 8 hl
      rw [show ((8 : Nat) : Int) = 8 from rfl] at e2
      refine ⟨.inr (.inr (.inl ⟨rfl, rfl⟩)), rfl, by omega, ?_⟩
      have hd : dataOf ⟨2, numN xs 0, ⟨#[]⟩⟩ = (List.range 8).map (at8 (numN xs 0)) := rfl
      rw [hd, numN_ok xs hl hx, num_forth8 (xs.take 8) (by rw [List.length_take]; omega) (fun x hm => hx x (List.mem_of_mem_take hm)), e2, List.take_append_drop]
    · rw [valR_3] at h ⊢
      dsimp only at h ⊢
      have hc : (numN xs 0 != canonI (numN xs 0)) = false := by
        cases hb : (numN xs 0 != canonI (numN xs 0))
        · rfl
        · rw [hb, if_pos rfl] at h
          exfalso
          unfold failE at h
          split at h
          · omega
          · omega
      rw [hc, if_neg (by decide)] at h
      have hl : 8 ≤ xs.length := takeE_zero (n := 8) h
      have e2 := takeX_ok xs 8 hl
      rw [show ((8 : Nat) : Int) = 8 from rfl] at e2
      refine ⟨.inr (.inr (.inr (.inl ⟨rfl, by simpa using hc, rfl⟩))), rfl, by omega, ?_⟩
      have hd : dataOf ⟨3, numN xs 0, ⟨#[]⟩⟩ = (List.range 8).map (at8 (numN xs 0)) := rfl
      rw [hd, numN_ok xs hl hx, num_forth8 (xs.take 8) (by rw [List.length_take]; omega) (fun x hm => hx x (List.mem_of_mem_take hm)), e2, List.take_append_drop]
    · rw [valR_4] at h ⊢
      dsimp only at h ⊢
      by_cases hl : 1 ≤ xs.length
      · obtain ⟨y, ys, rfl⟩ : ∃ y ys, xs = y :: ys := by
          cases xs with
          | nil => simp at hl
          | cons y ys => exact ⟨y, ys, rfl⟩
        have hy := hx y (List.mem_cons_self ..)
        obtain ⟨n, rfl⟩ : ∃ n : Nat, y = (n : Int) := ⟨y.toNat, by omega⟩
        have e1 := takeY_ok ((n : Int) :: ys) 1 hl
        have e2 := takeX_ok ((n : Int) :: ys) 1 hl
        have e3 := takeE_ok ((n : Int) :: ys) 1 hl
        rw [show ((1 : Nat) : Int) = 1 from rfl] at e1 e2 e3
        have g0 : (((n : Int) :: ys).take 1).getD 0 0 = (n : Int) := rfl
        have g1 : ((n : Int) :: ys).drop 1 = ys := rfl
        unfold textE at h ⊢
        rw [e1, e2, e3, g0, g1] at h ⊢
        by_cases h2 : (n : Int) > 200
        · rw [if_pos h2] at h
          rw [takeE_keep (show failE 0 1 ≠ 0 by decide)] at h
          exact absurd h (by decide)
        · rw [if_neg h2] at h ⊢
          have hn : n ≤ ys.length := takeE_zero h
          have hys : ∀ x ∈ ys.take n, 0 ≤ x ∧ x < 256 := fun x hm => hx x (List.mem_cons_of_mem _ (List.mem_of_mem_take hm))
          have hsz : (strOfNums (ys.take n)).size = n := by rw [strOfNums_size, List.length_take]; omega
          rw [takeY_ok ys n hn, takeX_ok ys n hn]
          refine ⟨.inr (.inr (.inr (.inr ⟨rfl, rfl, by dsimp only; omega⟩))), rfl, by omega, ?_⟩
          have hd : dataOf ⟨4, 0, strOfNums (ys.take n)⟩ = (((strOfNums (ys.take n)).size : Nat) : Int) % 256 :: bytesOf (strOfNums (ys.take n)) := rfl
          rw [hd, hsz, bytes_of_str _ hys, List.cons_append, List.take_append_drop]
          congr 1
          omega
      · have e3 := takeE_no xs 1 (by omega)
        have e1 := takeY_no xs 1 (by omega)
        rw [show ((1 : Nat) : Int) = 1 from rfl] at e1 e3
        unfold textE at h
        rw [e1, e3] at h
        rw [if_neg (by decide), takeE_keep (show (3 : Int) ≠ 0 by decide)] at h
        exact absurd h (by decide)
theorem decGo_err (NL : List Int) : ∀ (cs : List S47) (i : Nat) (xs : List Int) (err : Int) (row : List S43), (decGo NL cs i xs err row).2 ≠ 0 → (decGo NL cs i xs err row).1 = []
  | [], i, xs, err, row => by
    unfold decGo
    generalize (if xs.length > 0 then failE err 4 else err) = E
    by_cases h : E ≠ 0
    · rw [if_pos h]; exact fun _ => rfl
    · rw [if_neg h]; exact fun h => absurd rfl h
  | c :: cs, i, xs, err, row => by
    unfold decGo
    have step : ∀ (E : Int) (ys : List Int) (v : S43), (if E ≠ 0 then (([] : List S43), E) else decGo NL cs (i + 1) ys E (row ++ [v])).2 ≠ 0 → (if E ≠ 0 then (([] : List S43), E) else decGo NL cs (i + 1) ys E (row ++ [v])).1 = [] := by
      intro E ys v
      by_cases h : E ≠ 0
      · rw [if_pos h]; exact fun _ => rfl
      · rw [if_neg h]; exact decGo_err NL cs _ _ _ _
    by_cases hb : bitC (NL.getD (i / 8) 0) i = true
    · rw [if_pos hb]; exact step _ _ _
    · rw [if_neg hb]; exact step _ _ _
theorem decGo_inv (NL : List Int) : ∀ (cs : List S47) (i : Nat) (xs : List Int) (row : List S43), (∀ x ∈ xs, 0 ≤ x ∧ x < 256) → (decGo NL cs i xs 0 row).2 = 0 →
    ∃ r, (decGo NL cs i xs 0 row).1 = row ++ r ∧ cs.length = r.length ∧ fitL cs r = 0 ∧ xs = r.flatMap dataOf ∧ ∀ (j : Nat) (h : j < r.length), bitC (NL.getD ((i + j) / 8) 0) (i + j) = !decide (r[j].f0 = 0)
  | [], i, xs, row, hx => by
    unfold decGo
    by_cases hl : xs.length > 0
    · rw [if_pos hl, if_pos (show failE 0 4 ≠ 0 by decide)]
      intro h; exact absurd h (by show failE 0 4 ≠ 0; decide)
    · rw [if_neg hl, if_neg (by decide)]
      intro _
      have : xs = [] := List.eq_nil_of_length_eq_zero (by omega)
      exact ⟨[], by simp, rfl, rfl, by rw [this]; rfl, fun j h => absurd h (by simp)⟩
  | c :: cs, i, xs, row, hx => by
    unfold decGo
    have join : ∀ (v : S43) (r : List S43), bitC (NL.getD (i / 8) 0) i = (!decide (v.f0 = 0)) → (∀ (j : Nat) (h : j < r.length), bitC (NL.getD ((i + 1 + j) / 8) 0) (i + 1 + j) = !decide (r[j].f0 = 0)) →
        ∀ (j : Nat) (h : j < (v :: r).length), bitC (NL.getD ((i + j) / 8) 0) (i + j) = !decide ((v :: r)[j].f0 = 0) := by
      intro v r hv hr j h
      cases j with
      | zero => simpa using hv
      | succ j =>
        have := hr j (by simpa using h)
        rw [List.getElem_cons_succ, show i + (j + 1) = i + 1 + j by omega]
        exact this
    by_cases hb : bitC (NL.getD (i / 8) 0) i = true
    · rw [if_pos hb]
      intro h
      by_cases he : (valR xs 0 c.f1).err ≠ 0
      · rw [if_pos he] at h; exact absurd h he
      · have he' : (valR xs 0 c.f1).err = 0 := by simpa using he
        rw [if_neg he, he'] at h ⊢
        obtain ⟨h1, h2, h3, h4⟩ := valR_inv xs c.f1 hx he'
        have hx' := bytes_val hx 0 c.f1
        obtain ⟨r, g1, g2, g3, g4, g5⟩ := decGo_inv NL cs (i + 1) _ _ hx' h
        refine ⟨(valR xs 0 c.f1).v :: r, by rw [g1]; simp, by simpa using g2, ?_, ?_, join _ r ?_ g5⟩
        · rw [fitL, if_pos ((chk_iff _).2 h1), if_neg (by rw [h2]; exact h3), if_pos h2, g3]
        · rw [List.flatMap_cons, ← g4]; exact h4
        · rw [hb, h2, decide_eq_false h3]; rfl
    · rw [if_neg hb]
      intro h
      have hbf : bitC (NL.getD (i / 8) 0) i = false := by simpa using hb
      cases hf : c.f2
      · rw [hf] at h
        simp only [Bool.false_eq_true, if_false, ne_eq, not_true_eq_false] at h ⊢
        obtain ⟨r, g1, g2, g3, g4, g5⟩ := decGo_inv NL cs (i + 1) _ _ hx h
        refine ⟨⟨0, 0, ⟨#[]⟩⟩ :: r, by rw [g1]; simp, by simpa using g2, ?_, ?_, join _ r ?_ g5⟩
        · rw [fitL, if_pos ((chk_iff _).2 (.inl ⟨rfl, rfl, rfl⟩)), if_pos rfl, hf, if_neg (by decide), g3]
        · rw [List.flatMap_cons, ← g4]; rfl
        · rw [hbf]; rfl
      · rw [hf] at h
        simp only [if_true] at h
        rw [if_pos (show failE 0 60 ≠ 0 by decide)] at h
        exact absurd h (by show failE 0 60 ≠ 0; decide)
/-- A byte is told by its bits. -/
theorem val_of_bits : ∀ (l : List Bool) (y : Nat), y < 2 ^ l.length → (∀ (j : Nat) (h : j < l.length), (y / 2 ^ j % 2 = 1) = (l[j] = true)) → val l = y
  | [], y, hy, _ => by
    rw [List.length_nil, Nat.pow_zero] at hy
    rw [val]; omega
  | b :: bs, y, hy, hb => by
    rw [List.length_cons, Nat.pow_succ] at hy
    have h0 := hb 0 (by simp)
    rw [Nat.pow_zero, Nat.div_one, List.getElem_cons_zero] at h0
    have ih := val_of_bits bs (y / 2) (by omega) (fun j h => by
      have := hb (j + 1) (by simpa using h)
      rw [List.getElem_cons_succ, Nat.pow_succ, Nat.mul_comm (2 ^ j) 2, ← Nat.div_div_eq_div_mul] at this
      exact this)
    rw [val, ih]
    cases b
    · simp only [Bool.false_eq_true, if_false, eq_iff_iff, iff_false] at h0 ⊢
      omega
    · simp only [if_true, eq_iff_iff, iff_true] at h0 ⊢
      omega
theorem bm_back (r : List S43) (m : Nat) (NL : List Int) (hm : m = (r.length + 7) / 8) (hl : NL.length = m) (hx : ∀ x ∈ NL, 0 ≤ x ∧ x < 256) (hp : padE NL r.length m 0 = 0)
    (hb : ∀ (j : Nat) (h : j < r.length), bitC (NL.getD (j / 8) 0) j = !decide (r[j].f0 = 0)) : bm (nf r) m r.length = NL := by
  apply List.ext_getElem
  · rw [bm_len, hl]
  · intro b h1 h2
    rw [bm_len] at h1
    rw [bm_at _ _ _ _ h1]
    have hy := hx _ (List.getElem_mem h2)
    obtain ⟨y, hy'⟩ : ∃ y : Nat, NL[b] = (y : Int) := ⟨NL[b].toNat, by omega⟩
    have hg : NL.getD b 0 = (y : Int) := by rw [List.getD_eq_getElem?_getD, List.getElem?_eq_getElem h2, ← hy']; rfl
    rw [hy'] at hy ⊢
    have hfl := chunk_flen r b
    congr 1
    apply val_of_bits
    · by_cases hfull : 8 ≤ r.length - 8 * b
      · rw [hfl, Nat.min_eq_left hfull]; omega
      · have hbm : b = m - 1 := by omega
        have h8 : r.length % 8 = r.length - 8 * b := by omega
        rw [hfl, Nat.min_eq_right (by omega), ← h8]
        unfold padE at hp
        rw [decide_eq_true (show (r.length : Int) % 8 > 0 by omega), Bool.true_and, ← List.getD_eq_getElem?_getD, ← hbm, hg] at hp
        by_cases hz : ((y : Int) / 2 ^ (r.length % 8) != 0) = true
        · rw [if_pos hz] at hp; exact absurd hp (by decide)
        · have hz' : (y : Int) / 2 ^ (r.length % 8) = 0 := by simpa using hz
          have hz2 : y / 2 ^ (r.length % 8) = 0 := by exact_mod_cast hz'
          exact Nat.lt_of_div_eq_zero (Nat.two_pow_pos _) hz2
    · intro j h
      have hj : 8 * b + j < r.length := by omega
      have := hb (8 * b + j) hj
      rw [show (8 * b + j) / 8 = b by omega, hg, bitC_eq _ _ (by omega) (by omega), show (8 * b + j) % 8 = j by omega, ← chunk_get r b j h hj] at this
      have hc : ((y : Nat) : Int) / 2 ^ j % 2 = ((y / 2 ^ j % 2 : Nat) : Int) := by push_cast; rfl
      rw [hc] at this
      rw [eq_iff_iff]
      obtain ⟨z, hz⟩ : ∃ z, y / 2 ^ j % 2 = z := ⟨_, rfl⟩
      have hz2 : z < 2 := by omega
      rw [hz] at this ⊢
      cases hq : (chunk (nf r) r.length b)[j]
      · rw [hq] at this
        have h0 : ((z : Nat) : Int) = 0 := of_decide_eq_true this
        exact ⟨fun h => absurd h (by omega), fun h => absurd h (by decide)⟩
      · rw [hq] at this
        have h0 : ¬ ((z : Nat) : Int) = 0 := of_decide_eq_false this
        exact ⟨fun _ => rfl, fun _ => by omega⟩
theorem BackPure (l0 : List S47) (l1 : List Int) (h0 : l0.length ≤ 4398046511104) (h1 : l1.length < 140737488355328) (hx : ∀ x ∈ l1, 0 ≤ x ∧ x < 256) : ∃ k, hasplaw06_RowsBack.f k l0 l1 = some true := by
  refine ⟨300 * l0.length + 100, ?_⟩
  unfold hasplaw06_RowsBack.f
  rw [speaks_eq _ (by omega), Option.bind_some, if_pos rfl, Option.bind_some, if_pos (by simpa using h1), List.nil_append, decF l0 l1 h0 hx, Option.bind_some]
  by_cases he : (decodeV l0 l1).2 = 0
  · rw [if_pos he]
    obtain ⟨m, hm⟩ : ∃ m, (l0.length + 7) / 8 = m := ⟨_, rfl⟩
    have hd : decodeV l0 l1 = decGo (takeY l1 0 m) l0 0 (takeX l1 0 m) (padE (takeY l1 0 m) l0.length m (takeE l1 0 m)) [] := by unfold decodeV; rw [hm]
    obtain ⟨E, hE⟩ : ∃ E, padE (takeY l1 0 m) l0.length m (takeE l1 0 m) = E := ⟨_, rfl⟩
    rw [hE] at hd
    have hE0 : E = 0 := by
      by_cases h : E = 0
      · exact h
      · rw [hd, decGo_keep _ h] at he; exact absurd he h
    rw [hE0] at hd hE
    have hml : m ≤ l1.length := by
      by_cases h : m ≤ l1.length
      · exact h
      · rw [takeE_no l1 m (by omega)] at hE
        unfold padE failE at hE
        split at hE <;> simp at hE
    rw [takeE_ok l1 m hml, takeY_ok l1 m hml] at hE
    rw [takeY_ok l1 m hml, takeX_ok l1 m hml] at hd
    rw [hd] at he ⊢
    obtain ⟨r, g1, g2, g3, g4, g5⟩ := decGo_inv (l1.take m) l0 0 (l1.drop m) [] (fun x h => hx x (List.mem_of_mem_drop h)) he
    rw [List.nil_append] at g1
    rw [g1]
    have hb := bm_back r m (l1.take m) (by rw [← g2]; exact hm.symm) (by rw [List.length_take]; omega) (fun x h => hx x (List.mem_of_mem_take h)) (by rw [← g2]; exact hE) (fun j h => by
      have := g5 j h
      rwa [Nat.zero_add] at this)
    have hrow : rowBytes r = l1 := by
      unfold rowBytes
      rw [← g2, hm, g2, hb, ← g4, List.take_append_drop]
    have hfit : fitE l0 r = 0 := by unfold fitE; rw [if_pos g2]; exact g3
    rw [encV l0 r _ (by omega) (by omega) (fun _ => by rw [hrow]; exact h1), Option.bind_some, if_pos hfit]
    dsimp only
    rw [if_pos rfl, hrow]
    simp
  · rw [if_neg he]
    have : (decodeV l0 l1).1 = [] := by unfold decodeV at he ⊢; exact decGo_err _ _ _ _ _ _ he
    rw [this]
    rfl
end Go.Proofs.Ytnjobnkkpfaigaa
