import Derived.Test.YtfnmploaklboiaaZsP8
/- Layer 22: the plain law, tenth part: the program's changes is the document's. -/
namespace Go.Proofs.Ytfnmploaklboiaa
open Go.RowKit Go.Proofs.YtfnmploaklboiaaW.PrintWords V A
set_option linter.unusedSimpArgs false
set_option linter.unusedVariables false
def quietB (x : S33) : Bool := !(anyC x.f0)
theorem goC_two (t : ByteArray) (l : List S33) (ht : ¬ t.toList = []) : ∀ (r : List S33) (g a p e : Int) (i : Nat), 1 < g → goC t l r g a p e i = false
  | [], g, a, p, e, i, h => by rw [goC, if_neg ht, beq_eq_false_iff_ne.2 (by omega)]; rfl
  | x :: r, g, a, p, e, i, h => by
    rw [goC, goC_two t l ht r (g + 1) a i e (i + 1) (by omega), goC_two t l ht r g (a + 1) p e (i + 1) h, goC_two t l ht r g a p (e + 1) (i + 1) h, goC_two t l ht r g a p e (i + 1) h]
    simp
theorem empt (t : ByteArray) (ht : ¬ t.toList = []) : t.toList.isEmpty = false := by
  cases hh : t.toList with
  | nil => exact absurd hh ht
  | cons _ _ => rfl
/-- Behind guard and apply, or where the apply is missed. -/
theorem goC_behind (t : ByteArray) (l : List S33) (ht : ¬ t.toList = []) : ∀ (r : List S33) (a p e : Int) (i : Nat), p < (i : Int) - 1 → goC t l r 1 a p e i = (r.all quietB && (a == 1 && (cov (modeF l t) 2 && tailB t l e)))
  | [], a, p, e, i, h => by rw [goC, if_neg ht]; rfl
  | x :: r, a, p, e, i, h => by
    have ih := goC_behind t l ht r a p e (i + 1) (by omega)
    rw [goC, empt t ht, goC_two t l ht r (1 + 1) a i e (i + 1) (by omega), ih, beq_eq_false_iff_ne.2 (show p ≠ (i : Int) - 1 by omega), List.all_cons]
    unfold quietB anyC
    by_cases h9 : x.f0 = 9
    · rw [if_pos h9, h9]; rfl
    by_cases h10 : x.f0 = 10
    · rw [if_neg h9, if_pos h10, h10]; simp
    by_cases h6 : x.f0 = 6
    · rw [if_neg h9, if_neg h10, if_pos h6, h6]; rfl
    by_cases h7 : x.f0 = 7
    · rw [if_neg h9, if_neg h10, if_neg h6, if_pos h7, h7]; rfl
    rw [if_neg h9, if_neg h10, if_neg h6, if_neg h7, beq_eq_false_iff_ne.2 h9, beq_eq_false_iff_ne.2 h10, beq_eq_false_iff_ne.2 h6, beq_eq_false_iff_ne.2 h7]; rfl
def ph2 (t : ByteArray) (l : List S33) (e : Int) : List S33 → Bool
  | [] => false
  | x :: r => x.f0 == 10 && (r.all quietB && (cov (modeF l t) 2 && tailB t l e))
def ph1 (t : ByteArray) (l : List S33) : List S33 → Int → Bool
  | [], e => false
  | x :: r, e => if x.f0 = 9 then ph2 t l e r else if x.f0 = 10 then false else if x.f0 = 6 then ph1 t l r (e + 1) else ph1 t l r e
theorem goC_ph2 (t : ByteArray) (l : List S33) (ht : ¬ t.toList = []) (r : List S33) (e : Int) (i : Nat) : goC t l r 1 0 (i : Int) e (i + 1) = ph2 t l e r := by
  cases r with
  | nil => rw [goC, if_neg ht]; rfl
  | cons x r =>
    rw [goC, empt t ht, goC_two t l ht r (1 + 1) _ _ e _ (by omega), goC_behind t l ht r (0 + 1) i e (i + 1 + 1) (by omega), goC_behind t l ht r 0 i e (i + 1 + 1) (by omega), ph2]
    by_cases h9 : x.f0 = 9
    · rw [if_pos h9, h9]; rfl
    by_cases h10 : x.f0 = 10
    · rw [if_neg h9, if_pos h10, h10, beq_iff_eq.2 (show (i : Int) = ((i + 1 : Nat) : Int) - 1 by omega), decide_eq_true (p := (i : Int) ≥ 0) (by omega)]
      rfl
    by_cases h6 : x.f0 = 6
    · rw [if_neg h9, if_neg h10, if_pos h6, h6]; rfl
    by_cases h7 : x.f0 = 7
    · rw [if_neg h9, if_neg h10, if_neg h6, if_pos h7, h7]; rfl
    rw [if_neg h9, if_neg h10, if_neg h6, if_neg h7, beq_eq_false_iff_ne.2 h10]; simp
theorem goC_ph1 (t : ByteArray) (l : List S33) (ht : ¬ t.toList = []) : ∀ (r : List S33) (e : Int) (i : Nat), goC t l r 0 0 (-1) e i = ph1 t l r e
  | [], e, i => by rw [goC, if_neg ht]; rfl
  | x :: r, e, i => by
    rw [goC, empt t ht, show (0 : Int) + 1 = 1 from rfl, goC_ph2 t l ht r e i, goC_ph1 t l ht r (e + 1) (i + 1), goC_ph1 t l ht r e (i + 1), ph1]
    by_cases h9 : x.f0 = 9
    · rw [if_pos h9, if_pos h9]; rfl
    by_cases h10 : x.f0 = 10
    · rw [if_neg h9, if_pos h10, if_neg h9, if_pos h10]; rfl
    by_cases h6 : x.f0 = 6
    · rw [if_neg h9, if_neg h10, if_pos h6, if_neg h9, if_neg h10, if_pos h6]; rfl
    by_cases h7 : x.f0 = 7
    · rw [if_neg h9, if_neg h10, if_neg h6, if_pos h7, if_neg h9, if_neg h10, if_neg h6]; rfl
    rw [if_neg h9, if_neg h10, if_neg h6, if_neg h7, if_neg h9, if_neg h10, if_neg h6]; rfl
/-- What the program asks, of the rest r of a plan's code. -/
def chS (t : ByteArray) (l r : List S33) (e : Int) : Bool :=
  cntO [9] r == 1 && (cntO [10] r == 1 && ((rd_T33 r (gdI r + 1)).f0 == 10 && (!((r.drop (gdI r).toNat).any fun x => x.f0 == 6 || x.f0 == 7) && (cov (modeF l t) 2 && tailB t l (e + (cntO [6] r : Int))))))
theorem cntO_cons (n : Int) (x : S33) (r : List S33) : cntO [n] (x :: r) = cntO [n] r + if x.f0 = n then 1 else 0 := by
  unfold cntO
  rw [List.countP_cons]
  by_cases h : x.f0 = n <;> simp [h]
theorem cntO_zero (n : Int) (r : List S33) (h : cntO [n] r = 0) : ∀ x ∈ r, x.f0 ≠ n := by
  intro x hx e
  have := List.countP_eq_zero.1 h x hx
  simp [e] at this
theorem cntO_zero' (n : Int) (r : List S33) (h : ∀ x ∈ r, x.f0 ≠ n) : cntO [n] r = 0 := by
  refine List.countP_eq_zero.2 fun x hx => ?_
  simp [h x hx]
theorem idxA_next (p : S33 → Bool) : ∀ (r : List S33) (i : Nat), idxA p r i ≠ -1 → idxA p r (i + 1) = idxA p r i + 1
  | [], i, h => absurd rfl h
  | x :: r, i, h => by
    rw [idxA] at h ⊢
    rw [idxA]
    by_cases hp : p x = true
    · rw [if_pos hp, if_pos hp]; omega
    · rw [if_neg hp] at h
      rw [if_neg hp, if_neg hp]
      exact idxA_next p r (i + 1) h
theorem idxA_some (p : S33 → Bool) : ∀ (r : List S33) (i : Nat) (x : S33), x ∈ r → p x = true → idxA p r i ≠ -1
  | [], i, x, hx, _ => by cases hx
  | y :: r, i, x, hx, hp => by
    rw [idxA]
    by_cases hy : p y = true
    · rw [if_pos hy]; omega
    · rw [if_neg hy]
      rcases List.mem_cons.1 hx with rfl | hx
      · exact absurd hp hy
      · exact idxA_some p r (i + 1) x hx hp
theorem quiet_iff (r : List S33) : r.all quietB = true ↔ (cntO [9] r = 0 ∧ cntO [10] r = 0 ∧ ∀ x ∈ r, x.f0 ≠ 6 ∧ x.f0 ≠ 7) := by
  rw [List.all_eq_true]
  constructor
  · intro h
    refine ⟨cntO_zero' 9 r fun x hx => ?_, cntO_zero' 10 r fun x hx => ?_, fun x hx => ?_⟩ <;> (have := h x hx; unfold quietB anyC at this; simp at this; omega)
  · rintro ⟨a, b, c⟩ x hx
    have h9 := cntO_zero 9 r a x hx
    have h10 := cntO_zero 10 r b x hx
    have h67 := c x hx
    unfold quietB anyC
    simp [h9, h10, h67]
theorem chS_ph2 (t : ByteArray) (l : List S33) (x : S33) (hx : x.f0 = 9) (r : List S33) (e : Int) : chS t l (x :: r) e = ph2 t l e r := by
  have hg : gdI (x :: r) = 0 := by unfold gdI; rw [idxA, if_pos (by simp [hx])]; rfl
  unfold chS
  rw [hg, cntO_cons, cntO_cons, cntO_cons, if_pos hx, if_neg (by omega), if_neg (by omega)]
  cases r with
  | nil => rfl
  | cons y r =>
    rw [ph2]
    have er : rd_T33 (x :: y :: r) (0 + 1) = y := rfl
    rw [er]
    by_cases hy : y.f0 = 10
    · rw [cntO_cons, cntO_cons, cntO_cons, hy, if_neg (by decide), if_pos rfl, if_neg (by decide)]
      rw [Bool.eq_iff_iff]
      simp only [Bool.and_eq_true, quiet_iff]
      constructor
      · rintro ⟨a, b, c, d, f, g⟩
        have a' : cntO [9] r = 0 := by simpa using a
        have b' : cntO [10] r = 0 := by simpa using b
        have d' : ∀ z ∈ r, z.f0 ≠ 6 ∧ z.f0 ≠ 7 := by
          intro z hz
          simp at d
          exact d.2.2 z hz
        have z6 : cntO [6] r = 0 := cntO_zero' 6 r fun z hz => (d' z hz).1
        rw [z6] at g
        refine ⟨by decide, ⟨a', b', d'⟩, f, ?_⟩
        simpa using g
      · rintro ⟨-, ⟨a, b, d⟩, f, g⟩
        have z6 : cntO [6] r = 0 := cntO_zero' 6 r fun z hz => (d z hz).1
        rw [a, b, z6]
        refine ⟨by decide, by decide, by decide, ?_, f, by simpa using g⟩
        simp [hx, hy]
        exact d
    · rw [beq_eq_false_iff_ne.2 hy]; simp
theorem chS_ph1 (t : ByteArray) (l : List S33) : ∀ (r : List S33) (e : Int), chS t l r e = ph1 t l r e
  | [], e => rfl
  | x :: r, e => by
    rw [ph1]
    by_cases h9 : x.f0 = 9
    · rw [if_pos h9]; exact chS_ph2 t l x h9 r e
    rw [if_neg h9]
    by_cases hc : cntO [9] r = 1
    · obtain ⟨z, hz, hz9⟩ : ∃ z ∈ r, z.f0 = 9 := by
        apply Classical.byContradiction
        intro h
        have := cntO_zero' 9 r fun z hz q => h ⟨z, hz, q⟩
        omega
      have hne := idxA_some (fun x : S33 => x.f0 == 9) r 0 z hz (by simp [hz9])
      have hg : gdI (x :: r) = gdI r + 1 := by
        unfold gdI; rw [idxA, if_neg (by simp [h9])]; exact idxA_next _ r 0 hne
      have h0 : 0 ≤ gdI r := by
        rcases idxA_range (fun x : S33 => x.f0 == 9) r 0 with h | h
        · exact absurd h hne
        · exact h.1
      have e1 : rd_T33 (x :: r) (gdI r + 1 + 1) = rd_T33 r (gdI r + 1) := by
        unfold rd_T33
        rw [show (gdI r + 1 + 1).toNat = (gdI r + 1).toNat + 1 by omega, List.getD_cons_succ]
      have e2 : (x :: r).drop (gdI r + 1).toNat = r.drop (gdI r).toNat := by
        rw [show (gdI r + 1).toNat = (gdI r).toNat + 1 by omega, List.drop_succ_cons]
      by_cases h10 : x.f0 = 10
      · rw [if_pos h10]
        unfold chS
        rw [hg, e1, cntO_cons 10, if_pos h10]
        by_cases hk : (rd_T33 r (gdI r + 1)).f0 = 10
        · have : cntO [10] r ≠ 0 := by
            intro q
            have hz := cntO_zero 10 r q
            by_cases hl : (gdI r + 1).toNat < r.length
            · have em : rd_T33 r (gdI r + 1) = r[(gdI r + 1).toNat] := by simp [rd_T33, List.getD, hl]
              rw [em] at hk
              exact hz _ (List.getElem_mem hl) hk
            · have em : rd_T33 r (gdI r + 1) = z33 := by
                simp [rd_T33, List.getD, List.getElem?_eq_none (Nat.le_of_not_lt hl)]
              rw [em] at hk
              exact absurd hk (by decide)
          rw [beq_eq_false_iff_ne.2 (show cntO [10] r + 1 ≠ 1 by omega)]; simp
        · rw [beq_eq_false_iff_ne.2 hk]; simp
      · rw [if_neg h10]
        by_cases h6 : x.f0 = 6
        · rw [if_pos h6, ← chS_ph1 t l r (e + 1)]
          unfold chS
          rw [hg, e1, e2, cntO_cons, cntO_cons, cntO_cons, if_neg h9, if_neg h10, if_pos h6, show e + ((cntO [6] r + 1 : Nat) : Int) = e + 1 + (cntO [6] r : Int) by omega]
          rfl
        · rw [if_neg h6, ← chS_ph1 t l r e]
          unfold chS
          rw [hg, e1, e2, cntO_cons, cntO_cons, cntO_cons, if_neg h9, if_neg h10, if_neg h6]
          rfl
    · have hf : ∀ e, ph1 t l r e = false := fun e => by rw [← chS_ph1 t l r e]; unfold chS; rw [beq_eq_false_iff_ne.2 hc]; rfl
      rw [hf, hf]
      unfold chS
      rw [cntO_cons, if_neg h9, beq_eq_false_iff_ne.2 (show cntO [9] r + 0 ≠ 1 by omega)]
      simp
theorem goC_empty (t : ByteArray) (l : List S33) (ht : t.toList = []) : ∀ (r : List S33) (g a p e : Int) (i : Nat), goC t l r g a p e i = (cntO [6, 7, 9, 10] r == 0)
  | [], g, a, p, e, i => by rw [goC, if_pos ht]; rfl
  | x :: r, g, a, p, e, i => by
    rw [goC, goC_empty t l ht r, goC_empty t l ht r, goC_empty t l ht r, goC_empty t l ht r, ht]
    unfold cntO
    rw [List.countP_cons]
    unfold anyC
    by_cases h9 : x.f0 = 9
    · simp [h9]
    by_cases h10 : x.f0 = 10
    · simp [h10]
    by_cases h6 : x.f0 = 6
    · simp [h6]
    by_cases h7 : x.f0 = 7
    · simp [h7]
    simp [h9, h10, h6, h7]
/-- The cursor's table is told alike by the first and the last InOpen, where reads passes. -/
theorem last_tail (t : ByteArray) (l : List S33) (hr : readsB (modeF l) l = true) (n : Nat) : tailB t l (n : Int) = (n == 0 || lastB l t) := by
  have hA := rd_okF (modeF l) l (fun _ => none) (fun _ => none) (fun _ => .inl ⟨rfl, rfl⟩)
  unfold readsB at hr
  rw [Bool.and_eq_true, hA.1] at hr
  have ag := hA.2 hr.1 0
  rw [last_open, fst_find] at ag
  unfold tailB lastB
  have e0 : ((n : Int) == 0) = (n == 0) := by
    by_cases h : n = 0
    · rw [h]; rfl
    · rw [beq_eq_false_iff_ne.2 h, beq_eq_false_iff_ne.2 (show (n : Int) ≠ 0 by omega)]
  rw [e0]
  congr 1
  rcases ag with ⟨a, b⟩ | ⟨z, y, a, b, c, d⟩
  · rw [a, b]
  · rw [a, b]
    show (l.all wrB && (y.f5.toList == t.toList)) = ((z.f5.toList == t.toList) && !(l.any fun x => x.f0 == 3 && !(x.f1 != 0 || cov x.f4 5)))
    rw [c, Bool.and_comm, List.not_any_eq_all_not]
    rfl
theorem ch_eq (t : ByteArray) (l : List S33) (hr : readsB (modeF l) l = true) : goC t l l 0 0 (-1) 0 0 = chB (modeF l) t l := by
  unfold chB
  by_cases ht : t.toList = []
  · rw [if_pos ht, goC_empty t l ht]
  rw [if_neg ht, goC_ph1 t l ht, ← chS_ph1 t l l 0]
  unfold chS badG
  rw [Int.zero_add, last_tail t l hr]
  cases h1 : cntO [9] l == 1 with
  | false => simp [bne, h1]
  | true =>
    cases h2 : cntO [10] l == 1 with
    | false => simp [bne, h1, h2]
    | true =>
      cases h3 : (rd_T33 l (gdI l + 1)).f0 == 10 with
      | false => simp [bne, h1, h2, h3]
      | true =>
        cases h4 : cov (modeF l t) 2 with
        | false => simp [bne, h1, h2, h3]
        | true =>
          rw [if_neg (by simp [bne, h1, h2, h3])]
          cases h5 : (l.drop (gdI l).toNat).any fun x => x.f0 == 6 || x.f0 == 7 with
          | true => rfl
          | false =>
            rw [if_neg (by decide)]
            by_cases h6 : cntO [6] l = 0
            · rw [if_pos h6, h6]; rfl
            · rw [if_neg h6, beq_eq_false_iff_ne.2 h6]; rfl
end Go.Proofs.Ytfnmploaklboiaa
