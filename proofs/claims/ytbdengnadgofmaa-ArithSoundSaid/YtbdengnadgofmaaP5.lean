/- What Type says holds of Do: the plain law of layer 3, fifth part. -/
import Derived.Test.YtbdengnadgofmaaP4
namespace Go.Proofs.Ytbdengnadgofmaa
open Go.RowKit Go.Proofs.YtbdengnadgofmaaW.PrintWords V Fl
set_option linter.unusedSimpArgs false
set_option linter.unusedVariables false

def chk (k n : Int) (s : ByteArray) : Int :=
  if k < 0 ∨ k > 4 then 50 else if (k = 0 ∨ k = 4) ∧ n ≠ 0 then 2 else if k = 1 ∧ (n < 0 ∨ n > 1) then 2
  else if k = 3 ∧ nanB (ub n) = true ∧ n ≠ 9221120237041090560 then 2 else if k < 4 ∧ (s.size : Int) > 0 then 2 else if (s.size : Int) > 200 then 1 else 0
theorem check_eq (g : Nat) (k n : Int) (s : ByteArray) : haspref02_Check.f (g + 10) k n s = some (chk k n s) := by
  unfold haspref02_Check.f chk
  simp only [haspref02_Check.j0, haspref02_Check.j1, haspref02_Check.j2, haspref02_Check.j3, haspref02_Check.j4, haspref01_IsNaN.f, Option.bind_some]
  have hk : k < 0 ∨ k = 0 ∨ k = 1 ∨ k = 2 ∨ k = 3 ∨ k = 4 ∨ 4 < k := by omega
  rcases hk with h | rfl | rfl | rfl | rfl | rfl | h
  · rw [if_pos h, if_pos trivial, if_pos (Or.inl h)]
  · by_cases hn : n = 0 <;> by_cases hs : 0 < s.size <;> by_cases hz : 200 < s.size <;> (simp [hn, hs, hz]; try (split <;> first | rfl | omega))
  · by_cases h1 : n < 0
    · (simp [h1]; try (split <;> first | rfl | omega))
    · by_cases h2 : n > 1
      · (simp [h1, h2]; try (split <;> first | rfl | omega))
      · by_cases hs : 0 < s.size <;> by_cases hz : 200 < s.size <;> (simp [h1, h2, hs, hz]; try (split <;> first | rfl | omega))
  · by_cases hs : 0 < s.size <;> by_cases hz : 200 < s.size <;> (simp [hs, hz]; try (split <;> first | rfl | omega))
  · by_cases hn : nanB (ub n) = true
    · by_cases h9 : n = 9221120237041090560
      · by_cases hs : 0 < s.size <;> by_cases hz : 200 < s.size <;> (simp [hn, h9, hs, hz]; try (split <;> first | rfl | omega))
      · (simp [hn, h9]; try (split <;> first | rfl | omega))
    · by_cases hs : 0 < s.size <;> by_cases hz : 200 < s.size <;> (simp [hn, hs, hz]; try (split <;> first | rfl | omega))
  · by_cases hn : n = 0 <;> by_cases hz : 200 < s.size <;> (simp [hn, hz]; try (split <;> first | rfl | omega))
  · rw [if_neg (by omega)]
    have e : decide (k > 4) = true := by simp; omega
    rw [e, if_pos rfl, if_pos (Or.inr h)]
def chkV (v : S25) : Int := chk v.f0 v.f1 v.f2
theorem chk_size {v : S25} (h : chkV v = 0) : v.f2.size ≤ 200 := by
  unfold chkV chk at h
  repeat' split at h
  all_goals first | (exfalso; revert h; decide) | omega
theorem rdS_at (l : List S25) (i : Nat) (h : i < l.length) : rd_T25 l (i : Int) = l[i] := by simp [rd_T25, List.getD, h]
theorem w64n (i : Nat) (h : i < 4398046511105) : wrap64 ((i : Int) + 1) = ((i + 1 : Nat) : Int) := by simp only [wrap64]; omega
theorem copy_at : ∀ (m : Nat) (l : List S25) (i g : Nat), l.length - i ≤ m → i ≤ l.length → l.length ≤ 4398046511104 → haspref02_CopyRow.l0 (m + g + 1) l (l.take i) i = some l := by
  intro m
  induction m with
  | zero =>
    intro l i g hm hi hl
    have : i = l.length := by omega
    subst this
    rw [haspref02_CopyRow.l0, if_neg (by omega), List.take_length]
  | succ m ih =>
    intro l i g hm hi hl
    rw [show m + 1 + g + 1 = (m + g + 1) + 1 by omega, haspref02_CopyRow.l0]
    by_cases h : i < l.length
    · rw [if_pos (by omega), if_pos (by omega), if_pos (by rw [List.length_take]; omega), rdS_at l i h, w64n i (by omega)]
      have e : l.take i ++ [(⟨l[i].f0, l[i].f1, l[i].f2⟩ : S25)] = l.take (i + 1) := by rw [List.take_succ_eq_append_getElem h]
      rw [e]
      exact ih l (i + 1) g (by omega) (by omega) hl
    · have : i = l.length := by omega
      subst this
      rw [if_neg (by omega), List.take_length]
theorem copy_eq (l : List S25) (k : Nat) (hk : l.length + 1 ≤ k) (hl : l.length ≤ 4398046511104) : haspref02_CopyRow.f k l = some l := by
  have h := copy_at l.length l 0 (k - l.length - 1) (by omega) (by omega) hl
  rw [show l.length + (k - l.length - 1) + 1 = k by omega] at h
  exact h
def tyR (op : Int) (l : List Int) : Int × Bool :=
  match l with
  | [x] => if opN op = 1 then tyV op x else (0, false)
  | [x, y] => if opN op = 2 then two op x y else (0, false)
  | _ => (0, false)
theorem isOp_of (op : Int) (h : opN op ≠ 0) : isOp op := by unfold isOp; unfold opN at h; repeat' split at h; all_goals omega
theorem opN_cases (op : Int) : opN op = 0 ∨ opN op = 1 ∨ opN op = 2 := by
  unfold opN
  split
  · exact Or.inr (Or.inr rfl)
  · split
    · exact Or.inr (Or.inl rfl)
    · exact Or.inl rfl
theorem ty_eq (op : Int) (l : List Int) : arith_Type.f 19 op l = some (tyR op l) := by
  unfold arith_Type.f
  rw [opers 18]
  simp only [Option.bind_some]
  by_cases h0 : opN op = 0
  · rw [if_pos h0, arith_Type.j0, if_pos rfl]
    unfold tyR; split <;> simp [h0]
  · rw [if_neg h0]
    by_cases hl : opN op = (l.length : Int)
    · have hb : (opN op != (l.length : Int)) = false := by simp [hl]
      rw [hb]
      have hop := isOp_of op h0
      have hn := opN_cases op
      match l, hl with
      | [], hl => simp at hl; omega
      | [x], hl => rw [arith_Type.j0, if_neg (by simp)]; simp at hl; unfold tyR; dsimp only; rw [if_pos hl]; exact type1 op x hop
      | [x, y], hl => rw [arith_Type.j0, if_neg (by simp)]; simp at hl; unfold tyR; dsimp only; rw [if_pos hl]; exact type2 op x y hop
      | _ :: _ :: _ :: _, hl => simp at hl; omega
    · have hb : (opN op != (l.length : Int)) = true := by simp [hl]
      rw [hb, arith_Type.j0, if_pos rfl]
      unfold tyR
      match l, hl with
      | [], _ => rfl
      | [x], hl => simp at hl; dsimp only; rw [if_neg hl]
      | [x, y], hl => simp at hl; dsimp only; rw [if_neg hl]
      | _ :: _ :: _ :: _, _ => rfl
theorem type_k (k : Nat) (hk : 19 ≤ k) (op : Int) (l : List Int) : arith_Type.f k op l = some (tyR op l) := by
  induction k with
  | zero => omega
  | succ k ih =>
    by_cases e : k + 1 = 19
    · rw [e]; exact ty_eq op l
    · exact arith_Type.mono _ _ _ _ (ih (by omega))
def doA (op : Int) (l : List S25) : Int × Int × ByteArray × Int :=
  match l with
  | [a] => if opN op = 1 then doR op a a else (0, 0, E0, 30)
  | [a, b] => if opN op = 2 then doR op a b else (0, 0, E0, 30)
  | _ => (0, 0, E0, 30)
theorem do_eq (g : Nat) (op : Int) (l : List S25) (hs : ∀ v ∈ l, v.f2.size ≤ 200) : arith_Do.f (g + 19) op l = some (doA op l) := by
  unfold arith_Do.f
  rw [opers (g + 18)]
  simp only [Option.bind_some]
  by_cases h0 : opN op = 0
  · rw [if_pos h0, arith_Do.j0, if_pos rfl]
    unfold doA; split <;> simp [h0]
  · rw [if_neg h0]
    by_cases hl : opN op = (l.length : Int)
    · have hb : (opN op != (l.length : Int)) = false := by simp [hl]
      rw [hb]
      have hop := isOp_of op h0
      have hn := opN_cases op
      match l, hl, hs with
      | [], hl, _ => simp at hl; omega
      | [a], hl, hs =>
        have ha := hs a (by simp)
        unfold doA; simp at hl; dsimp only; rw [if_pos hl]
        exact do_at (g + 9) op [a] a a hop (by simp) (by simp) rfl rfl (by omega)
      | [a, b], hl, hs =>
        have ha := hs a (by simp)
        have hb := hs b (by simp)
        unfold doA; simp at hl; dsimp only; rw [if_pos hl]
        exact do_at (g + 9) op [a, b] a b hop (by simp) (by simp) rfl rfl (by omega)
      | _ :: _ :: _ :: _, hl, _ => simp at hl; omega
    · have hb : (opN op != (l.length : Int)) = true := by simp [hl]
      rw [hb, arith_Do.j0, if_pos rfl]
      unfold doA
      match l, hl with
      | [], _ => rfl
      | [x], hl => simp at hl; dsimp only; rw [if_neg hl]
      | [x, y], hl => simp at hl; dsimp only; rw [if_neg hl]
      | _ :: _ :: _ :: _, _ => rfl
theorem whA_err (op a b : Int) : (whA op a b).2 ≠ 30 := by
  unfold whA
  simp only [apply_ite Prod.snd]
  repeat' split
  all_goals decide
theorem numA_err (op k a b : Int) : (numA op k a b).2 ≠ 30 := by
  unfold numA
  repeat' split
  all_goals first | exact whA_err _ _ _ | (simp [toIe]; done) | (simp only [toIe]; split <;> decide)
theorem fin_err (t : Int) (p : Int × Int) (h : p.2 ≠ 30) : (fin t p).2.2.2 ≠ 30 ∧ ((fin t p).2.2.2 ≠ 0 ∨ (fin t p).1 = t) := by
  unfold fin
  split
  · exact ⟨by simp, Or.inr rfl⟩
  · rename_i e; exact ⟨h, Or.inl e⟩
theorem doR_null (op : Int) (a b : S25) (h : a.f0 = 0 ∨ b.f0 = 0) : doR op a b = (0, 0, E0, 0) := by unfold doR; rw [if_pos h]
theorem doR_typed (op : Int) (a b : S25) (a0 : ¬ (a.f0 = 0 ∨ b.f0 = 0)) (ab : a.f0 = b.f0) (t : ansV op a.f0 ≠ 0) :
    (doR op a b).2.2.2 ≠ 30 ∧ ((doR op a b).2.2.2 ≠ 0 ∨ (doR op a b).1 = ansV op a.f0) := by
  unfold doR
  rw [if_neg a0, if_neg (by simp [ab]; rw [← ab]; exact t)]
  by_cases h12 : op = 12
  · rw [if_pos h12]
    subst h12
    rw [ans12 _ t]
    split
    · exact ⟨by simp, Or.inl (by simp)⟩
    · exact ⟨by simp, Or.inr rfl⟩
  · rw [if_neg h12]
    exact fin_err _ _ (numA_err _ _ _ _)
def endOk (t : Int × Bool) (r : Int × Int × ByteArray × Int) : Prop := t.2 = true → r.2.2.2 ≠ 30 ∧ (r.2.2.2 ≠ 0 ∨ r.1 = 0 ∨ r.1 = t.1)
theorem sound_do (op : Int) (l : List S25) : endOk (tyR op (l.map S25.f0)) (doA op l) := by
  unfold endOk
  match l with
  | [] => intro h; simp [tyR] at h
  | [a] =>
    unfold doA
    simp only [List.map, tyR]
    split
    · intro h
      by_cases a0 : a.f0 = 0
      · rw [doR_null op a a (Or.inl a0)]; simp
      · unfold tyV at h ⊢
        rw [if_neg a0] at h ⊢
        have := doR_typed op a a (by simp [a0]) rfl (by simpa using h)
        exact ⟨this.1, this.2.imp id Or.inr⟩
    · intro h; simp at h
  | [a, b] =>
    unfold doA
    simp only [List.map, tyR]
    split
    · intro h
      by_cases a0 : a.f0 = 0
      · rw [doR_null op a b (Or.inl a0)]; simp
      · by_cases b0 : b.f0 = 0
        · rw [doR_null op a b (Or.inr b0)]; simp
        · unfold two at h ⊢
          rw [if_neg a0, if_neg b0] at h ⊢
          by_cases ab : a.f0 = b.f0
          · rw [if_pos ab] at h ⊢
            unfold tyV at h ⊢
            rw [if_neg a0] at h ⊢
            have := doR_typed op a b (by simp [a0, b0]) ab (by simpa using h)
            exact ⟨this.1, this.2.imp id Or.inr⟩
          · rw [if_neg ab] at h; simp at h
    · intro h; simp at h
  | _ :: _ :: _ :: _ => intro h; simp [tyR] at h
theorem sound_at (op : Int) (l : List S25) (hl : l.length ≤ 4398046511104) : ∀ (m i g : Nat), l.length - i ≤ m → i ≤ l.length → (∀ v ∈ l.take i, chkV v = 0) →
    hasplaw03_ArithSound.l0 (m + g + l.length + 21) op l ((l.take i).map S25.f0) l (l.length : Int) (i : Int) = some true := by
  intro m
  induction m with
  | zero =>
    intro i g hm hi hc
    have : i = l.length := by omega
    subst this
    rw [List.take_length] at hc ⊢
    rw [show 0 + g + l.length + 21 = (g + l.length + 20) + 1 by omega, hasplaw03_ArithSound.l0, if_neg (by omega), type_k _ (by omega), copy_eq _ _ (by omega) hl]
    simp only [Option.bind_some]
    rw [show g + l.length + 20 = (g + l.length + 1) + 19 by omega, do_eq _ _ _ (fun v hv => chk_size (hc v hv))]
    have hs := sound_do op l
    unfold endOk at hs
    simp only [Option.bind_some]
    by_cases t : (tyR op (l.map S25.f0)).2 = true
    · rw [if_pos t]
      obtain ⟨h1, h2⟩ := hs t
      rw [if_neg h1]
      split
      · split
        · rfl
        · rename_i e0 e1
          rcases h2 with h2 | h2 | h2
          · exact absurd e0 h2
          · exact absurd h2 e1
          · simp [h2]
      · rfl
    · rw [if_neg t]
  | succ m ih =>
    intro i g hm hi hc
    rw [show m + 1 + g + l.length + 21 = (m + g + l.length + 21) + 1 by omega, hasplaw03_ArithSound.l0]
    by_cases h : i < l.length
    · rw [if_pos (by omega), if_pos (by omega), if_pos (by omega), rdS_at l i h, show m + g + l.length + 21 = (m + g + l.length + 11) + 10 by omega, check_eq, Option.bind_some]
      show (if chkV l[i] = 0 then _ else _) = _
      by_cases h0 : chkV l[i] = 0
      · rw [if_pos h0, if_pos (by rw [List.length_map, List.length_take]; omega), w64n i (by omega)]
        have e : (l.take i).map S25.f0 ++ [l[i].f0] = (l.take (i + 1)).map S25.f0 := by rw [List.take_succ_eq_append_getElem h, List.map_append]; rfl
        rw [e]
        exact ih (i + 1) g (by omega) (by omega) (by
          intro v hv
          rw [List.take_succ_eq_append_getElem h] at hv
          rcases List.mem_append.1 hv with hv | hv
          · exact hc v hv
          · simp at hv; rw [hv]; exact h0)
      · rw [if_neg h0]
    · have hi' : i = l.length := by omega
      have := ih i (g + 1) (by omega) hi hc
      rw [show m + (g + 1) + l.length + 21 = m + g + l.length + 21 + 1 by omega, hasplaw03_ArithSound.l0] at this
      exact this
theorem SoundPure (op : Int) (l : List S25) (hl : l.length * 32 ≤ 140737488351232) : ∃ k, hasplaw03_ArithSound.f k op l = some true := by
  refine ⟨l.length + 0 + l.length + 21, ?_⟩
  unfold hasplaw03_ArithSound.f hasplaw03_speaks.f
  simp only [Option.bind_some, if_true]
  exact sound_at op l (by omega) l.length 0 0 (by omega) (by omega) (by simp)
end Go.Proofs.Ytbdengnadgofmaa
