import Derived.Test.YtbdengnadgofmaaZdP4
/- What Type says holds of Do: the plain law of layer 3, fifth part. -/
namespace Go.Proofs.Ytbdengnadgofmaa
open Go.RowKit Go.Proofs.YtbdengnadgofmaaW.PrintWords V Fl
set_option linter.unusedSimpArgs false
set_option linter.unusedVariables false
def chk (k n : Int) (s : ByteArray) : Int :=
  if k < 0 ∨ k > 4 then 50 else if (k = 0 ∨ k = 4) ∧ n ≠ 0 then 2 else if k = 1 ∧ (n < 0 ∨ n > 1) then 2
  else if k = 3 ∧ nanB (ub n) = true ∧ n ≠ 9221120237041090560 then 2 else if k < 4 ∧ (s.size : Int) > 0 then 2 else if (s.size : Int) > 200 then 1 else 0
theorem check_eq (g : Nat) (k n : Int) (s : ByteArray) : haspref02_Check.f (g + 10) k n s = some (chk k n s) := by
  unfold haspref02_Check.f chk
  simp only [haspref02_Check.j0, haspref02_Check.j1, haspref02_Check.j2, haspref02_Check.j3, haspref02_Check.j4, haspref01_IsNaN.f, Option.bind_some]
  have hk : k < 0 ∨ k = 0 ∨ k = 1 ∨ k = 2 ∨ k = 3 ∨ k = 4 ∨ 4 < k := by omega
  rcases hk with h | rfl | rfl | rfl | rfl | rfl | h
  · rw [if_pos h, if_pos trivial, if_pos (Or.inl h)]
  · by_cases hn : n = 0 <;> by_cases hs : 0 < s.size <;> by_cases hz : 200 < s.size <;> (simp [hn, hs, hz]; try (split <;> first | rfl | omega))
  · by_cases h1 : n < 0
    · (simp [h1]; try (split <;> first | rfl | omega))
    · by_cases h2 : n > 1
      · (simp [h1, h2]; try (split <;> first | rfl | omega))
      · by_cases hs : 0 < s.size <;> by_cases hz : 200 < s.size <;> (simp [h1, h2, hs, hz]; try (split <;> first | rfl | omega))
  · by_cases hs : 0 < s.size <;> by_cases hz : 200 < s.size <;> (simp [hs, hz]; try (split <;> first | rfl | omega))
  · by_cases hn : nanB (ub n) = true
    · by_cases h9 : n = 9221120237041090560
      · by_cases hs : 0 < s.size <;> by_cases hz : 200 < s.size <;> (simp [hn, h9, hs, hz]; try (split <;> first | rfl | omega))
      · (simp [hn, h9]; try (split <;> first | rfl | omega))
    · by_cases hs : 0 < s.size <;> by_cases hz : 200 < s.size <;> (simp [hn, hs, hz]; try (split <;> first | rfl | omega))
  · by_cases hn : n = 0 <;> by_cases hz : 200 < s.size <;> (simp [hn, hz]; try (split <;> first | rfl | omega))
  · rw [if_neg (by omega)]
    have e : decide (k > 4) = true := by simp; omega
    rw [e, if_pos rfl, if_pos (Or.inr h)]
def chkV (v : S25) : Int := chk v.f0 v.f1 v.f2
theorem chk_size {v : S25} (h : chkV v = 0) : v.f2.size ≤ 200 := by
  unfold chkV chk at h
  repeat' split at h
  all_goals first | (exfalso; revert h; decide) | omega
theorem rdS_at (l : List S25) (i : Nat) (h : i < l.length) : rd_T25 l (i : Int) = l[i] := by simp [rd_T25, List.getD, h]
theorem w64n (i : Nat) (h : i < 4398046511105) : wrap64 ((i : Int) + 1) = ((i + 1 : Nat) : Int) := by simp only [wrap64]; omega
theorem copy_at : ∀ (m : Nat) (l : List S25) (i g : Nat), l.length - i ≤ m → i ≤ l.length → l.length ≤ 4398046511104 → haspref02_CopyRow.l0 (m + g + 1) l (l.take i) i = some l := by
  intro m
  induction m with
  | zero =>
    intro l i g hm hi hl
    have : i = l.length := by omega
    subst this
    rw [haspref02_CopyRow.l0, if_neg (by omega), List.take_length]
  | succ m ih =>
    intro l i g hm hi hl
    rw [show m + 1 + g + 1 = (m + g + 1) + 1 by omega, haspref02_CopyRow.l0]
    by_cases h : i < l.length
    · rw [if_pos (by omega), if_pos (by omega), if_pos (by rw [List.length_take]; omega), rdS_at l i h, w64n i (by omega)]
      have e : l.take i ++ [(⟨l[i].f0, l[i].f1, l[i].f2⟩ : S25)] = l.take (i + 1) := by rw [List.take_succ_eq_append_getElem h]
      rw [e]
      exact ih l (i + 1) g (by omega) (by omega) hl
    · have : i = l.length := by omega
      subst this
      rw [if_neg (by omega), List.take_length]
theorem copy_eq (l : List S25) (k : Nat) (hk : l.length + 1 ≤ k) (hl : l.length ≤ 4398046511104) : haspref02_CopyRow.f k l = some l := by
  have h := copy_at l.length l 0 (k - l.length - 1) (by omega) (by omega) hl
  rw [show l.length + (k - l.length - 1) + 1 = k by omega] at h
  exact h
theorem isOp_of (op : Int) (h : opN op ≠ 0) : isOp op := by unfold isOp; unfold opN at h; repeat' split at h; all_goals omega
theorem opN_cases (op : Int) : opN op = 0 ∨ opN op = 1 ∨ opN op = 2 := by
  unfold opN
  split
  · exact Or.inr (Or.inr rfl)
  · split
    · exact Or.inr (Or.inl rfl)
    · exact Or.inl rfl
def doA (op : Int) (l : List S25) : Int × Int × ByteArray × Int :=
  match l with
  | [a] => if opN op = 1 then doR op a a else (0, 0, E0, 30)
  | [a, b] => if opN op = 2 then doR op a b else (0, 0, E0, 30)
  | _ => (0, 0, E0, 30)
theorem do_eq (g : Nat) (op : Int) (l : List S25) (hs : ∀ v ∈ l, v.f2.size ≤ 200) : arith_Do.f (g + 19) op l = some (doA op l) := by
  unfold arith_Do.f
  rw [opers (g + 18)]
  simp only [Option.bind_some]
  by_cases h0 : opN op = 0
  · rw [if_pos h0, arith_Do.j0, if_pos rfl]
    unfold doA; split <;> simp [h0]
  · rw [if_neg h0]
    by_cases hl : opN op = (l.length : Int)
    · have hb : (opN op != (l.length : Int)) = false := by simp [hl]
      rw [hb]
      have hop := isOp_of op h0
      have hn := opN_cases op
      match l, hl, hs with
      | [], hl, _ => simp at hl; omega
      | [a], hl, hs =>
        have ha := hs a (by simp)
        unfold doA; simp at hl; dsimp only; rw [if_pos hl]
        exact do_at (g + 9) op [a] a a hop (by simp) (by simp) rfl rfl (by omega)
      | [a, b], hl, hs =>
        have ha := hs a (by simp)
        have hb := hs b (by simp)
        unfold doA; simp at hl; dsimp only; rw [if_pos hl]
        exact do_at (g + 9) op [a, b] a b hop (by simp) (by simp) rfl rfl (by omega)
      | _ :: _ :: _ :: _, hl, _ => simp at hl; omega
    · have hb : (opN op != (l.length : Int)) = true := by simp [hl]
      rw [hb, arith_Do.j0, if_pos rfl]
      unfold doA
      match l, hl with
      | [], _ => rfl
      | [x], hl => simp at hl; dsimp only; rw [if_neg hl]
      | [x, y], hl => simp at hl; dsimp only; rw [if_neg hl]
      | _ :: _ :: _ :: _, _ => rfl
end Go.Proofs.Ytbdengnadgofmaa
