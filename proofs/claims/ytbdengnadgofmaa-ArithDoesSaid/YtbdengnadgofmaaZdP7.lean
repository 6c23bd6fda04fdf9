import Derived.Test.YtbdengnadgofmaaZdP5
import Derived.Test.YtbdengnadgofmaaZdP6
import Derived.Test.YtbdengnadgofmaaZdVx12
/- Any operator on any right values: the program's answer is the document's, and is a right value: the plain law of layer 3, seventh part. -/
namespace Go.Proofs.Ytbdengnadgofmaa
open Go.RowKit Go.Proofs.YtbdengnadgofmaaW.PrintWords V Fl
set_option linter.unusedSimpArgs false
set_option linter.unusedVariables false
theorem rpoint_eq (op a b : Int) : haspref03_point.f op a b = some (ptA op a b) := by
  unfold haspref03_point.f ptA haspref01_Add.f haspref01_Sub.f haspref01_Mul.f haspref01_Div.f haspref01_Neg.f
  simp only [Option.bind_some]
  repeat' split
  all_goals rfl
def okV (v : S25) : Prop := i64 v.f1 ∧ chkV v = 0
theorem size_app (a b : ByteArray) : (a ++ b).size = a.size + b.size := ByteArray.size_append
theorem rdo_at (g : Nat) (op : Int) (l : List S25) (a b : S25) (hop : isOp op) (h0 : 0 < l.length) (hn : l.length < 3) (ha : rd_T25 l 0 = a) (hb : rd_T25 l ((l.length : Int) - 1) = b) (va : okV a) (vb : okV b) :
    haspref03_Do.j0 (g + 10) op l false 0 0 (⟨#[]⟩ : ByteArray) = some (doR op a b) := by
  have sa := chk_size va.2
  have sb := chk_size vb.2
  have hw : wrap64 ((l.length : Int) - 1) = (l.length : Int) - 1 := by simp only [wrap64]; omega
  rw [haspref03_Do.j0, if_neg (by simp), if_pos (by omega), hw, if_pos (by omega), if_pos (by omega), ha, hb]
  unfold doR
  by_cases a0 : a.f0 = 0
  · rw [if_pos a0, haspref03_Do.j1, if_pos rfl, if_pos (Or.inl a0)]
  rw [if_neg a0, haspref03_Do.j1]
  by_cases b0 : b.f0 = 0
  · rw [if_pos (by simp [b0]), if_pos (Or.inr b0)]
  rw [if_neg (show ¬ (b.f0 == 0) = true by simp [b0]), if_neg (show ¬ (a.f0 = 0 ∨ b.f0 = 0) by simp [a0, b0]), one_eq (g + 7) _ _ hop, Option.bind_some]
  by_cases ab : a.f0 = b.f0
  · rw [if_pos ab, haspref03_Do.j2]
    by_cases t0 : ansV op a.f0 = 0
    · rw [if_pos (by simp [t0]), if_pos (Or.inr t0)]
    have h2 : ¬ (a.f0 ≠ b.f0 ∨ ansV op a.f0 = 0) := by rintro (h | h); exact h ab; exact t0 h
    have h1 : ¬ (ansV op a.f0 == 0) = true := by simp [t0]
    rw [if_neg h1, if_neg h2]
    by_cases h12 : op = 12
    · subst h12
      rw [if_pos rfl, if_pos rfl, size_app]
      have e : wrap64 ((a.f2.size : Int) + (b.f2.size : Int)) = ((a.f2.size + b.f2.size : Nat) : Int) := by simp only [wrap64]; omega
      rw [e]
      by_cases hz : ((a.f2.size + b.f2.size : Nat) : Int) > 200
      · rw [if_pos hz, if_pos hz]
      · rw [if_neg hz, if_neg hz, if_pos (by omega)]
    · rw [if_neg h12, if_neg h12]
      by_cases h14 : op = 14
      · subst h14
        have e : numA 14 a.f0 a.f1 b.f1 = if a.f0 = 3 then (toIv (ub a.f1), toIe (ub a.f1)) else (a.f1, 0) := rfl
        rw [if_pos rfl, e]
        by_cases k3 : a.f0 = 3
        · rw [if_pos k3, if_pos k3]
          unfold haspref01_ToInt.f fin
          simp only [Option.bind_some]
          split <;> rfl
        · rw [if_neg k3, if_neg k3, if_pos rfl]; rfl
      · rw [if_neg h14]
        by_cases h15 : op = 15
        · subst h15
          have e : numA 15 a.f0 a.f1 b.f1 = if a.f0 = 2 then (ofIntI a.f1, 0) else (a.f1, 0) := rfl
          rw [if_pos rfl, e]
          by_cases k2 : a.f0 = 2
          · rw [if_pos k2, if_pos k2]
            unfold haspref01_OfInt.f
            have := va.1
            unfold i64 at this
            rw [if_pos this, Option.bind_some, if_pos rfl]; rfl
          · rw [if_neg k2, if_neg k2, if_pos rfl]; rfl
        · have tt : ansV op a.f0 = a.f0 ∧ (a.f0 = 2 ∨ a.f0 = 3) := by
            unfold ansV at t0 ⊢
            rw [if_neg h14, if_neg h15, if_neg h12] at t0 ⊢
            split at t0
            · split at t0
              · rename_i e1 e2; rw [if_pos e1, if_pos e2]; exact ⟨e2.symm, Or.inl e2⟩
              · exact absurd rfl t0
            · split at t0
              · rename_i e1 e2; rw [if_neg e1, if_pos e2]; exact ⟨rfl, e2⟩
              · exact absurd rfl t0
          have e : numA op a.f0 a.f1 b.f1 = if a.f0 = 2 then whA op a.f1 b.f1 else (ptA op a.f1 b.f1, 0) := by unfold numA; rw [if_neg h14, if_neg h15]
          rw [if_neg h15, e, tt.1]
          by_cases k2 : a.f0 = 2
          · rw [if_pos k2, if_pos k2]
            unfold haspref03_Whole.f
            rw [whole_same op _ _ va.1 vb.1 (by unfold isOp at hop; omega), Option.bind_some]
            unfold fin
            split <;> rfl
          · rw [if_neg k2, if_neg k2, rpoint_eq, Option.bind_some, if_pos rfl]; rfl
  · rw [if_neg ab, haspref03_Do.j2, if_pos rfl, if_pos (Or.inl ab)]
theorem rdo_eq (g : Nat) (op : Int) (l : List S25) (hs : ∀ v ∈ l, okV v) : haspref03_Do.f (g + 19) op l = some (doA op l) := by
  unfold haspref03_Do.f
  rw [counts (g + 18)]
  simp only [Option.bind_some]
  by_cases h0 : opN op = 0
  · rw [if_pos h0, haspref03_Do.j0, if_pos rfl]
    unfold doA; split <;> simp [h0]
  · rw [if_neg h0]
    by_cases hl : opN op = (l.length : Int)
    · have hb : (opN op != (l.length : Int)) = false := by simp [hl]
      rw [hb]
      have hop := isOp_of op h0
      have hn := opN_cases op
      match l, hl, hs with
      | [], hl, _ => simp at hl; omega
      | [a], hl, hs =>
        have ha := hs a (by simp)
        unfold doA; simp at hl; dsimp only; rw [if_pos hl]
        exact rdo_at (g + 9) op [a] a a hop (by simp) (by simp) rfl rfl ha ha
      | [a, b], hl, hs =>
        have ha := hs a (by simp)
        have hb := hs b (by simp)
        unfold doA; simp at hl; dsimp only; rw [if_pos hl]
        exact rdo_at (g + 9) op [a, b] a b hop (by simp) (by simp) rfl rfl ha hb
      | _ :: _ :: _ :: _, hl, _ => simp at hl; omega
    · have hb : (opN op != (l.length : Int)) = true := by simp [hl]
      rw [hb, haspref03_Do.j0, if_pos rfl]
      unfold doA
      match l, hl with
      | [], _ => rfl
      | [x], hl => simp at hl; dsimp only; rw [if_neg hl]
      | [x, y], hl => simp at hl; dsimp only; rw [if_neg hl]
      | _ :: _ :: _ :: _, _ => rfl
/-- A real in its one form. -/
def can (n : Int) : Prop := nanB (ub n) = true → n = 9221120237041090560
theorem can_arI (op : BinOp) (x y : Nat) : can (arI (floatBits op .f64 x y)) := by
  unfold can arI
  cases h : floatBits op .f64 x y with
  | none => intro _; rfl
  | some r =>
    obtain ⟨h1, h2⟩ := floatBits_nan h
    simp only
    rw [ub_wrap r h2, h1]
    intro h; cases h
theorem can_neg (a : Int) : can (rnegI a) := by
  unfold can rnegI
  cases h : nanB (ub a)
  · simp only [Bool.false_eq_true, if_false]
    rw [xor_i64, ub_wrap _ (flip_parts _ (ub_lt a)).2.2, flip_nan _ (ub_lt a), h]
    intro h; cases h
  · intro _; rfl
theorem can_point (op a b : Int) : can (ptA op a b) := by
  unfold ptA
  by_cases h7 : op = 7
  · rw [if_pos h7]; exact can_arI .add (ub a) (ub b)
  rw [if_neg h7]
  by_cases h8 : op = 8
  · rw [if_pos h8]; exact can_arI .sub (ub a) (ub b)
  rw [if_neg h8]
  by_cases h9 : op = 9
  · rw [if_pos h9]; exact can_arI .mul (ub a) (ub b)
  rw [if_neg h9]
  by_cases h10 : op = 10
  · rw [if_pos h10]; exact can_arI .quo (ub a) (ub b)
  rw [if_neg h10]; exact can_neg a
theorem ans23 (op t : Int) (h12 : op ≠ 12) (h : ansV op t ≠ 0) : ansV op t = 2 ∨ ansV op t = 3 := by
  unfold ansV at *
  by_cases h14 : op = 14
  · rw [if_pos h14] at h ⊢; split at h
    · rename_i e; rw [if_pos e]; exact Or.inl rfl
    · exact absurd rfl h
  rw [if_neg h14] at h ⊢
  by_cases h15 : op = 15
  · rw [if_pos h15] at h ⊢; split at h
    · rename_i e; rw [if_pos e]; exact Or.inr rfl
    · exact absurd rfl h
  rw [if_neg h15, if_neg h12] at h ⊢
  by_cases h11 : op = 11
  · rw [if_pos h11] at h ⊢; split at h
    · rename_i e; rw [if_pos e]; exact Or.inl rfl
    · exact absurd rfl h
  rw [if_neg h11] at h ⊢
  split at h
  · rename_i e; rw [if_pos e]; exact e
  · exact absurd rfl h
theorem ans3 (op t : Int) (h12 : op ≠ 12) (h14 : op ≠ 14) (h15 : op ≠ 15) (h : ansV op t = 3) : t = 3 := by
  unfold ansV at h
  rw [if_neg h14, if_neg h15, if_neg h12] at h
  by_cases h11 : op = 11
  · rw [if_pos h11] at h; split at h <;> omega
  · rw [if_neg h11] at h; split at h <;> omega
theorem ans14 (t : Int) (h : ansV 14 t = 3) : False := by
  have e : ansV 14 t = if 1 ≤ t ∧ t ≤ 3 then 2 else 0 := rfl
  rw [e] at h; split at h <;> omega
theorem ans15 (t : Int) (h : ansV 15 t ≠ 0) (k : t ≠ 2) : t = 3 := by
  have e : ansV 15 t = if t = 2 ∨ t = 3 then 3 else 0 := rfl
  rw [e] at h; split at h
  · rename_i q; rcases q with q | q; exact absurd q k; exact q
  · exact absurd rfl h
theorem word_lt (s : Bool) (r : Nat) (h : r ≤ Ir) : Ieee.double.word s r < 18446744073709551616 := by
  unfold Ieee.Format.word
  rw [sw_eq]
  have e1 : Ir = 9218868437227405312 := rfl
  have e2 : Sw = 9223372036854775808 := rfl
  rw [e1] at h
  rw [e2]
  split <;> omega
theorem nearest_lt (s : Bool) (m : Nat) (p : Int) : Ieee.double.nearest s m p < 18446744073709551616 := by
  unfold Ieee.Format.nearest
  split
  · exact word_lt s 0 (Nat.zero_le _)
  · refine word_lt s _ ?_
    rw [← ir_eq]
    exact Nat.min_le_right ..
theorem can_ofInt (a : Int) : can (ofIntI a) := by
  unfold can ofIntI canonN
  cases h : nanB (FloatKind.f64.nearest a)
  · simp only [Bool.false_eq_true, if_false]
    rw [ub_wrap _ (by rw [nearest_int]; exact nearest_lt _ _ _), h]
    intro h; cases h
  · intro _; rfl
theorem chk_err (e : Int) : chk 0 0 E0 = 0 := by decide +kernel
theorem chk_num (t n : Int) (h : t = 2 ∨ t = 3) (hc : t = 3 → can n) : chk t n E0 = 0 := by
  have z : (E0.size : Int) = 0 := rfl
  unfold chk
  rw [z]
  rcases h with rfl | rfl
  · simp
  · have := hc rfl
    unfold can at this
    by_cases hn : nanB (ub n) = true
    · simp [this hn]
    · simp [hn]
theorem chk_can {v : S25} (h : chkV v = 0) (h3 : v.f0 = 3) : can v.f1 := by
  intro hn
  by_cases e : v.f1 = 9221120237041090560
  · exact e
  · exfalso
    unfold chkV chk at h
    rw [h3] at h
    simp [hn, e] at h
theorem doR_right (op : Int) (a b : S25) (hop : isOp op) (va : okV a) (vb : okV b) : chk (doR op a b).1 (doR op a b).2.1 (doR op a b).2.2.1 = 0 := by
  unfold doR
  by_cases a0 : a.f0 = 0 ∨ b.f0 = 0
  · rw [if_pos a0]; exact chk_err 0
  rw [if_neg a0]
  by_cases t0 : a.f0 ≠ b.f0 ∨ ansV op a.f0 = 0
  · rw [if_pos t0]; exact chk_err 0
  rw [if_neg t0]
  by_cases h12 : op = 12
  · rw [if_pos h12]
    split
    · exact chk_err 0
    · rename_i hz
      unfold chk
      simp only
      rw [if_neg (by omega), if_neg (by simp), if_neg (by simp), if_neg (by simp), if_neg (by simp), if_neg hz]
  · rw [if_neg h12]
    have ht : ansV op a.f0 ≠ 0 := fun h => t0 (Or.inr h)
    unfold fin
    split
    · refine chk_num _ _ (ans23 op a.f0 h12 ht) ?_
      intro h3'
      have h3 : ansV op a.f0 = 3 := h3'
      show can (numA op a.f0 a.f1 b.f1).1
      unfold numA
      by_cases h14 : op = 14
      · subst h14; exact (ans14 _ h3).elim
      rw [if_neg h14]
      by_cases h15 : op = 15
      · subst h15
        rw [if_pos rfl]
        by_cases k2 : a.f0 = 2
        · rw [if_pos k2]; exact can_ofInt _
        · rw [if_neg k2]; exact chk_can va.2 (ans15 _ ht k2)
      · rw [if_neg h15]
        have := ans3 op a.f0 h12 h14 h15 h3
        rw [if_neg (by rw [this]; decide)]
        exact can_point op a.f1 b.f1
    · exact chk_err 0
theorem doA_right (op : Int) (l : List S25) (hs : ∀ v ∈ l, okV v) : chk (doA op l).1 (doA op l).2.1 (doA op l).2.2.1 = 0 := by
  match l, hs with
  | [], _ => exact chk_err 0
  | [a], hs =>
    unfold doA; simp only
    split
    · rename_i h; exact doR_right op a a (isOp_of op (by rw [h]; decide)) (hs a (by simp)) (hs a (by simp))
    · exact chk_err 0
  | [a, b], hs =>
    unfold doA; simp only
    split
    · rename_i h; exact doR_right op a b (isOp_of op (by rw [h]; decide)) (hs a (by simp)) (hs b (by simp))
    · exact chk_err 0
  | _ :: _ :: _ :: _, _ => exact chk_err 0
theorem same_at : ∀ (m : Nat) (l : List S25) (i g : Nat), l.length - i ≤ m → i ≤ l.length → l.length ≤ 4398046511104 → haspref02_SameRow.l0 (m + g + 1) l l i = some true := by
  intro m
  induction m with
  | zero =>
    intro l i g hm hi hl
    rw [haspref02_SameRow.l0, if_neg (by omega)]
  | succ m ih =>
    intro l i g hm hi hl
    rw [show m + 1 + g + 1 = (m + g + 1) + 1 by omega, haspref02_SameRow.l0]
    by_cases h : i < l.length
    · rw [if_pos (by omega), if_pos (by omega), if_pos (by omega), w64n i (by omega)]
      simp only [beq_self_eq_true, Bool.not_true, Bool.or_self, Bool.false_eq_true, if_false]
      exact ih l (i + 1) g (by omega) (by omega) hl
    · rw [if_neg (by omega)]
theorem same_eq (l : List S25) (k : Nat) (hk : l.length + 1 ≤ k) (hl : l.length ≤ 4398046511104) : haspref02_SameRow.f k l l = some true := by
  have h := same_at l.length l 0 (k - l.length - 1) (by omega) (by omega) hl
  rw [show l.length + (k - l.length - 1) + 1 = k by omega] at h
  unfold haspref02_SameRow.f
  rw [if_pos rfl]
  exact h
theorem does_at (op : Int) (l : List S25) (hl : l.length ≤ 4398046511104) (hi : ∀ v ∈ l, i64 v.f1) : ∀ (m i g : Nat), l.length - i ≤ m → i ≤ l.length → (∀ v ∈ l.take i, chkV v = 0) →
    hasplaw03_ArithDoes.l0 (m + g + l.length + 21) op l l (l.length : Int) (i : Int) = some true := by
  intro m
  induction m with
  | zero =>
    intro i g hm hii hc
    have : i = l.length := by omega
    subst this
    rw [List.take_length] at hc
    have hok : ∀ v ∈ l, okV v := fun v hv => ⟨hi v hv, hc v hv⟩
    rw [show 0 + g + l.length + 21 = (g + l.length + 20) + 1 by omega, hasplaw03_ArithDoes.l0, if_neg (by omega), copy_eq _ _ (by omega) hl]
    simp only [Option.bind_some]
    rw [same_eq _ _ (by omega) hl]
    have eD : arith_Do.f (g + l.length + 20) op l = some (doA op l) := by
      rw [show g + l.length + 20 = (g + l.length + 1) + 19 by omega]; exact do_eq _ _ _ (fun v hv => chk_size (hc v hv))
    have eR : haspref03_Do.f (g + l.length + 20) op l = some (doA op l) := by
      rw [show g + l.length + 20 = (g + l.length + 1) + 19 by omega]; exact rdo_eq _ _ _ hok
    rw [eD, eR]
    simp only [Option.bind_some, beq_self_eq_true, Bool.and_self, if_true]
    rw [show g + l.length + 20 = (g + l.length + 10) + 10 by omega, check_eq, doA_right op l hok]
    rfl
  | succ m ih =>
    intro i g hm hii hc
    rw [show m + 1 + g + l.length + 21 = (m + g + l.length + 21) + 1 by omega, hasplaw03_ArithDoes.l0]
    by_cases h : i < l.length
    · rw [if_pos (by omega), if_pos (by omega), if_pos (by omega), rdS_at l i h, show m + g + l.length + 21 = (m + g + l.length + 11) + 10 by omega, check_eq, Option.bind_some]
      show (if chkV l[i] = 0 then _ else _) = _
      by_cases h0 : chkV l[i] = 0
      · rw [if_pos h0, w64n i (by omega)]
        exact ih (i + 1) g (by omega) (by omega) (by
          intro v hv
          rw [List.take_succ_eq_append_getElem h] at hv
          rcases List.mem_append.1 hv with hv | hv
          · exact hc v hv
          · simp at hv; rw [hv]; exact h0)
      · rw [if_neg h0]
    · have hi' : i = l.length := by omega
      have := ih i (g + 1) (by omega) hii hc
      rw [show m + (g + 1) + l.length + 21 = m + g + l.length + 21 + 1 by omega, hasplaw03_ArithDoes.l0] at this
      exact this
theorem DoesPure (op : Int) (_ : (Lit.int .i64 op).wf = true) (l : List S25) (hl : l.length * 32 ≤ 140737488351232) (hi : ∀ v ∈ l, (Lit.int .i64 v.f0).wf = true ∧ (Lit.int .i64 v.f1).wf = true ∧ v.f2.size ≤ maxLen) : ∃ k, hasplaw03_ArithDoes.f k op l = some true := by
  refine ⟨l.length + 0 + l.length + 21, ?_⟩
  unfold hasplaw03_ArithDoes.f hasplaw03_speaks.f
  simp only [Option.bind_some, if_true]
  exact does_at op l (by omega) (fun v hv => i64_of_wf _ (hi v hv).2.1) l.length 0 0 (by omega) (by omega) (by simp)
end Go.Proofs.Ytbdengnadgofmaa
