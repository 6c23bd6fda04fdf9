import Derived.Test.YtnjobnkkpfaigaaZeP2
import Derived.Test.YtnjobnkkpfaigaaZeVx10
/- Layer 6: Fit by a plain description; lists met again. -/
namespace Go.Proofs.Ytnjobnkkpfaigaa
open Go.RowKit Go.Proofs.YtnjobnkkpfaigaaW.PrintWords Fl V A
set_option linter.unusedSimpArgs false
set_option linter.unusedVariables false
def chk (v : S43) : Int := (value_Check.f 10 v.f0 v.f1 v.f2).getD 0
theorem chk_10 (v : S43) : value_Check.f 10 v.f0 v.f1 v.f2 = some (chk v) ∧ haspref02_Check.f 10 v.f0 v.f1 v.f2 = some (chk v) := by
  obtain ⟨x, h1, h2⟩ := check_10 v.f0 v.f1 v.f2
  have e : chk v = x := by unfold chk; rw [h1]; rfl
  rw [e]
  exact ⟨h1, h2⟩
theorem chkV (v : S43) (m : Nat) : value_Check.f (m + 10) v.f0 v.f1 v.f2 = some (chk v) := by
  induction m with
  | zero => exact (chk_10 v).1
  | succ m ih => rw [show m + 1 + 10 = (m + 10) + 1 by omega]; exact value_Check.mono _ _ _ _ _ ih
def fitL : List S47 → List S43 → Int
  | c :: cs, v :: vs => if chk v = 0 then (if v.f0 = 0 then (if c.f2 = true then 60 else fitL cs vs) else (if v.f0 = c.f1 then fitL cs vs else 30)) else chk v
  | _, _ => 0
theorem fitV_at : ∀ (m : Nat) (l : List S47) (r : List S43) (i g : Nat), r.length - i ≤ m → i ≤ r.length → l.length = r.length → r.length ≤ 4398046511104 →
    rows_Fit.l0 (2 * m + g + 12) l r r.length i = some (fitL (l.drop i) (r.drop i)) := by
  intro m
  induction m with
  | zero =>
    intro l r i g hm hi hlr hl
    have : i = r.length := by omega
    subst this
    rw [show 2 * 0 + g + 12 = (g + 11) + 1 by omega, rows_Fit.l0, if_neg (by omega), ← hlr, List.drop_length]
    rfl
  | succ m ih =>
    intro l r i g hm hi hlr hl
    by_cases h : i < r.length
    · have h' : i < l.length := by omega
      rw [show 2 * (m + 1) + g + 12 = (2 * m + g + 12 + 1) + 1 by omega, rows_Fit.l0, if_pos (by omega), if_pos (by omega), if_pos (by omega), rdv_at r i h, rdc_at l i h']
      rw [show 2 * m + g + 12 + 1 = (2 * m + g + 3) + 10 by omega, chkV, Option.bind_some, List.drop_eq_getElem_cons h, List.drop_eq_getElem_cons h', fitL]
      rw [show 2 * m + g + 3 + 10 = (2 * m + g + 12) + 1 by omega]
      by_cases hc : chk r[i] = 0
      · rw [if_pos hc, if_pos hc]
        by_cases h0 : r[i].f0 = 0
        · rw [if_pos h0, if_pos h0, if_pos (by omega), rows_Fit.j1, w64n i (by omega)]
          cases hf : l[i].f2
          · rw [if_neg Bool.false_ne_true, if_pos h0, if_neg Bool.false_ne_true]
            exact ih l r (i + 1) g (by omega) (by omega) hlr hl
          · rw [if_pos rfl, if_pos rfl]
        · rw [if_neg h0, if_neg h0, rows_Fit.j1, if_neg (by decide), if_neg h0, if_pos (by omega), if_pos (by omega), rdc_at l i h', w64n i (by omega)]
          by_cases h1 : r[i].f0 = l[i].f1
          · rw [if_pos h1, if_pos h1]
            exact ih l r (i + 1) g (by omega) (by omega) hlr hl
          · rw [if_neg h1, if_neg h1]
      · rw [if_neg hc, if_neg hc]
    · exact (show 2 * (m + 1) + g + 12 = 2 * m + (g + 2) + 12 by omega) ▸ ih l r i (g + 2) (by omega) hi hlr hl
def fitE (l : List S47) (r : List S43) : Int := if l.length = r.length then fitL l r else 61
theorem fitV (l : List S47) (r : List S43) (k : Nat) (hk : 2 * r.length + 12 ≤ k) (hl : r.length ≤ 4398046511104) : rows_Fit.f k l r = some (fitE l r) := by
  unfold rows_Fit.f fitE
  by_cases h : l.length = r.length
  · rw [if_pos (by omega), if_pos h]
    have := fitV_at r.length l r 0 (k - 2 * r.length - 12) (by omega) (by omega) h hl
    rw [show 2 * r.length + (k - 2 * r.length - 12) + 12 = k by omega] at this
    exact this
  · rw [if_neg (by omega), if_neg h]
theorem same_at : ∀ (m : Nat) (l : List S43) (i g : Nat), l.length - i ≤ m → i ≤ l.length → l.length ≤ 4398046511104 → haspref02_SameRow.l0 (m + g + 1) l l i = some true := by
  intro m
  induction m with
  | zero =>
    intro l i g hm hi hl
    rw [haspref02_SameRow.l0, if_neg (by omega)]
  | succ m ih =>
    intro l i g hm hi hl
    rw [show m + 1 + g + 1 = (m + g + 1) + 1 by omega, haspref02_SameRow.l0]
    by_cases h : i < l.length
    · rw [if_pos (by omega), if_pos (by omega), if_pos (by omega), w64n i (by omega)]
      simp only [beq_self_eq_true, Bool.not_true, Bool.or_self, Bool.false_eq_true, if_false]
      exact ih l (i + 1) g (by omega) (by omega) hl
    · rw [if_neg (by omega)]
theorem same_eq (l : List S43) (k : Nat) (hk : l.length + 1 ≤ k) (hl : l.length ≤ 4398046511104) : haspref02_SameRow.f k l l = some true := by
  have h := same_at l.length l 0 (k - l.length - 1) (by omega) (by omega) hl
  rw [show l.length + (k - l.length - 1) + 1 = k by omega] at h
  unfold haspref02_SameRow.f
  rw [if_pos rfl]
  exact h
end Go.Proofs.Ytnjobnkkpfaigaa
