/- Layer 5: the plain law, first part: rows are copied, right values, the keys' lengths. -/
import Derived.Test.YthoemenchimggaaDoorVx4
namespace Go.Proofs.YthoemenchimggaaDoor
open Go.RowKit Go.Proofs.YthoemenchimggaaDoorW.PrintWords Fl V A
set_option linter.unusedSimpArgs false
set_option linter.unusedVariables false
theorem w64n (i : Nat) (h : i < 140737488355328) : wrap64 ((i : Int) + 1) = ((i + 1 : Nat) : Int) := by simp only [wrap64]; omega
theorem rdv_at (l : List S35) (i : Nat) (h : i < l.length) : rd_T35 l (i : Int) = l[i] := by simp [rd_T35, List.getD, h]
theorem copy_at : ∀ (m : Nat) (l : List S35) (i g : Nat), l.length - i ≤ m → i ≤ l.length → l.length ≤ 4398046511104 → V.haspref02_CopyRow.l0 (m + g + 1) l (l.take i) i = some l := by
  intro m
  induction m with
  | zero =>
    intro l i g hm hi hl
    have : i = l.length := by omega
    subst this
    rw [V.haspref02_CopyRow.l0, if_neg (by omega), List.take_length]
  | succ m ih =>
    intro l i g hm hi hl
    rw [show m + 1 + g + 1 = (m + g + 1) + 1 by omega, V.haspref02_CopyRow.l0]
    by_cases h : i < l.length
    · rw [if_pos (by omega), if_pos (by omega), if_pos (by rw [List.length_take]; omega), rdv_at l i h, w64n i (by omega)]
      have e : l.take i ++ [(⟨l[i].f0, l[i].f1, l[i].f2⟩ : S35)] = l.take (i + 1) := by rw [List.take_succ_eq_append_getElem h]
      rw [e]
      exact ih l (i + 1) g (by omega) (by omega) hl
    · have : i = l.length := by omega
      subst this
      rw [if_neg (by omega), List.take_length]
theorem copy_eq (l : List S35) (k : Nat) (hk : l.length + 1 ≤ k) (hl : l.length ≤ 4398046511104) : V.haspref02_CopyRow.f k l = some l := by
  have h := copy_at l.length l 0 (k - l.length - 1) (by omega) (by omega) hl
  rw [show l.length + (k - l.length - 1) + 1 = k by omega] at h
  exact h
def nanB (b : Int) : Bool := if wrap64 (Go.bits .and .u64 ((IntKind.u64.wrap b) / 4503599627370496) 2047) = 2047 then wrap64 (Go.bits .and .u64 (IntKind.u64.wrap b) 4503599627370495) != 0 else false
theorem nan_h (e m : Int) : (if e = 2047 then some (m != 0) else some false) = some (if e = 2047 then m != 0 else false) := by
  by_cases he : e = 2047
  · rw [if_pos he, if_pos he]
  · rw [if_neg he, if_neg he]
theorem isnan_eq (b : Int) : haspref01_IsNaN.f b = some (nanB b) := by
  unfold haspref01_IsNaN.f haspref01_Parts.f nanB
  rw [Option.bind_some]
  exact nan_h _ _
/-- Right values. -/
def Good (x : S35) : Prop :=
  (x.f0 = 0 ∧ x.f1 = 0 ∧ x.f2.size = 0) ∨ (x.f0 = 1 ∧ (x.f1 = 0 ∨ x.f1 = 1) ∧ x.f2.size = 0) ∨ (x.f0 = 2 ∧ x.f2.size = 0) ∨ (x.f0 = 3 ∧ (nanB x.f1 = true → x.f1 = 9221120237041090560) ∧ x.f2.size = 0) ∨ (x.f0 = 4 ∧ x.f1 = 0 ∧ x.f2.size ≤ 200)
theorem j4_eq (k : Nat) (x : Bool) (a b : Int) (c : ByteArray) : haspref02_Check.j4 (k + 1) x a b c = if x = true then some 2 else if (c.size : Int) > 200 then some 1 else some 0 := by rw [haspref02_Check.j4]
theorem j3_eq (k : Nat) (x : Bool) (a b : Int) (c : ByteArray) : haspref02_Check.j3 (k + 2) x a b c = if x = true then some 2 else if a < 4 ∧ (c.size : Int) > 0 then some 2 else if (c.size : Int) > 200 then some 1 else some 0 := by
  rw [haspref02_Check.j3]
  simp only [j4_eq]
  by_cases h1 : x = true
  · rw [if_pos h1, if_pos h1]
  · rw [if_neg h1, if_neg h1]
    by_cases h2 : a < 4
    · rw [if_pos h2]
      by_cases h3 : (c.size : Int) > 0
      · rw [if_pos (decide_eq_true h3), if_pos ⟨h2, h3⟩]
      · rw [if_neg (by simpa using h3), if_neg (c := a < 4 ∧ _) (fun h => h3 h.2)]
    · rw [if_neg h2, if_neg (by decide), if_neg (c := a < 4 ∧ _) (fun h => h2 h.1)]
theorem j2_eq (k : Nat) (x : Bool) (a b : Int) (c : ByteArray) : haspref02_Check.j2 (k + 3) x a b c = if x = true then some 2 else if a = 3 ∧ nanB b = true ∧ b ≠ 9221120237041090560 then some 2 else if a < 4 ∧ (c.size : Int) > 0 then some 2 else if (c.size : Int) > 200 then some 1 else some 0 := by
  rw [haspref02_Check.j2]
  rw [isnan_eq]
  generalize nanB b = t
  generalize (9221120237041090560 : Int) = z
  rw [Option.bind_some]
  by_cases h1 : x = true
  · rw [if_pos h1, if_pos h1]
  · rw [if_neg h1, if_neg h1]
    by_cases h2 : a = 3
    · rw [if_pos h2]
      by_cases h3 : t = true
      · rw [if_pos h3]
        by_cases h4 : b ≠ z
        · rw [j3_eq, if_pos (bne_iff_ne.2 h4), if_pos ⟨h2, h3, h4⟩]
        · rw [j3_eq, if_neg (fun h => h4 (bne_iff_ne.1 h)), if_neg (c := a = 3 ∧ _) (fun h => h4 h.2.2)]
      · rw [if_neg h3, j3_eq, if_neg (by decide), if_neg (c := a = 3 ∧ _) (fun h => h3 h.2.1)]
    · rw [if_neg h2, j3_eq, if_neg (by decide), if_neg (c := a = 3 ∧ _) (fun h => h2 h.1)]
theorem j1_eq (k : Nat) (x : Bool) (a b : Int) (c : ByteArray) : haspref02_Check.j1 (k + 4) x a b c = if x = true then some 2 else if a = 1 ∧ (b < 0 ∨ b > 1) then some 2 else if a = 3 ∧ nanB b = true ∧ b ≠ 9221120237041090560 then some 2 else if a < 4 ∧ (c.size : Int) > 0 then some 2 else if (c.size : Int) > 200 then some 1 else some 0 := by
  rw [haspref02_Check.j1]
  simp only [j2_eq]
  generalize (9221120237041090560 : Int) = z
  by_cases h1 : x = true
  · rw [if_pos h1, if_pos h1]
  · rw [if_neg h1, if_neg h1]
    by_cases h2 : a = 1
    · rw [if_pos h2]
      by_cases h3 : b < 0
      · rw [if_pos h3, if_pos (by trivial), if_pos ⟨h2, .inl h3⟩]
      · rw [if_neg h3]
        by_cases h4 : b > 1
        · rw [if_pos (decide_eq_true h4), if_pos ⟨h2, .inr h4⟩]
        · rw [if_neg (by simpa using h4), if_neg (c := a = 1 ∧ _) (fun h => by rcases h.2 with h | h; exact h3 h; exact h4 h)]
    · rw [if_neg h2, if_neg (by decide), if_neg (c := a = 1 ∧ _) (fun h => h2 h.1)]
theorem j0_eq (k : Nat) (x : Bool) (a b : Int) (c : ByteArray) : haspref02_Check.j0 (k + 5) x a b c = if x = true then some 50 else if (a = 0 ∨ a = 4) ∧ b ≠ 0 then some 2 else if a = 1 ∧ (b < 0 ∨ b > 1) then some 2 else if a = 3 ∧ nanB b = true ∧ b ≠ 9221120237041090560 then some 2 else if a < 4 ∧ (c.size : Int) > 0 then some 2 else if (c.size : Int) > 200 then some 1 else some 0 := by
  rw [haspref02_Check.j0]
  simp only [j1_eq]
  generalize (9221120237041090560 : Int) = z
  by_cases h1 : x = true
  · rw [if_pos h1, if_pos h1]
  · rw [if_neg h1, if_neg h1]
    by_cases h2 : a = 0
    · rw [if_pos h2]
      by_cases h3 : b ≠ 0
      · rw [if_pos (bne_iff_ne.2 h3), if_pos ⟨.inl h2, h3⟩]
      · rw [if_neg (fun h => h3 (bne_iff_ne.1 h)), if_neg (c := (a = 0 ∨ a = 4) ∧ _) (fun h => h3 h.2)]
    · rw [if_neg h2]
      by_cases h4 : a = 4
      · rw [if_pos h4]
        by_cases h3 : b ≠ 0
        · rw [if_pos (bne_iff_ne.2 h3), if_pos ⟨.inr h4, h3⟩]
        · rw [if_neg (fun h => h3 (bne_iff_ne.1 h)), if_neg (c := (a = 0 ∨ a = 4) ∧ _) (fun h => h3 h.2)]
      · rw [if_neg h4, if_neg (by decide), if_neg (c := (a = 0 ∨ a = 4) ∧ _) (fun h => by rcases h.1 with h | h; exact h2 h; exact h4 h)]
theorem check_eq (k : Nat) (x : S35) : ∃ v, haspref02_Check.f (k + 6) x.f0 x.f1 x.f2 = some v ∧ (v = 0 → Good x) := by
  obtain ⟨a, b, c⟩ := x
  unfold haspref02_Check.f Good
  simp only [j0_eq (k + 1)]
  generalize (9221120237041090560 : Int) = z
  by_cases h1 : a < 0
  · rw [if_pos h1, if_pos (by trivial)]; exact ⟨50, rfl, by omega⟩
  · rw [if_neg h1]
    by_cases h2 : a > 4
    · rw [if_pos (decide_eq_true h2)]; exact ⟨50, rfl, by omega⟩
    · rw [if_neg (by simpa using h2)]
      by_cases h3 : (a = 0 ∨ a = 4) ∧ b ≠ 0
      · rw [if_pos h3]; exact ⟨2, rfl, by omega⟩
      · rw [if_neg h3]
        by_cases h4 : a = 1 ∧ (b < 0 ∨ b > 1)
        · rw [if_pos h4]; exact ⟨2, rfl, by omega⟩
        · rw [if_neg h4]
          by_cases h5 : a = 3 ∧ nanB b = true ∧ b ≠ z
          · rw [if_pos h5]; exact ⟨2, rfl, by omega⟩
          · rw [if_neg h5]
            by_cases h6 : a < 4 ∧ (c.size : Int) > 0
            · rw [if_pos h6]; exact ⟨2, rfl, by omega⟩
            · rw [if_neg h6]
              by_cases h7 : (c.size : Int) > 200
              · rw [if_pos h7]; exact ⟨1, rfl, by omega⟩
              · rw [if_neg h7]
                refine ⟨0, rfl, fun _ => ?_⟩
                have ha : a = 0 ∨ a = 1 ∨ a = 2 ∨ a = 3 ∨ a = 4 := by omega
                rcases ha with e | e | e | e | e
                · exact .inl ⟨e, by omega, by show c.size = 0; omega⟩
                · exact .inr (.inl ⟨e, by show b = 0 ∨ b = 1; omega, by show c.size = 0; omega⟩)
                · exact .inr (.inr (.inl ⟨e, by show c.size = 0; omega⟩))
                · exact .inr (.inr (.inr (.inl ⟨e, fun hn => Classical.byContradiction fun hb => h5 ⟨e, hn, hb⟩, by show c.size = 0; omega⟩)))
                · exact .inr (.inr (.inr (.inr ⟨e, by show b = 0; omega, by show c.size ≤ 200; omega⟩)))
theorem right_at : ∀ (m : Nat) (l : List S35) (i g : Nat), l.length - i ≤ m → i ≤ l.length → l.length ≤ 4398046511104 →
    ∃ b, hasplaw05_right.l0 (m + g + 7) l (l.length : Int) i = some b ∧ (b = true → ∀ x ∈ l.drop i, Good x) := by
  intro m
  induction m with
  | zero =>
    intro l i g hm hi hl
    have : i = l.length := by omega
    subst this
    rw [hasplaw05_right.l0, if_neg (by omega), List.drop_length]
    exact ⟨true, rfl, fun _ x hx => by cases hx⟩
  | succ m ih =>
    intro l i g hm hi hl
    rw [show m + 1 + g + 7 = (m + g + 7) + 1 by omega, hasplaw05_right.l0]
    by_cases h : i < l.length
    · rw [if_pos (by omega), if_pos (by omega), if_pos (by omega), rdv_at l i h, w64n i (by omega)]
      obtain ⟨v, hv, hg⟩ := check_eq (m + g + 1) l[i]
      rw [show m + g + 7 = m + g + 1 + 6 by omega, hv, Option.bind_some]
      by_cases h0 : v = 0
      · rw [if_pos h0]
        obtain ⟨b, hb, hr⟩ := ih l (i + 1) g (by omega) (by omega) hl
        rw [show m + g + 1 + 6 = m + g + 7 by omega]
        refine ⟨b, hb, fun hbt x hx => ?_⟩
        rw [List.drop_eq_getElem_cons h] at hx
        rcases List.mem_cons.1 hx with rfl | hx
        · exact hg h0
        · exact hr hbt x hx
      · rw [if_neg h0]
        exact ⟨false, rfl, fun h => by cases h⟩
    · have : i = l.length := by omega
      subst this
      rw [if_neg (by omega), List.drop_length]
      exact ⟨true, rfl, fun _ x hx => by cases hx⟩
theorem right_eq (l : List S35) (k : Nat) (hk : l.length + 7 ≤ k) (hl : l.length ≤ 4398046511104) : ∃ b, hasplaw05_right.f k l = some b ∧ (b = true → ∀ x ∈ l, Good x) := by
  obtain ⟨b, hb, hr⟩ := right_at l.length l 0 (k - l.length - 7) (by omega) (by omega) hl
  rw [show l.length + (k - l.length - 7) + 7 = k by omega] at hb
  rw [List.drop_zero] at hr
  exact ⟨b, hb, hr⟩
theorem eightB_len (u : Int) : (eightB u).length = 8 := by simp [eightB]
theorem text_bound (s : ByteArray) : (textB s).length ≤ 2 * s.size + 2 := by
  have h : (Lib.bytesOf (bytesOf s)).length = s.size := by unfold Lib.bytesOf; rw [List.length_map, bytesOf_length]
  have h2 := List.count_le_length (a := (0 : UInt8)) (l := Lib.bytesOf (bytesOf s))
  rw [text_size, escB_length]
  omega
theorem tail_bound (x : S35) : (tailV x).length ≤ 2 * x.f2.size + 10 := by
  have := text_bound x.f2
  unfold tailV
  repeat' split
  all_goals first | (simp only [List.length_cons, List.length_nil, eightB_len]; omega) | omega | (simp only [List.length_nil]; omega)
theorem keyL_bound : ∀ (l : List S35), (∀ x ∈ l, Good x) → (keyL l).length ≤ 411 * l.length
  | [], _ => by simp [keyL]
  | x :: l, h => by
    have ih := keyL_bound l (fun y hy => h y (List.mem_cons_of_mem _ hy))
    have hs : x.f2.size ≤ 200 := by rcases h x (List.mem_cons_self ..) with h | h | h | h | h <;> omega
    have := tail_bound x
    simp only [keyL, List.length_cons, List.length_append]
    omega
theorem encode_eq (l : List S35) (h : ∀ x ∈ l, Good x) (hl : l.length ≤ 10000000) : keys_Encode.f l = some (keyL l) := by
  have := keyL_bound l h
  unfold keys_Encode.f
  rw [if_pos (by omega)]
theorem keyL_append : ∀ (a b : List S35), keyL (a ++ b) = keyL a ++ keyL b
  | [], b => by simp [keyL]
  | x :: a, b => by simp [keyL, keyL_append a b]
theorem speaks_60 : hasplaw05_speaks.f 60 = some true := by decide +kernel
theorem speaks_eq (k : Nat) (h : 60 ≤ k) : hasplaw05_speaks.f k = some true := by
  obtain ⟨m, rfl⟩ : ∃ m, k = 60 + m := ⟨k - 60, by omega⟩
  induction m with
  | zero => exact speaks_60
  | succ m ih => exact hasplaw05_speaks.mono (60 + m) _ (ih (by omega))
end Go.Proofs.YthoemenchimggaaDoor
