import Derived.Test.YtnjobnkkpfaigaaZbP5
/- Layer 6: the reference's Encode, by the same plain description. -/
namespace Go.Proofs.Ytnjobnkkpfaigaa
open Go.RowKit Go.Proofs.YtnjobnkkpfaigaaW.PrintWords Go.Proofs.YtnjobnkkpfaigaaW.PrintMore Fl V A
set_option linter.unusedSimpArgs false
set_option linter.unusedVariables false
set_option maxHeartbeats 4000000 in
theorem chk_ok (v : S43) (h : chk v = 0) : 0 ≤ v.f0 ∧ v.f0 ≤ 4 ∧ v.f2.size ≤ 200 := by
  have h2 := (chk_10 v).2
  rw [h] at h2
  clear h
  obtain ⟨a, b, c⟩ := v
  dsimp only at h2 ⊢
  unfold haspref02_Check.f at h2
  simp only [haspref02_Check.j0, haspref02_Check.j1, haspref02_Check.j2, haspref02_Check.j3, haspref02_Check.j4, isnan_eq, Option.bind_some] at h2
  by_cases h0 : a < 0
  · simp [h0] at h2
  · by_cases h4 : a > 4
    · rw [if_neg h0, decide_eq_true h4] at h2; simp at h2
    · refine ⟨by omega, by omega, ?_⟩
      by_cases hs : c.size ≤ 200
      · exact hs
      · exfalso
        have hs1 : (c.size : Int) > 200 := by omega
        have hs0 : decide ((c.size : Int) > 0) = true := decide_eq_true (by omega)
        rw [if_neg h0, decide_eq_false h4] at h2
        simp only [if_pos hs1, hs0, if_true] at h2
        have hk : a = 0 ∨ a = 1 ∨ a = 2 ∨ a = 3 ∨ a = 4 := by omega
        rcases hk with rfl | rfl | rfl | rfl | rfl
        all_goals
          simp only [Bool.false_eq_true, if_false, if_true] at h2
          repeat' split at h2
          all_goals first | (simp at h2; done) | (exact absurd trivial (by assumption)) | omega
theorem u64w0 (n : Nat) (h : n < 1000) : IntKind.u64.wrap (n : Int) = (n : Int) := by rw [u64w]; omega
theorem at8_u (x : Int) (j : Nat) (h : j < 8) : shr .u64 (IntKind.u64.wrap x) (IntKind.u64.wrap ((8 * j : Nat) : Int)) % 256 = at8 x j := by
  unfold shr at8
  rw [u64w0 _ (by omega), Int.toNat_natCast, show IntKind.u64.bits = 64 from rfl, Nat.min_eq_left (by omega), u64w]
  have hj : j = 0 ∨ j = 1 ∨ j = 2 ∨ j = 3 ∨ j = 4 ∨ j = 5 ∨ j = 6 ∨ j = 7 := by omega
  rcases hj with rfl | rfl | rfl | rfl | rfl | rfl | rfl | rfl <;> omega
theorem encl3_at : ∀ (m j g : Nat) (x : List Int) (r : List S43) (i a b : Int) (c : ByteArray), 8 - j = m → j ≤ 8 → x.length + m < 140737488355328 →
    haspref06_Encode.l3 (m + g + 1) r x i ((8 * j : Nat) : Int) a b c = haspref06_Encode.j7 g r (x ++ ((List.range 8).drop j).map (at8 b)) i a b c := by
  intro m
  induction m with
  | zero =>
    intro j g x r i a b c hm hj hx
    have : j = 8 := by omega
    subst this
    rw [show 0 + g + 1 = g + 1 by omega, haspref06_Encode.l3, if_neg (by omega), List.drop_of_length_le (by simp)]
    simp
  | succ m ih =>
    intro j g x r i a b c hm hj hx
    have hj8 : j < 8 := by omega
    rw [show m + 1 + g + 1 = (m + g + 1) + 1 by omega, haspref06_Encode.l3, if_pos (by omega), if_pos (by rw [u64w0 _ (by omega)]; omega), if_pos (by omega)]
    have e : wrap64 (((8 * j : Nat) : Int) + 8) = ((8 * (j + 1) : Nat) : Int) := by rw [IntWalk.wrap64_in _ (by omega)]; omega
    rw [e, at8_u b j hj8, ih (j + 1) g _ r i a b c (by omega) (by omega) (by rw [List.length_append, List.length_singleton]; omega)]
    rw [List.append_assoc, List.drop_eq_getElem_cons (show j < (List.range 8).length by simpa using hj8)]
    simp
theorem bt_at' (s : ByteArray) (j : Nat) (h : j < s.size) : bt s (j : Int) = (bytesOf s)[j]'(by rw [bytesOf_length]; exact h) := by
  have := rd_bytesOf s (j : Int)
  rw [← this]
  unfold rd
  rw [Int.toNat_natCast, List.getD_eq_getElem?_getD, List.getElem?_eq_getElem (by rw [bytesOf_length]; exact h)]
  rfl
theorem encl4_at : ∀ (m j g : Nat) (x : List Int) (r : List S43) (i a b : Int) (c : ByteArray), c.size - j = m → j ≤ c.size → c.size ≤ 200 → x.length + m < 140737488355328 →
    haspref06_Encode.l4 (m + g + 1) r x i (j : Int) a b c = haspref06_Encode.l2 g r (x ++ (bytesOf c).drop j) (wrap64 (i + 1)) := by
  intro m
  induction m with
  | zero =>
    intro j g x r i a b c hm hj hc hx
    have : j = c.size := by omega
    subst this
    rw [show 0 + g + 1 = g + 1 by omega, haspref06_Encode.l4, if_neg (by omega), List.drop_of_length_le (by rw [bytesOf_length]; omega), List.append_nil]
  | succ m ih =>
    intro j g x r i a b c hm hj hc hx
    have hj8 : j < c.size := by omega
    rw [show m + 1 + g + 1 = (m + g + 1) + 1 by omega, haspref06_Encode.l4, if_pos (by omega), if_pos (by omega), if_pos (by omega)]
    rw [bt_at' c j hj8, w64n j (by omega), ih (j + 1) g _ r i a b c (by omega) (by omega) hc (by rw [List.length_append, List.length_singleton]; omega)]
    rw [List.append_assoc, List.drop_eq_getElem_cons (show j < (bytesOf c).length by rw [bytesOf_length]; exact hj8)]
    simp
/-- One value's bytes, by the reference. -/
theorem encrow (r : List S43) (x : List Int) (i g : Nat) (h : i < r.length) (hc : chk r[i] = 0) (hl : r.length ≤ 4398046511104) (hx : x.length + (dataOf r[i]).length < 140737488355328) :
    ∃ g', g ≤ g' ∧ haspref06_Encode.l2 (g + 250) r x i = haspref06_Encode.l2 g' r (x ++ dataOf r[i]) ((i + 1 : Nat) : Int) := by
  obtain ⟨hk0, hk4, hs⟩ := chk_ok r[i] hc
  have hkind : r[i].f0 = 0 ∨ r[i].f0 = 1 ∨ r[i].f0 = 2 ∨ r[i].f0 = 3 ∨ r[i].f0 = 4 := by omega
  rw [show g + 250 = (g + 249) + 1 by omega, haspref06_Encode.l2, if_pos (by omega), if_pos (by omega), rdv_at r i h]
  rw [show g + 249 = (g + 246) + 1 + 1 + 1 by omega]
  rcases hkind with e | e | e | e | e
  · have hda : dataOf r[i] = [] := by unfold dataOf; rw [if_pos e]
    refine ⟨g + 246, by omega, ?_⟩
    rw [hda, List.append_nil, e]
    simp only [haspref06_Encode.j4, haspref06_Encode.j5, haspref06_Encode.j7]
    rw [← w64n i (by omega)]
    simp
  · have hda : dataOf r[i] = [r[i].f1 % 256] := by unfold dataOf; rw [if_neg (by omega), if_pos e]
    refine ⟨g + 246, by omega, ?_⟩
    rw [hda, List.length_singleton] at hx
    rw [hda, e, if_pos rfl, if_pos (by omega)]
    simp only [haspref06_Encode.j4, haspref06_Encode.j5, haspref06_Encode.j7]
    rw [← w64n i (by omega)]
    simp
  · have hda : dataOf r[i] = (List.range 8).map (at8 r[i].f1) := by unfold dataOf; rw [if_neg (by omega), if_neg (by omega), if_neg (by omega)]
    refine ⟨g + 237, by omega, ?_⟩
    rw [hda, List.length_map, List.length_range] at hx
    have e3 := encl3_at 8 0 (g + 238) x r i 2 r[i].f1 r[i].f2 rfl (by omega) (by omega)
    rw [show ((8 * 0 : Nat) : Int) = 0 from rfl, List.drop_zero, show 8 + (g + 238) + 1 = g + 246 + 1 by omega] at e3
    rw [hda, e, if_neg (by decide)]
    simp only [haspref06_Encode.j4, haspref06_Encode.j5, if_true]
    rw [e3, show g + 238 = (g + 237) + 1 by omega, haspref06_Encode.j7, if_neg (by decide), w64n i (by omega)]
  · have hda : dataOf r[i] = (List.range 8).map (at8 r[i].f1) := by unfold dataOf; rw [if_neg (by omega), if_neg (by omega), if_neg (by omega)]
    refine ⟨g + 237, by omega, ?_⟩
    rw [hda, List.length_map, List.length_range] at hx
    have e3 := encl3_at 8 0 (g + 238) x r i 3 r[i].f1 r[i].f2 rfl (by omega) (by omega)
    rw [show ((8 * 0 : Nat) : Int) = 0 from rfl, List.drop_zero, show 8 + (g + 238) + 1 = g + 246 + 1 by omega] at e3
    rw [hda, e, if_neg (by decide)]
    rw [haspref06_Encode.j4, if_neg (by decide), haspref06_Encode.j5, if_pos (by decide)]
    rw [e3, show g + 238 = (g + 237) + 1 by omega, haspref06_Encode.j7, if_neg (by decide), w64n i (by omega)]
  · have hda : dataOf r[i] = ((r[i].f2.size : Int) % 256) :: bytesOf r[i].f2 := by unfold dataOf; rw [if_neg (by omega), if_neg (by omega), if_pos e]
    rw [hda, List.length_cons, bytesOf_length] at hx
    refine ⟨g + 245 - r[i].f2.size, by omega, ?_⟩
    have e4 := encl4_at r[i].f2.size 0 (g + 245 - r[i].f2.size) (x ++ [(r[i].f2.size : Int) % 256]) r i 4 r[i].f1 r[i].f2 rfl (by omega) hs (by rw [List.length_append, List.length_singleton]; omega)
    rw [show r[i].f2.size + (g + 245 - r[i].f2.size) + 1 = g + 246 by omega, List.drop_zero] at e4
    rw [hda, e, if_neg (by decide)]
    rw [haspref06_Encode.j4, if_neg (by decide), haspref06_Encode.j5, if_neg (by decide), haspref06_Encode.j7, if_pos rfl, if_pos (by omega)]
    rw [show (0 : Int) = ((0 : Nat) : Int) from rfl, e4, w64n i (by omega)]
    simp
end Go.Proofs.Ytnjobnkkpfaigaa
