/- Layer 5: the document's Encode is keyL. -/
import Derived.Test.YthoemenchimggaaDoorP3
namespace Go.Proofs.YthoemenchimggaaDoor
open Go.RowKit Go.Proofs.YthoemenchimggaaDoorW.PrintWords Fl V A
set_option linter.unusedSimpArgs false
set_option linter.unusedVariables false
/-- A text's bytes, each 0 followed by 255. -/
def escI : List Int → List Int
  | [] => []
  | x :: l => if x = 0 then 0 :: 255 :: escI l else x :: escI l
theorem escI_len : ∀ l : List Int, (escI l).length ≤ 2 * l.length
  | [] => by simp [escI]
  | x :: l => by
    have := escI_len l
    unfold escI
    split <;> simp only [List.length_cons] <;> omega
theorem escI_eq : ∀ (l : List Int), (∀ x ∈ l, 0 ≤ x ∧ x < 256) → numsB (escB (Lib.bytesOf l)) = escI l
  | [], _ => rfl
  | x :: l, h => by
    have ih := escI_eq l (fun y hy => h y (List.mem_cons_of_mem _ hy))
    have hx := h x (List.mem_cons_self ..)
    have e : Lib.bytesOf (x :: l) = UInt8.ofNat x.toNat :: Lib.bytesOf l := rfl
    rw [e, escB, escI]
    by_cases h0 : x = 0
    · subst h0
      rw [if_pos (by decide), if_pos rfl, ← ih]
      rfl
    · have hn : ¬ UInt8.ofNat x.toNat = 0 := by
        intro hq
        have := congrArg UInt8.toNat hq
        rw [UInt8.toNat_ofNat'] at this
        have h00 : (0 : UInt8).toNat = 0 := rfl
        rw [h00] at this
        omega
      rw [if_neg hn, if_neg h0, ← ih]
      unfold numsB
      rw [List.map_cons, UInt8.toNat_ofNat', Nat.mod_eq_of_lt (by omega)]
      congr 1
      omega
theorem rdi_at' (l : List Int) (i : Nat) (h : i < l.length) : rd l (i : Int) = l[i] := by simp [rd, List.getD, h]
theorem bt_bytes (s : ByteArray) (i : Nat) (h : i < s.size) : ∃ h', bt s (i : Int) = (bytesOf s)[i]'h' := by
  have h' : i < (bytesOf s).length := by rw [bytesOf_length]; exact h
  refine ⟨h', ?_⟩
  rw [← rd_bytesOf, rdi_at' _ i h']
theorem text_at (x0 : List S35) (x4 a b : Int) (s : ByteArray) (hs : s.size ≤ 4398046511104) : ∀ (m i g : Nat) (acc : List Int), s.size - i = m → i ≤ s.size → acc.length + 2 * m + 3 < 140737488355328 →
    haspref05_Encode.l1 (m + g + 1) x0 acc x4 i a b s = haspref05_Encode.l0 g x0 (acc ++ (escI ((bytesOf s).drop i) ++ [0, 1])) (wrap64 (x4 + 1)) := by
  intro m
  induction m with
  | zero =>
    intro i g acc hm hi hl
    rw [show 0 + g + 1 = g + 1 by omega, haspref05_Encode.l1, if_neg (by omega), Option.bind_some, if_pos (by simp only [List.length_cons, List.length_nil]; omega),
      List.drop_of_length_le (by rw [bytesOf_length]; omega), escI, List.nil_append]
  | succ m ih =>
    intro i g acc hm hi hl
    have h : i < s.size := by omega
    obtain ⟨h', hb⟩ := bt_bytes s i h
    rw [show m + 1 + g + 1 = (m + g + 1) + 1 by omega, haspref05_Encode.l1, if_pos (by omega), if_pos (by omega), if_pos (by omega), Option.bind_some, w64n i (by omega), hb, List.drop_eq_getElem_cons h', escI]
    by_cases h0 : (bytesOf s)[i] = 0
    · rw [if_pos h0, if_pos h0, if_pos (by simp only [List.length_append, List.length_cons, List.length_nil]; omega), ih (i + 1) g _ (by omega) (by omega) (by simp only [List.length_append, List.length_cons, List.length_nil]; omega), h0]
      simp only [List.append_assoc, List.cons_append, List.nil_append]
    · rw [if_neg h0, if_neg h0, ih (i + 1) g _ (by omega) (by omega) (by simp only [List.length_append, List.length_cons, List.length_nil]; omega)]
      simp only [List.append_assoc, List.cons_append, List.nil_append]
def fu : List S35 → Nat
  | [] => 1
  | x :: l => x.f2.size + 2 + fu l
theorem fu_cons (x : S35) (l : List S35) : fu (x :: l) = x.f2.size + 2 + fu l := rfl
theorem fu_pos : ∀ l : List S35, 1 ≤ fu l
  | [] => Nat.le_refl _
  | x :: l => by have := fu_pos l; unfold fu; omega
theorem enc_at (x0 : List S35) (hr : ∀ x ∈ x0, -9223372036854775808 ≤ x.f1 ∧ x.f1 < 9223372036854775808) (hs : ∀ x ∈ x0, x.f2.size ≤ 4398046511104) (hl : x0.length ≤ 4398046511104) : ∀ (m i g : Nat) (acc : List Int), x0.length - i = m → i ≤ x0.length →
    acc.length + 2 * (keyL (x0.drop i)).length < 140737488355000 → haspref05_Encode.l0 (fu (x0.drop i) + g + 10) x0 acc i = some (acc ++ keyL (x0.drop i)) := by
  intro m
  induction m with
  | zero =>
    intro i g acc hm hi hb
    rw [show fu (x0.drop i) + g + 10 = (fu (x0.drop i) + g + 9) + 1 by omega, haspref05_Encode.l0, if_neg (by omega), List.drop_of_length_le (by omega), keyL, List.append_nil]
  | succ m ih =>
    intro i g acc hm hi hb
    have h : i < x0.length := by omega
    obtain ⟨x, hx⟩ : ∃ x, x = x0[i] := ⟨_, rfl⟩
    have hxm : x ∈ x0 := hx ▸ List.getElem_mem h
    have hrx := hr x hxm
    have hsx := hs x hxm
    have hd : x0.drop i = x :: x0.drop (i + 1) := by rw [List.drop_eq_getElem_cons h, hx]
    rw [hd] at hb ⊢
    simp only [keyL, List.length_cons, List.length_append] at hb
    rw [show fu (x :: x0.drop (i + 1)) + g + 10 = (fu (x0.drop (i + 1)) + (x.f2.size + 1 + g) + 10) + 1 by rw [fu_cons]; omega, haspref05_Encode.l0, if_pos (by omega), if_pos (by omega), if_pos (by omega), Option.bind_some, rdv_at x0 i h, ← hx, w64n i (by omega)]
    have hk : acc ++ keyL (x :: x0.drop (i + 1)) = (acc ++ [kindB x.f0]) ++ tailV x ++ keyL (x0.drop (i + 1)) := by simp [keyL]
    rw [hk]
    have e0 : wrap64 (x.f0 + 1) % 256 = kindB x.f0 := rfl
    rw [e0]
    have hacc : (acc ++ [kindB x.f0]).length = acc.length + 1 := by simp
    by_cases k1 : x.f0 = 1
    · rw [tailV_1 k1] at hb ⊢
      rw [if_pos k1, if_pos (by rw [hacc]; omega)]
      exact ih (i + 1) _ _ (by omega) (by omega) (by simp only [List.length_append, List.length_cons, List.length_nil] at hb ⊢; omega)
    · rw [if_neg k1]
      by_cases k2 : x.f0 = 2
      · rw [tailV_2 k2] at hb ⊢
        have hi2 := intU_eq x.f1 hrx.1 hrx.2
        have e2 : IntKind.u64.wrap ((IntKind.u64.wrap x.f1) + 9223372036854775808) = intU x.f1 := by rw [hi2]; simp [IntKind.wrap, IntKind.bits, IntKind.signed]; omega
        rw [eightB_len] at hb
        rw [if_pos k2, e2, show fu (x0.drop (i + 1)) + (x.f2.size + 1 + g) + 10 = (fu (x0.drop (i + 1)) + (x.f2.size + 1 + g) + 1) + 9 by omega, refeight_eq, Option.bind_some, if_pos (by rw [hacc, eightB_len]; omega)]
        exact ih (i + 1) _ _ (by omega) (by omega) (by rw [List.length_append, hacc, eightB_len]; omega)
      · rw [if_neg k2]
        by_cases k3 : x.f0 = 3
        · rw [tailV_3 k3] at hb ⊢
          rw [eightB_len] at hb
          rw [if_pos k3, rising_eq x.f1 hrx.1 hrx.2, Option.bind_some, ← ordU_eq x.f1 hrx.1 hrx.2, show fu (x0.drop (i + 1)) + (x.f2.size + 1 + g) + 10 = (fu (x0.drop (i + 1)) + (x.f2.size + 1 + g) + 1) + 9 by omega, refeight_eq, Option.bind_some, if_pos (by rw [hacc, eightB_len]; omega)]
          exact ih (i + 1) _ _ (by omega) (by omega) (by rw [List.length_append, hacc, eightB_len]; omega)
        · rw [if_neg k3]
          by_cases k4 : x.f0 = 4
          · have ht : tailV x = escI (bytesOf x.f2) ++ [0, 1] := by rw [tailV_4 k4, textB, escI_eq _ (bytes_range x.f2)]
            have hsz := text_le x.f2
            have htl : (tailV x).length = (escB (Lib.bytesOf (bytesOf x.f2))).length + 2 := by rw [tailV_4 k4, text_size]
            rw [htl] at hb
            rw [if_pos k4, show fu (x0.drop (i + 1)) + (x.f2.size + 1 + g) + 10 = x.f2.size + (fu (x0.drop (i + 1)) + g + 10) + 1 by omega]
            have ht4 := text_at x0 (i : Int) x.f0 x.f1 x.f2 hsx x.f2.size 0 (fu (x0.drop (i + 1)) + g + 10) (acc ++ [kindB x.f0]) (by omega) (by omega) (by rw [hacc]; omega)
            rw [List.drop_zero, ← ht, w64n i (by omega)] at ht4
            refine Eq.trans ht4 ?_
            exact ih (i + 1) _ _ (by omega) (by omega) (by rw [List.length_append, hacc, htl]; omega)
          · rw [if_neg k4, tailV_0 k1 k2 k3 k4, List.append_nil]
            exact ih (i + 1) _ _ (by omega) (by omega) (by rw [hacc]; omega)
end Go.Proofs.YthoemenchimggaaDoor
