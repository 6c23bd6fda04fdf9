import Derived.Test.YtnjobnkkpfaigaaZeP13
/- Layer 6: what a right value is; its bytes are read again. -/
namespace Go.Proofs.Ytnjobnkkpfaigaa
open Go.RowKit Go.Proofs.YtnjobnkkpfaigaaW.PrintWords Go.Proofs.YtnjobnkkpfaigaaW.PrintMore Fl V A
set_option linter.unusedSimpArgs false
set_option linter.unusedVariables false
def okV (v : S43) : Prop := (v.f0 = 0 ∧ v.f1 = 0 ∧ v.f2.size = 0) ∨ (v.f0 = 1 ∧ (v.f1 = 0 ∨ v.f1 = 1) ∧ v.f2.size = 0) ∨ (v.f0 = 2 ∧ v.f2.size = 0) ∨ (v.f0 = 3 ∧ v.f1 = canonI v.f1 ∧ v.f2.size = 0) ∨ (v.f0 = 4 ∧ v.f1 = 0 ∧ v.f2.size ≤ 200)
theorem chk_iff (v : S43) : chk v = 0 ↔ okV v := by
  obtain ⟨a, b, c⟩ := v
  unfold chk value_Check.f okV
  simp only [value_Check.j0, value_Check.j1, value_Check.j2, real_Canon.f, Option.bind_some, size0]
  generalize c.size = n
  have hk : a < 0 ∨ a = 0 ∨ a = 1 ∨ a = 2 ∨ a = 3 ∨ a = 4 ∨ 4 < a := by omega
  rcases hk with h | rfl | rfl | rfl | rfl | rfl | h
  · have e : (a == 4) = false := by simp; omega
    have n0 : ¬ a = 0 := by omega
    have n1 : ¬ a = 1 := by omega
    have n2 : ¬ a = 2 := by omega
    have n3 : ¬ a = 3 := by omega
    have n4 : ¬ a = 4 := by omega
    simp [n0, n1, n2, n3, n4, e]
  · by_cases hb : b = 0
    · subst hb
      by_cases hs : 0 < n
      · simp [hs]; omega
      · obtain rfl : n = 0 := by omega
        simp 
    · simp [hb]
  · by_cases hb : b = 0
    · subst hb
      by_cases hs : 0 < n
      · simp [hs]; omega
      · obtain rfl : n = 0 := by omega
        simp 
    · by_cases hb1 : b = 1
      · subst hb1
        by_cases hs : 0 < n
        · simp [hs]; omega
        · obtain rfl : n = 0 := by omega
          simp 
      · simp [hb, hb1]
  · by_cases hs : 0 < n
    · simp [hs]; omega
    · obtain rfl : n = 0 := by omega
      simp 
  · by_cases hb : b = canonI b
    · by_cases hs : 0 < n
      · simp [hs, ← hb]; omega
      · obtain rfl : n = 0 := by omega
        simp [← hb]
    · simp [hb]
  · by_cases hb : b = 0
    · subst hb
      by_cases hs : (n : Int) > 200
      · simp [hs]; omega
      · simp [hs]; omega
    · simp [hb]
  · have e : (a == 4) = false := by simp; omega
    have n0 : ¬ a = 0 := by omega
    have n1 : ¬ a = 1 := by omega
    have n2 : ¬ a = 2 := by omega
    have n3 : ¬ a = 3 := by omega
    have n4 : ¬ a = 4 := by omega
    simp [n0, n1, n2, n3, n4, e]
theorem empty_of (c : ByteArray) (h : c.size = 0) : c = ⟨#[]⟩ := by
  obtain ⟨d⟩ := c
  have : d = #[] := Array.eq_empty_of_size_eq_zero h
  rw [this]
theorem str_of_bytes (s : ByteArray) : strOfNums (bytesOf s) = s := by
  obtain ⟨d⟩ := s
  unfold strOfNums bytesOf
  congr 1
  apply Array.ext'
  rw [List.map_map]
  show List.map _ d.toList = d.toList
  conv => rhs; rw [← List.map_id d.toList]
  apply List.map_congr_left
  intro x _
  simp
theorem bytesOf_in (s : ByteArray) : ∀ x ∈ bytesOf s, 0 ≤ x ∧ x < 256 := by
  intro x hx
  unfold bytesOf at hx
  obtain ⟨b, _, rfl⟩ := List.mem_map.1 hx
  have := b.toNat_lt
  omega
/-- A number's bytes, of the greatest weight first, make it again. -/
theorem stepU_small (u x : Int) (h0 : 0 ≤ u) (h1 : u < 72057594037927936) (h2 : 0 ≤ x) (h3 : x < 256) : stepU u x = u * 256 + x := by
  unfold stepU; rw [u64w, u64w, u64w]; omega
theorem num_back (x : Int) : (((List.range 8).map (at8 x)).reverse.foldl stepU 0) = x % 18446744073709551616 := by
  have hr : (List.range 8).map (at8 x) = [at8 x 0, at8 x 1, at8 x 2, at8 x 3, at8 x 4, at8 x 5, at8 x 6, at8 x 7] := rfl
  rw [hr]
  simp only [List.reverse_cons, List.reverse_nil, List.nil_append, List.cons_append, List.foldl_cons, List.foldl_nil]
  obtain ⟨X, hX⟩ : ∃ X, x % 18446744073709551616 = X := ⟨_, rfl⟩
  have h0 : 0 ≤ X := by omega
  have h1 : X < 18446744073709551616 := by omega
  have a7 : at8 x 7 = X / 72057594037927936 := by unfold at8; simp only [Nat.reduceMul, Int.reducePow]; omega
  have a6 : at8 x 6 = X / 281474976710656 % 256 := by unfold at8; simp only [Nat.reduceMul, Int.reducePow]; omega
  have a5 : at8 x 5 = X / 1099511627776 % 256 := by unfold at8; simp only [Nat.reduceMul, Int.reducePow]; omega
  have a4 : at8 x 4 = X / 4294967296 % 256 := by unfold at8; simp only [Nat.reduceMul, Int.reducePow]; omega
  have a3 : at8 x 3 = X / 16777216 % 256 := by unfold at8; simp only [Nat.reduceMul, Int.reducePow]; omega
  have a2 : at8 x 2 = X / 65536 % 256 := by unfold at8; simp only [Nat.reduceMul, Int.reducePow]; omega
  have a1 : at8 x 1 = X / 256 % 256 := by unfold at8; simp only [Nat.reduceMul, Int.reducePow]; omega
  have a0 : at8 x 0 = X % 256 := by unfold at8; simp only [Nat.reduceMul, Int.reducePow]; omega
  rw [a0, a1, a2, a3, a4, a5, a6, a7, hX]
  rw [stepU_small 0 (X / 72057594037927936) (by omega) (by omega) (by omega) (by omega), show 0 * 256 + X / 72057594037927936 = X / 72057594037927936 by omega]
  rw [stepU_small (X / 72057594037927936) (X / 281474976710656 % 256) (by omega) (by omega) (by omega) (by omega), show X / 72057594037927936 * 256 + X / 281474976710656 % 256 = X / 281474976710656 by omega]
  rw [stepU_small (X / 281474976710656) (X / 1099511627776 % 256) (by omega) (by omega) (by omega) (by omega), show X / 281474976710656 * 256 + X / 1099511627776 % 256 = X / 1099511627776 by omega]
  rw [stepU_small (X / 1099511627776) (X / 4294967296 % 256) (by omega) (by omega) (by omega) (by omega), show X / 1099511627776 * 256 + X / 4294967296 % 256 = X / 4294967296 by omega]
  rw [stepU_small (X / 4294967296) (X / 16777216 % 256) (by omega) (by omega) (by omega) (by omega), show X / 4294967296 * 256 + X / 16777216 % 256 = X / 16777216 by omega]
  rw [stepU_small (X / 16777216) (X / 65536 % 256) (by omega) (by omega) (by omega) (by omega), show X / 16777216 * 256 + X / 65536 % 256 = X / 65536 by omega]
  rw [stepU_small (X / 65536) (X / 256 % 256) (by omega) (by omega) (by omega) (by omega), show X / 65536 * 256 + X / 256 % 256 = X / 256 by omega]
  rw [stepU_small (X / 256) (X % 256) (by omega) (by omega) (by omega) (by omega), show X / 256 * 256 + X % 256 = X by omega]
theorem at8_in (x : Int) (j : Nat) : 0 ≤ at8 x j ∧ at8 x j < 256 := by unfold at8; omega
def i64B (x : Int) : Prop := -9223372036854775808 ≤ x ∧ x ≤ 9223372036854775807
theorem range8_in (x : Int) : ∀ y ∈ (List.range 8).map (at8 x), 0 ≤ y ∧ y < 256 := by
  intro y hy
  obtain ⟨j, _, rfl⟩ := List.mem_map.1 hy
  exact at8_in x j
theorem wrap_of_mod (x : Int) (h : i64B x) : wrap64 (x % 18446744073709551616) = x := by
  obtain ⟨h0, h1⟩ := h
  simp only [wrap64]; omega
theorem numN_data (x : Int) (rest : List Int) (h : i64B x) : numN ((List.range 8).map (at8 x) ++ rest) 0 = x := by
  have hl : ((List.range 8).map (at8 x)).length = 8 := rfl
  have e := takeY_ok ((List.range 8).map (at8 x) ++ rest) 8 (by rw [List.length_append, hl]; omega)
  rw [show ((8 : Nat) : Int) = 8 from rfl] at e
  unfold numN
  rw [e, List.take_append_of_le_length (by rw [hl]; omega), List.take_of_length_le (by rw [hl]; omega), numOf_eight _ hl]
  have f := fold_eq ((List.range 8).map (at8 x)).reverse (fun y hy => range8_in x y (List.mem_reverse.1 hy)) 0
  rw [show wrap64 0 = 0 by simp [wrap64]] at f
  rw [f, num_back, wrap_of_mod x h]
theorem takeX_pre (a rest : List Int) : takeX (a ++ rest) 0 (a.length : Int) = rest := by
  have e := takeX_ok (a ++ rest) a.length (by rw [List.length_append]; omega)
  rw [e, List.drop_left]
theorem takeY_pre (a rest : List Int) : takeY (a ++ rest) 0 (a.length : Int) = a := by
  have e := takeY_ok (a ++ rest) a.length (by rw [List.length_append]; omega)
  rw [e, List.take_left]
theorem takeE_pre (a rest : List Int) : takeE (a ++ rest) 0 (a.length : Int) = 0 := takeE_ok (a ++ rest) a.length (by rw [List.length_append]; omega)
theorem valR_data (v : S43) (rest : List Int) (h : okV v) (h0 : v.f0 ≠ 0) (hw : i64B v.f1) : valR (dataOf v ++ rest) 0 v.f0 = ⟨v, rest, 0⟩ := by
  obtain ⟨a, b, c⟩ := v
  unfold okV at h
  dsimp only at h h0 hw ⊢
  rcases h with ⟨rfl, _⟩ | ⟨rfl, hb, hc⟩ | ⟨rfl, hc⟩ | ⟨rfl, hb, hc⟩ | ⟨rfl, rfl, hc⟩
  · exact absurd rfl h0
  · obtain rfl := empty_of c hc
    have e1 : dataOf ⟨1, b, ⟨#[]⟩⟩ = [b] := by unfold dataOf; rcases hb with rfl | rfl <;> rfl
    rw [e1]
    have y := takeY_pre [b] rest
    have x := takeX_pre [b] rest
    have e := takeE_pre [b] rest
    simp only [List.length_singleton, show ((1 : Nat) : Int) = 1 from rfl] at x y e
    unfold valR
    rw [if_pos rfl, x, y, e]
    have : ([b] : List Int).getD 0 0 = b := rfl
    rw [this, if_neg (by omega)]
  · obtain rfl := empty_of c hc
    have e1 : dataOf ⟨2, b, ⟨#[]⟩⟩ = (List.range 8).map (at8 b) := rfl
    rw [e1]
    have x := takeX_pre ((List.range 8).map (at8 b)) rest
    have e := takeE_pre ((List.range 8).map (at8 b)) rest
    simp only [List.length_map, List.length_range, show ((8 : Nat) : Int) = 8 from rfl] at x e
    unfold valR
    rw [if_neg (by decide), if_pos rfl, x, e, numN_data b rest hw]
  · obtain rfl := empty_of c hc
    have e1 : dataOf ⟨3, b, ⟨#[]⟩⟩ = (List.range 8).map (at8 b) := rfl
    rw [e1]
    have x := takeX_pre ((List.range 8).map (at8 b)) rest
    have e := takeE_pre ((List.range 8).map (at8 b)) rest
    simp only [List.length_map, List.length_range, show ((8 : Nat) : Int) = 8 from rfl] at x e
    unfold valR
    rw [if_neg (by decide), if_neg (by decide), if_pos rfl, x, e, numN_data b rest hw, if_neg (by simpa using hb)]
  · have e1 : dataOf ⟨4, 0, c⟩ = (c.size : Int) :: bytesOf c := by
      unfold dataOf
      simp only [show ¬ (4 : Int) = 0 by decide, show ¬ (4 : Int) = 1 by decide, if_false, if_true]
      congr 1
      omega
    rw [e1]
    have y := takeY_pre [(c.size : Int)] (bytesOf c ++ rest)
    have x := takeX_pre [(c.size : Int)] (bytesOf c ++ rest)
    have e := takeE_pre [(c.size : Int)] (bytesOf c ++ rest)
    have y2 := takeY_pre (bytesOf c) rest
    have x2 := takeX_pre (bytesOf c) rest
    have e2 := takeE_pre (bytesOf c) rest
    simp only [List.length_singleton, show ((1 : Nat) : Int) = 1 from rfl, List.singleton_append, bytesOf_length] at x y e x2 y2 e2
    unfold valR textE
    rw [if_neg (by decide), if_neg (by decide), if_neg (by decide), if_pos rfl, List.cons_append, x, y, e]
    have : ([(c.size : Int)] : List Int).getD 0 0 = c.size := rfl
    rw [this, if_neg (by omega), x2, y2, e2, str_of_bytes]
end Go.Proofs.Ytnjobnkkpfaigaa
