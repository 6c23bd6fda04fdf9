/- Layer 5: the order of two right values is that of their keys. -/
import Derived.Test.YthoemenchimggaaDoorPo
namespace Go.Proofs.YthoemenchimggaaDoor
open Go.RowKit Go.Proofs.YthoemenchimggaaDoorW.PrintWords Fl V A
set_option linter.unusedSimpArgs false
set_option linter.unusedVariables false
theorem w64s' (i : Nat) (h : i < 140737488355328) (h0 : 0 < i) : wrap64 ((i : Int) - 1) = ((i - 1 : Nat) : Int) := by simp only [wrap64]; omega
theorem nan_lo (n : Int) (h : nanB n = false) (h0 : 0 ≤ n) (h2 : n < 9223372036854775808) : n ≤ 9218868437227405312 := by
  rw [nan_eq] at h
  rw [Bool.and_eq_false_iff, decide_eq_false_iff_not, bne_eq_false_iff_eq] at h
  omega
def pl (n : Int) : Int := if nanB n = true then 9223372036854775807 else if n < 0 then -(n + 9223372036854775808) else n
theorem place_eq (n : Int) (h1 : -9223372036854775808 ≤ n) (h2 : n < 9223372036854775808) : haspref01_place.f n = some (pl n) := by
  unfold haspref01_place.f haspref01_Parts.f pl
  rw [isnan_eq, Option.bind_some, Option.bind_some]
  cases nanB n
  · rw [if_neg (c := false = true) (by decide), if_neg (c := false = true) (by decide)]
    dsimp only
    rw [u64w', mask11' _ (by omega) (by omega), mask52' _ (by omega) (by omega)]
    have w1 : wrap64 (wrap64 (wrap64 (n % 18446744073709551616 / 4503599627370496 % 2048) * 4503599627370496) + wrap64 (n % 18446744073709551616 % 4503599627370496)) = n % 9223372036854775808 := by simp only [wrap64]; omega
    show (if wrap64 (n % 18446744073709551616 / 9223372036854775808) = 1 then some (wrap64 (-(wrap64 (wrap64 (wrap64 (n % 18446744073709551616 / 4503599627370496 % 2048) * 4503599627370496) + wrap64 (n % 18446744073709551616 % 4503599627370496))))) else some (wrap64 (wrap64 (wrap64 (n % 18446744073709551616 / 4503599627370496 % 2048) * 4503599627370496) + wrap64 (n % 18446744073709551616 % 4503599627370496)))) = _
    rw [w1]
    have w2 : wrap64 (n % 18446744073709551616 / 9223372036854775808) = n % 18446744073709551616 / 9223372036854775808 := by simp only [wrap64]; omega
    rw [w2]
    by_cases h : n < 0
    · rw [if_pos (by omega), if_pos h]
      congr 1
      simp only [wrap64]; omega
    · rw [if_neg (by omega), if_neg h]
      congr 1
      omega
  · rw [if_pos rfl, if_pos rfl]
theorem nan922 : nanB 9221120237041090560 = true := by decide +kernel
theorem rise_lt (n m : Int) (gn : nanB n = true → n = 9221120237041090560) (gm : nanB m = true → m = 9221120237041090560)
    (hn1 : -9223372036854775808 ≤ n) (hn2 : n < 9223372036854775808) (hm1 : -9223372036854775808 ≤ m) (hm2 : m < 9223372036854775808) :
    (pl n < pl m ↔ rise n < rise m) := by
  have ln := nan_lo n
  have lm := nan_lo m
  unfold pl rise
  cases hn : nanB n <;> cases hm : nanB m
  · have ln := ln hn; have lm := lm hm
    rw [if_neg (c := false = true) (by decide), if_neg (c := false = true) (by decide)]
    repeat' split
    all_goals omega
  · have ln := ln hn; have gm := gm hm
    rw [if_neg (c := false = true) (by decide), if_pos rfl]
    repeat' split
    all_goals omega
  · have lm := lm hm; have gn := gn hn
    rw [if_pos rfl, if_neg (c := false = true) (by decide)]
    repeat' split
    all_goals omega
  · have gn := gn hn; have gm := gm hm
    rw [if_pos rfl, if_pos rfl, gn, gm]
    omega
theorem rise_range (n : Int) (hn1 : -9223372036854775808 ≤ n) (hn2 : n < 9223372036854775808) : 0 ≤ rise n ∧ rise n < 18446744073709551616 := by
  unfold rise
  repeat' split
  all_goals omega
/-- Texts. -/
theorem esc_lt : ∀ (a b : List UInt8), Op.bytesLess a b = true → Lt1 (escI (numsB a) ++ [0, 1]) (escI (numsB b) ++ [0, 1])
  | [], [], h => by simp [Op.bytesLess] at h
  | _ :: _, [], h => by simp [Op.bytesLess] at h
  | [], y :: b, _ => by
    show Lt1 [0, 1] (escI ((y.toNat : Int) :: numsB b) ++ [0, 1])
    rw [escI]
    by_cases h0 : (y.toNat : Int) = 0
    · rw [if_pos h0]
      exact (Lt1.head (by decide : (1 : Int) < 255) [] (escI (numsB b) ++ [0, 1])).cons 0
    · rw [if_neg h0]
      exact Lt1.head (by omega) _ _
  | x :: a, y :: b, h => by
    show Lt1 (escI ((x.toNat : Int) :: numsB a) ++ [0, 1]) (escI ((y.toNat : Int) :: numsB b) ++ [0, 1])
    rw [escI, escI]
    have hor : x < y ∨ (x = y ∧ Op.bytesLess a b = true) := by
      simpa [Op.bytesLess] using h
    rcases hor with hl | ⟨rfl, hl⟩
    · have hl' : (x.toNat : Int) < (y.toNat : Int) := by
        have := UInt8.lt_iff_toNat_lt.1 hl
        omega
      rw [if_neg (c := (y.toNat : Int) = 0) (by omega)]
      split
      · exact Lt1.head (by omega) _ _
      · exact Lt1.head hl' _ _
    · have ih := esc_lt a b hl
      split
      · exact ih.pre [0, 255]
      · exact ih.cons _
theorem less_total : ∀ (a b : List UInt8), Op.bytesLess a b = false → a ≠ b → Op.bytesLess b a = true
  | [], [], _, h => absurd rfl h
  | _ :: _, [], _, _ => by simp [Op.bytesLess]
  | [], _ :: _, h, _ => by simp [Op.bytesLess] at h
  | x :: a, y :: b, h, hn => by
    have h' : ¬ x < y ∧ (x = y → Op.bytesLess a b = false) := by simpa [Op.bytesLess] using h
    show (decide (y < x) || (y == x && Op.bytesLess b a)) = true
    by_cases e : x = y
    · subst e
      have := less_total a b (h'.2 rfl) (fun h => hn (by rw [h]))
      simp [this]
    · have : y < x := by
        rcases UInt8.lt_or_lt_of_ne e with h | h
        · exact absurd h h'.1
        · exact h
      simp [this]
theorem textB_eq (s : ByteArray) : textB s = escI (numsB s.toList) ++ [0, 1] := by
  have e : bytesOf s = numsB s.toList := by rw [ByteArray.toList_eq]; rfl
  unfold textB
  rw [escI_eq _ (bytes_range s), e]
/-- What an order's answer says of two keys. -/
def Tells (c : Int) (a b : List Int) : Prop := (c = 0 ∧ a = b) ∨ (c = -1 ∧ Lt1 a b) ∨ (c = 1 ∧ Lt1 b a)
theorem Tells.cons {c : Int} {a b : List Int} (h : Tells c a b) (q : Int) : Tells c (q :: a) (q :: b) := by
  rcases h with ⟨h, e⟩ | ⟨h, e⟩ | ⟨h, e⟩
  · exact .inl ⟨h, by rw [e]⟩
  · exact .inr (.inl ⟨h, e.cons q⟩)
  · exact .inr (.inr ⟨h, e.cons q⟩)
theorem tells_num (c u v : Int) (h : c = if u < v then -1 else if v < u then 1 else 0) (hu : 0 ≤ u ∧ u < 18446744073709551616) (hv : 0 ≤ v ∧ v < 18446744073709551616) : Tells c (eightB u) (eightB v) := by
  subst h
  by_cases h1 : u < v
  · rw [if_pos h1]; exact .inr (.inl ⟨rfl, eight_lt u v hu.1 h1 hv.2⟩)
  · rw [if_neg h1]
    by_cases h2 : v < u
    · rw [if_pos h2]; exact .inr (.inr ⟨rfl, eight_lt v u hv.1 h2 hu.2⟩)
    · rw [if_neg h2]; exact .inl ⟨rfl, by rw [show u = v by omega]⟩
theorem less_eq (a b : Int) : haspref02_less.f (decide (a < b)) (decide (b < a)) = some (if a < b then -1 else if b < a then 1 else 0) := by
  unfold haspref02_less.f
  by_cases h : a < b
  · rw [if_pos (decide_eq_true h), if_pos h]
  · rw [if_neg (by simpa using h), if_neg h]
    by_cases h2 : b < a
    · rw [if_pos (decide_eq_true h2), if_pos h2]
    · rw [if_neg (by simpa using h2), if_neg h2]
theorem tells_text (s t : ByteArray) : Tells (cmpS s t) (textB s) (textB t) := by
  rw [textB_eq, textB_eq]
  unfold cmpS
  cases h : Op.bytesLess s.toList t.toList
  · rw [if_neg (by decide)]
    by_cases e : s.toList = t.toList
    · rw [if_pos (by simpa using e), e]
      exact .inl ⟨rfl, rfl⟩
    · rw [if_neg (by simpa using e)]
      exact .inr (.inr ⟨rfl, esc_lt _ _ (less_total _ _ h e)⟩)
  · rw [if_pos rfl]
    exact .inr (.inl ⟨rfl, esc_lt _ _ h⟩)
theorem val_tells (x y : S35) (gx : Good x) (gy : Good y) (rx : Rg x) (ry : Rg y) : ∃ c, haspref02_Compare.f x.f0 x.f1 x.f2 y.f0 y.f1 y.f2 = some c ∧ Tells c (keyV x) (keyV y) := by
  have kx := good_kind gx
  have ky := good_kind gy
  unfold haspref02_Compare.f keyV
  by_cases e : x.f0 = y.f0
  · rw [if_pos e, e]
    by_cases k0 : y.f0 = 0
    · rw [if_pos k0]
      refine ⟨0, rfl, .inl ⟨rfl, ?_⟩⟩
      rw [tailV_0 (by omega) (by omega) (by omega) (by omega), tailV_0 (by omega) (by omega) (by omega) (by omega)]
    · rw [if_neg k0]
      by_cases k3 : y.f0 = 3
      · rw [if_pos k3]
        have g1 : nanB x.f1 = true → x.f1 = 9221120237041090560 := by rcases gx with h | h | h | h | h <;> first | exact h.2.1 | omega
        have g2 : nanB y.f1 = true → y.f1 = 9221120237041090560 := by rcases gy with h | h | h | h | h <;> first | exact h.2.1 | omega
        unfold haspref01_Order.f
        rw [place_eq _ rx.1 rx.2, place_eq _ ry.1 ry.2, Option.bind_some, Option.bind_some, tailV_3 (e.trans k3), tailV_3 k3, ordU_eq _ rx.1 rx.2, ordU_eq _ ry.1 ry.2]
        have a1 := rise_lt x.f1 y.f1 g1 g2 rx.1 rx.2 ry.1 ry.2
        have a2 := rise_lt y.f1 x.f1 g2 g1 ry.1 ry.2 rx.1 rx.2
        refine ⟨if pl x.f1 < pl y.f1 then -1 else if pl y.f1 < pl x.f1 then 1 else 0, ?_, (tells_num _ _ _ ?_ (rise_range _ rx.1 rx.2) (rise_range _ ry.1 ry.2)).cons _⟩
        · by_cases h1 : pl x.f1 < pl y.f1
          · rw [if_pos h1, if_pos h1]
          · rw [if_neg h1, if_neg h1]
            by_cases h2 : pl y.f1 < pl x.f1
            · rw [if_pos (show pl x.f1 > pl y.f1 from h2), if_pos h2]
            · rw [if_neg (show ¬ pl x.f1 > pl y.f1 from h2), if_neg h2]
        · simp only [a1, a2]
      · rw [if_neg k3]
        by_cases k4 : y.f0 = 4
        · rw [if_pos k4, tailV_4 (e.trans k4), tailV_4 k4]
          exact ⟨_, rfl, (tells_text _ _).cons _⟩
        · rw [if_neg k4, less_eq]
          refine ⟨_, rfl, ?_⟩
          by_cases k2 : y.f0 = 2
          · rw [tailV_2 (e.trans k2), tailV_2 k2, intU_eq _ rx.1 rx.2, intU_eq _ ry.1 ry.2]
            obtain ⟨rx1, rx2⟩ := rx
            obtain ⟨ry1, ry2⟩ := ry
            refine (tells_num _ _ _ ?_ ⟨by omega, by omega⟩ ⟨by omega, by omega⟩).cons _
            repeat' split
            all_goals omega
          · have k1 : y.f0 = 1 := by omega
            rw [tailV_1 (e.trans k1), tailV_1 k1]
            have b1 : x.f1 = 0 ∨ x.f1 = 1 := by rcases gx with h | h | h | h | h <;> first | exact h.2.1 | omega
            have b2 : y.f1 = 0 ∨ y.f1 = 1 := by rcases gy with h | h | h | h | h <;> first | exact h.2.1 | omega
            refine Tells.cons ?_ _
            rcases b1 with b1 | b1 <;> rcases b2 with b2 | b2 <;> rw [b1, b2]
            · exact .inl ⟨by decide, rfl⟩
            · exact .inr (.inl ⟨by decide, Lt1.head (by decide) _ _⟩)
            · exact .inr (.inr ⟨by decide, Lt1.head (by decide) _ _⟩)
            · exact .inl ⟨by decide, rfl⟩
  · rw [if_neg e, kindB_small _ kx.1 kx.2, kindB_small _ ky.1 ky.2]
    unfold haspref02_less.f
    by_cases h : x.f0 < y.f0
    · rw [if_pos (decide_eq_true h)]
      exact ⟨-1, rfl, .inr (.inl ⟨rfl, Lt1.head (by omega) _ _⟩)⟩
    · rw [if_neg (by simpa using h), if_pos rfl]
      exact ⟨1, rfl, .inr (.inr ⟨rfl, Lt1.head (by omega) _ _⟩)⟩
theorem keyL_pos (x : S35) (l : List S35) : ∃ y t, keyL (x :: l) = y :: t := ⟨_, _, rfl⟩
theorem rows_at : ∀ (m : Nat) (a b : List S35) (i g : Nat), a.length - i ≤ m → i ≤ a.length → i ≤ b.length → a.length ≤ 4398046511104 → b.length ≤ 4398046511104 →
    (∀ x ∈ a, Good x ∧ Rg x) → (∀ x ∈ b, Good x ∧ Rg x) → haspref02_Rows.l0 (2 * m + g + 2) a b i = some (ordL (keyL (a.drop i)) (keyL (b.drop i))) := by
  intro m
  induction m with
  | zero =>
    intro a b i g hm hi hj ha hb _ _
    have : i = a.length := by omega
    subst this
    rw [show 2 * 0 + g + 2 = g + 1 + 1 by omega, haspref02_Rows.l0, if_neg (by omega), haspref02_Rows.j1, if_neg (by decide), List.drop_length, less_eq, Option.bind_some]
    by_cases h : a.length < b.length
    · rw [if_pos (by omega), List.drop_eq_getElem_cons h, keyL, keyL, ordL]
    · rw [if_neg (by omega), if_neg (by omega), List.drop_of_length_le (by omega), keyL, ordL]
  | succ m ih =>
    intro a b i g hm hi hj ha hb ga gb
    rw [show 2 * (m + 1) + g + 2 = (2 * m + g + 2) + 1 + 1 by omega, haspref02_Rows.l0]
    by_cases h : i < a.length
    · rw [if_pos (by omega), haspref02_Rows.j1]
      by_cases h2 : i < b.length
      · rw [if_pos (by simpa using h2), if_pos (by omega), if_pos (by omega), if_pos (by omega), rdv_at a i h, rdv_at b i h2]
        obtain ⟨c, hc, ht⟩ := val_tells a[i] b[i] (ga _ (List.getElem_mem h)).1 (gb _ (List.getElem_mem h2)).1 (ga _ (List.getElem_mem h)).2 (gb _ (List.getElem_mem h2)).2
        rw [hc, Option.bind_some, List.drop_eq_getElem_cons h, List.drop_eq_getElem_cons h2, keyL_cons, keyL_cons]
        rcases ht with ⟨rfl, e⟩ | ⟨rfl, e⟩ | ⟨rfl, e⟩
        · rw [if_pos rfl, e, ordL_pre, w64n i (by omega), ih a b (i + 1) g (by omega) (by omega) (by omega) ha hb ga gb]
        · rw [if_neg (by decide), (e.app _ _).lt]
        · rw [if_neg (by decide), (e.app _ _).gt]
      · rw [if_neg (by simpa using h2), less_eq, Option.bind_some, if_neg (by omega), if_pos (by omega), List.drop_eq_getElem_cons h, List.drop_of_length_le (i := i) (l := b) (by omega), keyL, keyL, ordL]
    · have : i = a.length := by omega
      subst this
      rw [if_neg (by omega), haspref02_Rows.j1, if_neg (by decide), List.drop_length, less_eq, Option.bind_some]
      by_cases h : a.length < b.length
      · rw [if_pos (by omega), List.drop_eq_getElem_cons h, keyL, keyL, ordL]
      · rw [if_neg (by omega), if_neg (by omega), List.drop_of_length_le (by omega), keyL, ordL]
theorem rows_eq (a b : List S35) (k : Nat) (hk : 2 * a.length + 2 ≤ k) (ha : a.length ≤ 4398046511104) (hb : b.length ≤ 4398046511104)
    (ga : ∀ x ∈ a, Good x ∧ Rg x) (gb : ∀ x ∈ b, Good x ∧ Rg x) : haspref02_Rows.f k a b = some (ordL (keyL a) (keyL b)) := by
  have h := rows_at a.length a b 0 (k - 2 * a.length - 2) (by omega) (by omega) (by omega) ha hb ga gb
  rw [show 2 * a.length + (k - 2 * a.length - 2) + 2 = k by omega, List.drop_zero, List.drop_zero] at h
  exact h
theorem OrdersPure (a b : List S35) (hl : a.length + b.length ≤ 10000000) (ra : ∀ x ∈ a, Rg x) (rb : ∀ x ∈ b, Rg x) : ∃ k, hasplaw05_KeysOrders.f k a b = some true := by
  refine ⟨900 * a.length + 900 * b.length + 101, ?_⟩
  unfold hasplaw05_KeysOrders.f
  rw [speaks_eq _ (by omega), Option.bind_some, if_pos rfl]
  obtain ⟨x, hx, gx⟩ := right_eq a (900 * a.length + 900 * b.length + 101) (by omega) (by omega)
  obtain ⟨y, hy, gy⟩ := right_eq b (900 * a.length + 900 * b.length + 101) (by omega) (by omega)
  rw [hx, Option.bind_some]
  cases x
  · rw [if_neg (by decide), hasplaw05_KeysOrders.j0, if_pos rfl]
  · rw [if_pos rfl, hy, Option.bind_some]
    cases y
    · rw [Bool.not_false, hasplaw05_KeysOrders.j0, if_pos rfl]
    · have ga := gx rfl
      have gb := gy rfl
      have hka := keyL_bound a ga
      have hkb := keyL_bound b gb
      rw [Bool.not_true, hasplaw05_KeysOrders.j0, if_neg (by decide), copy_eq a _ (by omega) (by omega), Option.bind_some, encode_eq a ga (by omega), Option.bind_some,
        copy_eq b _ (by omega) (by omega), Option.bind_some, encode_eq b gb (by omega), Option.bind_some, order_eq _ _ _ (by omega) (by omega) (by omega), Option.bind_some,
        rows_eq a b _ (by omega) (by omega) (by omega) (fun v hv => ⟨ga v hv, ra v hv⟩) (fun v hv => ⟨gb v hv, rb v hv⟩), Option.bind_some, if_pos rfl]
      by_cases h0 : a.length = 0
      · rw [if_pos (by omega)]
      · rw [if_neg (by omega), w64s' a.length (by omega) (by omega), if_pos (by omega), if_pos (by omega), Int.toNat_natCast]
        have gt : ∀ v ∈ a.take (a.length - 1), Good v := fun v hv => ga v (List.mem_of_mem_take hv)
        have hkt := keyL_bound _ gt
        rw [List.length_take] at hkt
        rw [copy_eq _ _ (by rw [List.length_take]; omega) (by rw [List.length_take]; omega), Option.bind_some, encode_eq _ gt (by rw [List.length_take]; omega), Option.bind_some,
          begins_eq _ _ _ (by omega) (by omega), Option.bind_some]
        have : keyL (a.take (a.length - 1)) <+: keyL a := by
          refine ⟨keyL (a.drop (a.length - 1)), ?_⟩
          rw [← keyL_append, List.take_append_drop]
        exact congrArg some (decide_eq_true this)
end Go.Proofs.YthoemenchimggaaDoor
