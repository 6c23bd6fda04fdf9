/- Layer 5: what a key is read as: numbers, texts, values. -/
import Derived.Test.YthoemenchimggaaDoorPn
namespace Go.Proofs.YthoemenchimggaaDoor
open Go.RowKit Go.Proofs.YthoemenchimggaaDoorW.PrintWords Fl V A
set_option linter.unusedSimpArgs false
set_option linter.unusedVariables false
/-- Bytes. -/
def Bys (l : List Int) : Prop := ∀ x ∈ l, 0 ≤ x ∧ x < 256
theorem stepN_eq (u c : Int) (hu : 0 ≤ u) (hc : 0 ≤ c) (hc2 : c < 256) (h : u * 256 + c < 18446744073709551616) : stepN u c = u * 256 + c := by
  unfold stepN
  rw [u64w', u64w', show u * 256 % 18446744073709551616 = u * 256 by omega, show c % 18446744073709551616 = c by omega,
    u64_or _ _ (by omega) (by omega) (by omega) (by omega)]
  have e : (u * 256).toNat = 2 ^ 8 * u.toNat := by omega
  rw [e, ← Nat.two_pow_add_eq_or_of_lt (show c.toNat < 2 ^ 8 by omega) u.toNat]
  omega
theorem p256 (n : Nat) (h : n ≤ 8) : 256 ^ n ≤ 18446744073709551616 := Nat.le_trans (Nat.pow_le_pow_right (by decide) h) (by decide)
theorem be_num : ∀ (n : Nat) (zs : List Int), zs.length = n → n ≤ 8 → Bys zs → 0 ≤ numU zs ∧ numU zs < ((256 ^ n : Nat) : Int) ∧ be n (numU zs) = zs
  | 0, zs, hl, _, _ => by
    have : zs = [] := List.length_eq_zero_iff.1 hl
    subst this
    exact ⟨by decide, by decide, rfl⟩
  | n + 1, zs, hl, hn, hb => by
    have hne : zs ≠ [] := fun h => by rw [h] at hl; simp at hl
    obtain ⟨ys, c, rfl⟩ : ∃ ys c, zs = ys ++ [c] := ⟨_, _, (List.dropLast_concat_getLast hne).symm⟩
    rw [List.length_append, List.length_singleton] at hl
    obtain ⟨h0, h1, h2⟩ := be_num n ys (by omega) (by omega) (fun x hx => hb x (List.mem_append_left _ hx))
    have hc := hb c (by simp)
    have hp := p256 (n + 1) hn
    rw [Nat.pow_succ] at hp
    generalize hm : 256 ^ n = m at h1 hp
    have hs : stepN (numU ys) c = numU ys * 256 + c := stepN_eq _ _ h0 hc.1 hc.2 (by omega)
    rw [numU_snoc, hs, be, Nat.pow_succ, hm]
    refine ⟨by omega, by omega, ?_⟩
    rw [show (numU ys * 256 + c) / 256 = numU ys by omega, show (numU ys * 256 + c) % 256 = c by omega, h2]
theorem num_be : ∀ (n : Nat) (u : Int), n ≤ 8 → 0 ≤ u → u < ((256 ^ n : Nat) : Int) → numU (be n u) = u
  | 0, u, _, h0, h1 => by
    have : u = 0 := by have e : ((256 ^ 0 : Nat) : Int) = 1 := rfl
                       rw [e] at h1; omega
    subst this; rfl
  | n + 1, u, hn, h0, h1 => by
    have hp := p256 (n + 1) hn
    rw [Nat.pow_succ] at hp h1
    have ih := num_be n (u / 256) (by omega) (by omega)
    generalize 256 ^ n = m at h1 hp ih
    rw [be, numU_snoc, ih (by omega), stepN_eq _ _ (by omega) (by omega) (by omega) (by omega)]
    omega
theorem eight_num (u : Int) (h0 : 0 ≤ u) (h1 : u < 18446744073709551616) : numU (eightB u) = u := by
  rw [eightB_be]
  exact num_be 8 u (by decide) h0 h1
theorem num_eight (zs : List Int) (hl : zs.length = 8) (hb : Bys zs) : eightB (numU zs) = zs ∧ 0 ≤ numU zs ∧ numU zs < 18446744073709551616 := by
  obtain ⟨h0, h1, h2⟩ := be_num 8 zs hl (by decide) hb
  exact ⟨by rw [eightB_be]; exact h2, h0, h1⟩
theorem xorU (u : Int) (h0 : 0 ≤ u) (h1 : u < 18446744073709551616) : wrap64 (bits .xor .u64 u 9223372036854775808) = u - 9223372036854775808 := by
  rw [u64_xor _ _ (by omega) (by omega) (by omega) (by omega)]
  by_cases h : u < 9223372036854775808
  · have := xor63 u.toNat (by omega)
    have e : (u.toNat ^^^ (9223372036854775808 : Int).toNat : Nat) = 2 ^ 63 + u.toNat := this
    rw [e]; simp only [wrap64]; omega
  · have := xor63' (u - 9223372036854775808).toNat (by omega)
    have e0 : u.toNat = 2 ^ 63 + (u - 9223372036854775808).toNat := by omega
    have e : (u.toNat ^^^ (9223372036854775808 : Int).toNat : Nat) = (u - 9223372036854775808).toNat := by rw [e0]; exact this
    rw [e]; simp only [wrap64]; omega
theorem disU_lo (u : Int) (h0 : 0 ≤ u) (h1 : u < 9223372036854775808) : disU u = -1 - u := by
  unfold disU
  have ha : bits .and .u64 u 9223372036854775808 = 0 := by
    rw [u64_and _ _ (by omega) (by omega) (by omega) (by omega)]
    have := and63 u.toNat (by omega)
    show ((u.toNat &&& 2 ^ 63 : Nat) : Int) = _
    rw [this]; rfl
  rw [ha, if_neg (by decide), u64_xor _ _ (by omega) (by omega) (by omega) (by omega)]
  have := not64 u.toNat (by omega)
  have e : ((18446744073709551615 : Int).toNat ^^^ u.toNat : Nat) = 2 ^ 64 - (u.toNat + 1) := this
  rw [e]; simp only [wrap64]; omega
theorem disU_hi (u : Int) (h0 : 9223372036854775808 ≤ u) (h1 : u < 18446744073709551616) : disU u = u - 9223372036854775808 := by
  unfold disU
  have ha : bits .and .u64 u 9223372036854775808 = 9223372036854775808 := by
    rw [u64_and _ _ (by omega) (by omega) (by omega) (by omega)]
    have := and63' (u - 9223372036854775808).toNat (by omega)
    have e0 : u.toNat = 2 ^ 63 + (u - 9223372036854775808).toNat := by omega
    show ((u.toNat &&& 2 ^ 63 : Nat) : Int) = _
    rw [e0, this]; rfl
  rw [ha, if_pos (by decide), u64_andNot _ _ (by omega) (by omega) (by omega) (by omega)]
  have := Nat.and_two_pow_sub_one_eq_mod u.toNat 63
  have e : (u.toNat &&& (18446744073709551615 - (9223372036854775808 : Int).toNat) : Nat) = u.toNat % 2 ^ 63 := this
  rw [e]; simp only [wrap64]; omega
/-- Texts. -/
theorem textP_esc : ∀ (l out rest : List Int), out.length + l.length ≤ 200 → textP (escI l ++ 0 :: 1 :: rest) out = .ok (out ++ l) rest
  | [], out, rest, _ => by simp [escI, textP]
  | x :: l, out, rest, h => by
    rw [List.length_cons] at h
    have ih := textP_esc l (out ++ [x]) rest (by rw [List.length_append, List.length_singleton]; omega)
    rw [escI]
    by_cases h0 : x = 0
    · subst h0
      rw [if_pos rfl, List.cons_append, List.cons_append, textP, if_pos rfl, if_neg (by decide), if_pos rfl, if_neg (by omega), ih, List.append_assoc]
      rfl
    · rw [if_neg h0, List.cons_append, textP_one _ _ _ h0, if_neg (by omega), ih, List.append_assoc]
      rfl
theorem textP_back : ∀ (xs out o rest : List Int), textP xs out = .ok o rest → ∃ l, o = out ++ l ∧ xs = escI l ++ 0 :: 1 :: rest
  | [], out, o, rest, h => by simp [textP] at h
  | [c], out, o, rest, h => by
    simp only [textP] at h
    split at h
    · simp at h
    · split at h <;> simp at h
  | c :: d :: xs, out, o, rest, h => by
    simp only [textP] at h
    split at h
    · rename_i hc
      split at h
      · rename_i hd
        injection h with h1 h2
        exact ⟨[], by rw [h1, List.append_nil], by rw [hc, hd, h2]; rfl⟩
      · split at h
        · rename_i hd
          split at h
          · simp at h
          · obtain ⟨l, h1, h2⟩ := textP_back xs _ o rest h
            exact ⟨0 :: l, by rw [h1, List.append_assoc]; rfl, by rw [hc, hd, h2]; rfl⟩
        · simp at h
    · rename_i hc
      split at h
      · simp at h
      · obtain ⟨l, h1, h2⟩ := textP_back (d :: xs) _ o rest h
        exact ⟨c :: l, by rw [h1, List.append_assoc]; rfl, by rw [h2, escI, if_neg hc]; rfl⟩
theorem textP_err : ∀ (xs out : List Int) (c : Int), textP xs out = .err c → c ≠ 0
  | [], out, c, h => by simp [textP] at h; omega
  | [x], out, c, h => by
    simp only [textP] at h
    repeat' split at h
    all_goals (injection h with h; omega)
  | x :: d :: xs, out, c, h => by
    simp only [textP] at h
    split at h
    · split at h
      · simp at h
      · split at h
        · split at h
          · injection h with h; omega
          · exact textP_err xs _ c h
        · injection h with h; omega
    · split at h
      · injection h with h; omega
      · exact textP_err (d :: xs) _ c h
theorem mem_escI : ∀ (l : List Int) (x : Int), x ∈ l → x ∈ escI l
  | y :: l, x, h => by
    rw [escI]
    rcases List.mem_cons.1 h with rfl | h
    · split
      · rename_i h0; rw [h0]; exact List.mem_cons_self ..
      · exact List.mem_cons_self ..
    · have := mem_escI l x h
      split
      · exact List.mem_cons_of_mem _ (List.mem_cons_of_mem _ this)
      · exact List.mem_cons_of_mem _ this
theorem ba_empty (s : ByteArray) (h : s.size = 0) : s = ⟨#[]⟩ := by
  apply ByteArray.ext
  exact Array.eq_empty_of_size_eq_zero h
theorem strOf_bytes (s : ByteArray) : strOfNums (bytesOf s) = s := by
  apply ByteArray.ext
  apply Array.toList_inj.1
  rw [strOfNums_data]
  unfold bytesOf
  rw [List.map_map]
  conv => rhs; rw [← List.map_id s.data.toList]
  apply List.map_congr_left
  intro b _
  simp
theorem bytes_strOf (l : List Int) (h : Bys l) : bytesOf (strOfNums l) = l := by
  unfold bytesOf
  rw [strOfNums_data, List.map_map]
  conv => rhs; rw [← List.map_id l]
  apply List.map_congr_left
  intro x hx
  have := h x hx
  simp only [Function.comp, id, UInt8.toNat_ofNat']
  omega
theorem textB_esc (s : ByteArray) : textB s = escI (bytesOf s) ++ [0, 1] := by unfold textB; rw [escI_eq _ (bytes_range s)]
theorem canonI_eq (n : Int) : canonI n = if nanB n = true then 9221120237041090560 else n := by
  have e : Fl.nanB (ub n) = nanB n := by
    rw [nan_eq, Bool.eq_iff_iff]
    unfold Fl.nanB ub Ir Sw
    rw [u64w']
    simp only [decide_eq_true_eq, Bool.and_eq_true, bne_iff_ne]
    omega
  unfold canonI
  rw [e]
  rfl
/-- What a value is read as from its key: 0 for a Real -0. -/
def norm (x : S35) : S35 := if x.f0 = 3 ∧ x.f1 = -9223372036854775808 then ⟨x.f0, 0, x.f2⟩ else x
theorem nan0 : nanB 0 = false := by decide +kernel
theorem valP_key (x : S35) (g : Good x) (r : Rg x) (rest : List Int) : valP (keyV x ++ rest) = .ok (norm x) rest := by
  have hk := good_kind g
  have e1 : kindB x.f0 - 1 = x.f0 := by rw [kindB_small _ hk.1 hk.2]; omega
  have e2 : valP (keyV x ++ rest) = valB x.f0 (tailV x ++ rest) := by
    show valB (kindB x.f0 - 1) (tailV x ++ rest) = _
    rw [e1]
  rw [e2]
  obtain ⟨a, b, c⟩ := x
  unfold Good at g
  unfold Rg at r
  dsimp only at g r hk ⊢
  rcases g with ⟨rfl, rfl, h3⟩ | ⟨rfl, h2, h3⟩ | ⟨rfl, h3⟩ | ⟨rfl, h2, h3⟩ | ⟨rfl, rfl, h3⟩
  · rw [ba_empty c h3]; simp [valB, tailV, norm]
  · rw [ba_empty c h3]
    rcases h2 with rfl | rfl
    · simp [valB, tailV, norm]
    · simp [valB, tailV, norm]
  · rw [ba_empty c h3, tailV_2 rfl]
    have hu := intU_eq b r.1 r.2
    have hn : (norm ⟨2, b, ⟨#[]⟩⟩ : S35) = ⟨2, b, ⟨#[]⟩⟩ := by unfold norm; rw [if_neg (fun h => absurd (show (2 : Int) = 3 from h.1) (by decide))]
    rw [hn]
    unfold valB
    dsimp only
    rw [if_neg (by decide), if_neg (by decide), if_pos rfl, if_neg (by rw [List.length_append, eightB_len]; omega), List.take_left' (eightB_len _), List.drop_left' (eightB_len _), hu, eight_num _ (by omega) (by omega), xorU _ (by omega) (by omega)]
    rw [show b + 9223372036854775808 - 9223372036854775808 = b by omega]
  · rw [ba_empty c h3, tailV_3 rfl]
    have hu := ordU_eq b r.1 r.2
    obtain ⟨d, hd⟩ : ∃ d, d = if b = -9223372036854775808 then 0 else b := ⟨_, rfl⟩
    have hn : (norm ⟨3, b, ⟨#[]⟩⟩ : S35) = ⟨3, d, ⟨#[]⟩⟩ := by
      unfold norm
      by_cases h : b = -9223372036854775808
      · rw [if_pos ⟨rfl, h⟩, hd, if_pos h]
      · rw [if_neg (fun q => h q.2), hd, if_neg h]
    have hr : 0 ≤ rise b ∧ rise b < 18446744073709551616 := by unfold rise; repeat' split
                                                               all_goals omega
    have hdis : disU (rise b) = d := by
      rw [hd]
      unfold rise
      by_cases h : b = -9223372036854775808
      · rw [if_pos h, if_pos h, disU_hi _ (by omega) (by omega)]; rfl
      · rw [if_neg h, if_neg h]
        by_cases h0 : b < 0
        · rw [if_pos h0, disU_lo _ (by omega) (by omega)]; omega
        · rw [if_neg h0, disU_hi _ (by omega) (by omega)]; omega
    have hd1 : -9223372036854775808 ≤ d ∧ d < 9223372036854775808 := by rw [hd]; split <;> omega
    have hord : ordU d = rise b := by
      rw [ordU_eq d hd1.1 hd1.2, hd]
      unfold rise
      by_cases h : b = -9223372036854775808
      · rw [if_pos h, if_pos h]; decide
      · rw [if_neg h]
    have hcan : canonI d = d := by
      rw [canonI_eq, hd]
      by_cases h : b = -9223372036854775808
      · rw [if_pos h, nan0, if_neg (by decide)]
      · rw [if_neg h]
        cases hnn : nanB b
        · rw [if_neg (by decide)]
        · rw [if_pos rfl, h2 hnn]
    rw [hn]
    unfold valB
    dsimp only
    rw [if_neg (by decide), if_neg (by decide), if_neg (by decide), if_pos rfl, if_neg (by rw [List.length_append, eightB_len]; omega), List.take_left' (eightB_len _), List.drop_left' (eightB_len _), hu, eight_num _ hr.1 hr.2, hdis, hord, hcan,
      bne_self_eq_false, if_neg (by decide), bne_self_eq_false, if_neg (by decide)]
  · rw [tailV_4 rfl, textB_esc]
    have hn : (norm ⟨4, 0, c⟩ : S35) = ⟨4, 0, c⟩ := by unfold norm; rw [if_neg (fun h => absurd (show (4 : Int) = 3 from h.1) (by decide))]
    rw [hn]
    have ht := textP_esc (bytesOf c) [] rest (by rw [bytesOf_length, List.length_nil]; omega)
    unfold valB
    dsimp only
    rw [if_neg (by decide), if_neg (by decide), if_neg (by decide), if_neg (by decide), if_pos rfl, List.append_assoc]
    rw [show [(0 : Int), 1] ++ rest = 0 :: 1 :: rest from rfl, ht]
    dsimp only
    rw [List.nil_append, strOf_bytes]
theorem keyV_ne (x : S35) (t : List Int) : keyV x ++ t ≠ [] := by unfold keyV; simp
theorem decP_key : ∀ (l : List S35) (k : Nat) (acc : List S35), (∀ x ∈ l, Good x ∧ Rg x) → l.length ≤ k → decP k (keyL l) acc = (acc ++ l.map norm, 0)
  | [], k, acc, _, _ => by rw [keyL, decP_nil]; simp
  | x :: l, k, acc, h, hk => by
    rw [List.length_cons] at hk
    obtain ⟨j, rfl⟩ : ∃ j, k = j + 1 := ⟨k - 1, by omega⟩
    have hx := h x (List.mem_cons_self ..)
    rw [keyL_cons, decP, if_neg (keyV_ne _ _), valP_key x hx.1 hx.2]
    dsimp only
    rw [decP_key l j _ (fun y hy => h y (List.mem_cons_of_mem _ hy)) (by omega)]
    simp
theorem keyL_len (l : List S35) : l.length ≤ (keyL l).length := by
  induction l with
  | nil => simp [keyL]
  | cons x l ih => rw [keyL, List.length_cons, List.length_cons, List.length_append]; omega
theorem decK_key (l : List S35) (h : ∀ x ∈ l, Good x ∧ Rg x) : decK (keyL l) = (l.map norm, 0) := by
  unfold decK
  rw [decP_key l _ [] h (keyL_len l), List.nil_append]
theorem eightB_bytes (u : Int) : Bys (eightB u) := by
  intro x hx
  unfold eightB at8u at hx
  obtain ⟨j, _, rfl⟩ := List.mem_map.1 hx
  exact ⟨by omega, by omega⟩
theorem escI_bytes : ∀ l : List Int, Bys l → Bys (escI l)
  | [], _ => fun x hx => by cases hx
  | y :: l, h => by
    have ih := escI_bytes l (fun z hz => h z (List.mem_cons_of_mem _ hz))
    have hy := h y (List.mem_cons_self ..)
    rw [escI]
    intro x hx
    split at hx
    · rcases List.mem_cons.1 hx with rfl | hx
      · decide
      · rcases List.mem_cons.1 hx with rfl | hx
        · decide
        · exact ih x hx
    · rcases List.mem_cons.1 hx with rfl | hx
      · exact hy
      · exact ih x hx
theorem tailV_bytes (x : S35) : Bys (tailV x) := by
  unfold tailV
  repeat' split
  · intro y hy
    rw [List.mem_singleton] at hy
    subst hy
    exact ⟨by omega, by omega⟩
  · exact eightB_bytes _
  · exact eightB_bytes _
  · rw [textB_esc]
    intro y hy
    rcases List.mem_append.1 hy with hy | hy
    · exact escI_bytes _ (bytes_range _) y hy
    · simp only [List.mem_cons, List.not_mem_nil, or_false] at hy
      omega
  · intro y hy; cases hy
theorem keyL_bytes : ∀ l : List S35, Bys (keyL l)
  | [] => fun x hx => by cases hx
  | v :: l => by
    have ih := keyL_bytes l
    intro x hx
    rw [keyL] at hx
    rcases List.mem_cons.1 hx with rfl | hx
    · unfold kindB; exact ⟨by omega, by omega⟩
    · rcases List.mem_append.1 hx with hx | hx
      · exact tailV_bytes v x hx
      · exact ih x hx
theorem bytesB_of {l : List Int} (h : Bys l) : bytesB l = true := by
  unfold bytesB
  rw [List.all_eq_true]
  intro x hx
  have := h x hx
  simp [this.1, this.2]
theorem decode_eq (l : List Int) (h : Bys l) (hl : l.length ≤ 4398046511104) : keys_Decode.f l = some (decK l) := by
  unfold keys_Decode.f
  rw [bytesB_of h, decide_eq_true hl, if_pos (by decide)]
/-- What is read as values makes these bytes again. -/
theorem valP_err (xs : List Int) (c : Int) (h : valP xs = .err c) : c ≠ 0 := by
  cases xs with
  | nil => simp only [valP] at h; injection h with h; omega
  | cons y ys =>
    have h' : valB (y - 1) ys = .err c := h
    unfold valB at h'
    split at h'
    · simp at h'
    · split at h'
      · cases ys with
        | nil => dsimp only at h'; injection h' with h'; omega
        | cons z zs =>
          dsimp only at h'
          split at h'
          · injection h' with h'; omega
          · simp at h'
      · split at h'
        · split at h'
          · injection h' with h'; omega
          · simp at h'
        · split at h'
          · split at h'
            · injection h' with h'; omega
            · split at h'
              · injection h' with h'; omega
              · split at h'
                · injection h' with h'; omega
                · simp at h'
          · split at h'
            · cases ht : textP ys [] with
              | ok o r => rw [ht] at h'; simp at h'
              | err e =>
                rw [ht] at h'
                dsimp only at h'
                injection h' with h'
                have := textP_err ys [] e ht
                omega
            · injection h' with h'; omega
theorem valP_back (xs rest : List Int) (v : S35) (hb : Bys xs) (h : valP xs = .ok v rest) : xs = keyV v ++ rest := by
  cases xs with
  | nil => simp [valP] at h
  | cons y ys =>
    have h' : valB (y - 1) ys = .ok v rest := h
    have hy := hb y (List.mem_cons_self ..)
    have hys : Bys ys := fun x hx => hb x (List.mem_cons_of_mem _ hx)
    have hkind : ∀ k : Int, 0 ≤ k → k ≤ 4 → y - 1 = k → kindB k = y := fun k h0 h1 e => by rw [kindB_small k h0 h1]; omega
    unfold valB at h'
    split at h'
    · rename_i hk
      injection h' with h1 h2
      subst h1 h2
      unfold keyV
      dsimp only
      rw [hkind 0 (by decide) (by decide) hk, tailV_0 (by decide) (by decide) (by decide) (by decide)]
      rfl
    · split at h'
      · rename_i hk
        cases ys with
        | nil => simp at h'
        | cons z zs =>
          dsimp only at h'
          split at h'
          · simp at h'
          · injection h' with h1 h2
            subst h1 h2
            have hz := hys z (List.mem_cons_self ..)
            unfold keyV
            dsimp only
            rw [hkind 1 (by decide) (by decide) hk, tailV_1 rfl]
            dsimp only
            rw [show z % 256 = z by omega]
            rfl
      · split at h'
        · rename_i hk
          split at h'
          · simp at h'
          · rename_i hl
            injection h' with h1 h2
            subst h1 h2
            obtain ⟨n1, n2, n3⟩ := num_eight (ys.take 8) (by rw [List.length_take]; omega) (fun x hx => hys x (List.mem_of_mem_take hx))
            unfold keyV
            dsimp only
            rw [hkind 2 (by decide) (by decide) hk, tailV_2 rfl]
            dsimp only
            rw [xorU _ n2 n3, intU_eq _ (by omega) (by omega), show numU (ys.take 8) - 9223372036854775808 + 9223372036854775808 = numU (ys.take 8) by omega, n1, List.cons_append, List.take_append_drop]
        · split at h'
          · rename_i hk
            split at h'
            · simp at h'
            · rename_i hl
              split at h'
              · simp at h'
              · rename_i ho
                split at h'
                · simp at h'
                · injection h' with h1 h2
                  subst h1 h2
                  obtain ⟨n1, n2, n3⟩ := num_eight (ys.take 8) (by rw [List.length_take]; omega) (fun x hx => hys x (List.mem_of_mem_take hx))
                  have ho' : ordU (disU (numU (ys.take 8))) = numU (ys.take 8) := by simpa using ho
                  unfold keyV
                  dsimp only
                  rw [hkind 3 (by decide) (by decide) hk, tailV_3 rfl]
                  dsimp only
                  rw [ho', n1, List.cons_append, List.take_append_drop]
          · split at h'
            · rename_i hk
              cases ht : textP ys [] with
              | err e => rw [ht] at h'; simp at h'
              | ok o r =>
                rw [ht] at h'
                dsimp only at h'
                injection h' with h1 h2
                subst h1 h2
                obtain ⟨l, e1, e2⟩ := textP_back ys [] o r ht
                rw [List.nil_append] at e1
                subst e1
                have hl : Bys o := fun x hx => hys x (by rw [e2]; exact List.mem_append_left _ (mem_escI o x hx))
                unfold keyV
                dsimp only
                rw [hkind 4 (by decide) (by decide) hk, tailV_4 rfl, textB_esc]
                dsimp only
                rw [bytes_strOf o hl, e2, List.cons_append, List.append_assoc]
                rfl
            · simp at h'
theorem decP_back : ∀ (k : Nat) (xs : List Int) (acc l : List S35), xs.length ≤ k → Bys xs → decP k xs acc = (l, 0) → ∃ m, l = acc ++ m ∧ keyL m = xs
  | 0, xs, acc, l, hk, _, h => by
    have : xs = [] := List.length_eq_zero_iff.1 (by omega)
    subst this
    rw [decP] at h
    injection h with h _
    exact ⟨[], by rw [h, List.append_nil], rfl⟩
  | k + 1, xs, acc, l, hk, hb, h => by
    rw [decP] at h
    split at h
    · rename_i hx
      injection h with h _
      exact ⟨[], by rw [h, List.append_nil], hx.symm⟩
    · cases hv : valP xs with
      | err c =>
        rw [hv] at h
        dsimp only at h
        injection h with _ h
        exact absurd h (valP_err xs c hv)
      | ok v rest =>
        rw [hv] at h
        dsimp only at h
        have hx := valP_back xs rest v hb hv
        have hlen : rest.length + 1 ≤ xs.length := by
          rw [hx]; unfold keyV; rw [List.length_append, List.length_cons]; omega
        obtain ⟨m, h1, h2⟩ := decP_back k rest _ l (by omega) (fun x hx' => hb x (by rw [hx]; exact List.mem_append_right _ hx')) h
        exact ⟨v :: m, by rw [h1, List.append_assoc]; rfl, by rw [keyL_cons, h2, ← hx]⟩
theorem decK_back (b : List Int) (hb : Bys b) (l : List S35) (h : decK b = (l, 0)) : keyL l = b := by
  obtain ⟨m, h1, h2⟩ := decP_back b.length b [] l (Nat.le_refl _) hb h
  rw [List.nil_append] at h1
  rw [h1, h2]
end Go.Proofs.YthoemenchimggaaDoor
