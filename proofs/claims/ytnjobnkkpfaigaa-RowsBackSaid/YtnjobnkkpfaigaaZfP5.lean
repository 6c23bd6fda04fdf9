import Derived.Test.YtnjobnkkpfaigaaZfP4
/- Layer 6: the program's Encode, by a plain description. -/
namespace Go.Proofs.Ytnjobnkkpfaigaa
open Go.RowKit Go.Proofs.YtnjobnkkpfaigaaW.PrintWords Go.Proofs.YtnjobnkkpfaigaaW.PrintMore Fl V A
set_option linter.unusedSimpArgs false
set_option linter.unusedVariables false
def at8 (x : Int) (j : Nat) : Int := x / 2 ^ (8 * j) % 256
def dataOf (v : S43) : List Int :=
  if v.f0 = 0 then [] else if v.f0 = 1 then [v.f1 % 256] else if v.f0 = 4 then ((v.f2.size : Int) % 256) :: bytesOf v.f2 else (List.range 8).map (at8 v.f1)
def nf (r : List S43) : List Bool := r.map fun v => decide (v.f0 = 0)
theorem encl1_at : ∀ (m j : Nat) (g : Nat) (x : List Int) (r : List S43) (n : Int) (i : Int) (a b : Int) (c : ByteArray), 8 - j = m → j ≤ 8 → x.length + m < 140737488355328 →
    rows_Encode.l1 (m + g + 1) x ((8 * j : Nat) : Int) r n i a b c = rows_Encode.l0 g (x ++ ((List.range 8).drop j).map (at8 b)) r n (wrap64 (i + 1)) := by
  intro m
  induction m with
  | zero =>
    intro j g x r n i a b c hm hj hx
    have : j = 8 := by omega
    subst this
    rw [show 0 + g + 1 = g + 1 by omega, rows_Encode.l1, if_neg (by omega), List.drop_of_length_le (by simp)]
    simp
  | succ m ih =>
    intro j g x r n i a b c hm hj hx
    have hj8 : j < 8 := by omega
    rw [show m + 1 + g + 1 = (m + g + 1) + 1 by omega, rows_Encode.l1, if_pos (by omega), if_pos (by omega), if_pos (by omega)]
    have e : wrap64 (((8 * j : Nat) : Int) + 8) = ((8 * (j + 1) : Nat) : Int) := by rw [IntWalk.wrap64_in _ (by omega)]; omega
    have es : shr .i64 b ((8 * j : Nat) : Int) % 256 = at8 b j := by
      unfold shr at8
      rw [Int.toNat_natCast, show IntKind.i64.bits = 64 from rfl, Nat.min_eq_left (by omega)]
    rw [e, es, ih (j + 1) g _ r n i a b c (by omega) (by omega) (by rw [List.length_append, List.length_singleton]; omega)]
    rw [List.append_assoc, List.drop_eq_getElem_cons (show j < (List.range 8).length by simpa using hj8)]
    simp
theorem nf_at (r : List S43) (i : Nat) (h : i < r.length) : (nf r)[i]'(by simpa [nf] using h) = decide (r[i].f0 = 0) := by simp [nf]
theorem enc_at : ∀ (m : Nat) (r : List S43) (i g : Nat) (d : List Int), r.length - i ≤ m → i ≤ r.length → r.length ≤ 4398046511104 →
    (r.length + 7) / 8 + d.length + ((r.drop i).flatMap dataOf).length < 140737488355328 →
    rows_Encode.l0 (10 * m + g + 1) (bm (nf r) ((r.length + 7) / 8) i ++ d) r r.length i = some (bm (nf r) ((r.length + 7) / 8) r.length ++ (d ++ (r.drop i).flatMap dataOf), 0) := by
  intro m
  induction m with
  | zero =>
    intro r i g d hm hi hl hd
    have : i = r.length := by omega
    subst this
    rw [show 10 * 0 + g + 1 = g + 1 by omega, rows_Encode.l0, if_neg (by omega), List.drop_length]
    simp
  | succ m ih =>
    intro r i g d hm hi hl hd
    by_cases h : i < r.length
    · have hn : i < (nf r).length := by simpa [nf] using h
      have hfn := nf_at r i h
      rw [List.drop_eq_getElem_cons h, List.flatMap_cons, List.length_append] at hd
      rw [List.drop_eq_getElem_cons h, List.flatMap_cons]
      rw [show 10 * (m + 1) + g + 1 = (10 * m + (g + 9) + 1) + 1 by omega, rows_Encode.l0, if_pos (by omega), if_pos (by omega), if_pos (by omega), rdv_at r i h]
      have hlen : (bm (nf r) ((r.length + 7) / 8) i ++ d).length = (r.length + 7) / 8 + d.length := by rw [List.length_append, bm_len]
      by_cases h0 : r[i].f0 = 0
      · have hda : dataOf r[i] = [] := by unfold dataOf; rw [if_pos h0]
        rw [if_pos h0, d8_eq i (by omega), if_pos (by omega), hlen, if_pos (by omega), if_pos (by rw [Int.tmod_eq_emod_of_nonneg (by omega)]; omega), w64n i (by omega)]
        rw [show Int.tmod (i : Int) 8 = ((i % 8 : Nat) : Int) by rw [Int.tmod_eq_emod_of_nonneg (by omega)]; omega, Int.toNat_natCast]
        rw [bm_set (nf r) _ i hn (by omega) (by rw [hfn]; exact decide_eq_true h0) d, hda, List.nil_append]
        rw [hda] at hd
        exact ih r (i + 1) (g + 9) d (by omega) (by omega) hl (by simpa using hd)
      · have hk := bm_keep (nf r) ((r.length + 7) / 8) i hn (by rw [hfn]; exact decide_eq_false h0)
        rw [if_neg h0]
        by_cases h1 : r[i].f0 = 1
        · have hda : dataOf r[i] = [r[i].f1 % 256] := by unfold dataOf; rw [if_neg h0, if_pos h1]
          rw [hda, List.length_singleton] at hd
          rw [if_pos h1, hlen, if_pos (by omega), w64n i (by omega), ← hk, List.append_assoc, ih r (i + 1) (g + 9) (d ++ [r[i].f1 % 256]) (by omega) (by omega) hl (by rw [List.length_append, List.length_singleton]; omega), hda, List.append_assoc]
        · rw [if_neg h1]
          by_cases h4 : r[i].f0 = 4
          · have hda : dataOf r[i] = ((r[i].f2.size : Int) % 256) :: bytesOf r[i].f2 := by unfold dataOf; rw [if_neg h0, if_neg h1, if_pos h4]
            have hby : (bytesOf r[i].f2).length = r[i].f2.size := by simp [bytesOf]
            rw [hda, List.length_cons, hby] at hd
            rw [if_pos h4, hlen, if_pos (by omega), Option.bind_some, if_pos (by rw [List.length_append, hlen, List.length_singleton]; omega), w64n i (by omega), ← hk]
            rw [show bm (nf r) ((r.length + 7) / 8) (i + 1) ++ d ++ [(r[i].f2.size : Int) % 256] ++ bytesOf r[i].f2 = bm (nf r) ((r.length + 7) / 8) (i + 1) ++ (d ++ (((r[i].f2.size : Int) % 256) :: bytesOf r[i].f2)) by simp]
            rw [ih r (i + 1) (g + 9) _ (by omega) (by omega) hl (by rw [List.length_append, List.length_cons, hby]; omega), hda, List.append_assoc]
          · have hda : dataOf r[i] = (List.range 8).map (at8 r[i].f1) := by unfold dataOf; rw [if_neg h0, if_neg h1, if_neg h4]
            rw [hda, List.length_map, List.length_range] at hd
            rw [if_neg h4, show 10 * m + (g + 9) + 1 = 8 + (10 * m + g + 1) + 1 by omega]
            have e := encl1_at 8 0 (10 * m + g + 1) (bm (nf r) ((r.length + 7) / 8) i ++ d) r r.length i r[i].f0 r[i].f1 r[i].f2 rfl (by omega) (by rw [hlen]; omega)
            rw [show ((8 * 0 : Nat) : Int) = 0 from rfl, List.drop_zero] at e
            rw [e, w64n i (by omega), ← hk, List.append_assoc, ih r (i + 1) g _ (by omega) (by omega) hl (by rw [List.length_append, List.length_map, List.length_range]; omega), hda, List.append_assoc]
    · exact (show 10 * (m + 1) + g + 1 = 10 * m + (g + 10) + 1 by omega) ▸ ih r i (g + 10) d (by omega) hi hl hd
/-- A row's bytes. -/
def rowBytes (r : List S43) : List Int := bm (nf r) ((r.length + 7) / 8) r.length ++ r.flatMap dataOf
theorem encV (l : List S47) (r : List S43) (k : Nat) (hk : 10 * r.length + 13 ≤ k) (hl : r.length ≤ 4398046511104) (hb : fitE l r = 0 → (rowBytes r).length < 140737488355328) :
    rows_Encode.f k l r = some (if fitE l r = 0 then (rowBytes r, 0) else ([], fitE l r)) := by
  unfold rows_Encode.f
  rw [fitV l r k (by omega) hl, Option.bind_some]
  by_cases h : fitE l r = 0
  · rw [if_pos h, if_pos h]
    simp only [A.rows_bitmap.f, V.rows_bitmap.f, Option.bind_some, bm_eq r.length hl]
    rw [if_pos (by omega), if_pos (by omega), Int.toNat_natCast, ← bm_zero (nf r)]
    have hb := hb h
    unfold rowBytes at hb
    rw [List.length_append, bm_len] at hb
    have := enc_at r.length r 0 (k - 10 * r.length - 1) [] (by omega) (by omega) hl (by simpa using hb)
    rw [show 10 * r.length + (k - 10 * r.length - 1) + 1 = k by omega] at this
    simpa [rowBytes] using this
  · rw [if_neg h, if_neg h]
end Go.Proofs.Ytnjobnkkpfaigaa
