import Derived.Test.YtnjobnkkpfaigaaZfP3
import Derived.Laws.BitsAllLaws
/- Layer 6: the bits of a row's Nulls. -/
namespace Go.Proofs.Ytnjobnkkpfaigaa
open Go.RowKit Go.Proofs.YtnjobnkkpfaigaaW.PrintWords Go.Proofs.YtnjobnkkpfaigaaW.PrintMore Fl V A
set_option linter.unusedSimpArgs false
set_option linter.unusedVariables false
def val : List Bool → Nat
  | [] => 0
  | b :: bs => (if b = true then 1 else 0) + 2 * val bs
theorem val_lt : ∀ l : List Bool, val l < 2 ^ l.length
  | [] => by simp [val]
  | b :: bs => by
    have := val_lt bs
    rw [val, List.length_cons, Nat.pow_succ]
    split <;> omega
theorem val_snoc (f : Bool) : ∀ l : List Bool, val (l ++ [f]) = val l + (if f = true then 2 ^ l.length else 0)
  | [] => by cases f <;> simp [val]
  | b :: bs => by
    rw [List.cons_append, val, val_snoc f bs, val, List.length_cons, Nat.pow_succ]
    cases f <;> simp <;> omega
theorem or_bit : ∀ k, k < 8 → ∀ x, x < 2 ^ k → x ||| 2 ^ k = x + 2 ^ k := by decide
theorem orbit (k x : Nat) (hk : k < 8) (hx : x < 2 ^ k) : bits .or .u8 (x : Int) (shl .u8 1 (k : Int)) = ((x + 2 ^ k : Nat) : Int) := by
  have h2 : 2 ^ k ≤ 128 := by
    have := Nat.pow_le_pow_right (n := 2) (by omega) (show k ≤ 7 by omega)
    omega
  have e : shl .u8 1 (k : Int) = ((2 ^ k : Nat) : Int) := by
    unfold shl
    rw [Int.toNat_natCast, show IntKind.u8.bits = 8 from rfl, Nat.min_eq_left (by omega), Int.one_mul]
    have : ((2 : Int) ^ k) = ((2 ^ k : Nat) : Int) := by push_cast; rfl
    rw [this]
    simp only [IntKind.wrap, IntKind.bits, IntKind.signed]
    have h3 : ((2 ^ k : Nat) : Int) ≤ 128 := by exact_mod_cast h2
    have h4 : (0 : Int) ≤ ((2 ^ k : Nat) : Int) := Int.natCast_nonneg _
    simp
    omega
  rw [e, u8_or_nat x (2 ^ k) (by omega) (by omega), or_bit k hk x hx]
def chunk (nf : List Bool) (i b : Nat) : List Bool := ((nf.take i).drop (8 * b)).take 8
theorem chunk_step (nf : List Bool) (i b : Nat) (h : i < nf.length) : chunk nf (i + 1) b = if b = i / 8 then chunk nf i b ++ [nf[i]] else chunk nf i b := by
  unfold chunk
  have hl : (nf.take i).length = i := by rw [List.length_take]; omega
  rw [List.take_succ_eq_append_getElem h]
  by_cases hb : b = i / 8
  · rw [if_pos hb, List.drop_append_of_le_length (by omega)]
    have h8 : ((nf.take i).drop (8 * b)).length = i - 8 * b := by rw [List.length_drop, hl]
    have e1 : ((nf.take i).drop (8 * b) ++ [nf[i]]).take 8 = (nf.take i).drop (8 * b) ++ [nf[i]] := List.take_of_length_le (by rw [List.length_append, h8, List.length_singleton]; omega)
    have e2 : ((nf.take i).drop (8 * b)).take 8 = (nf.take i).drop (8 * b) := List.take_of_length_le (by rw [h8]; omega)
    rw [e1, e2]
  · rw [if_neg hb]
    by_cases hlt : b < i / 8
    · rw [List.drop_append_of_le_length (by omega), List.take_append_of_le_length (by rw [List.length_drop, hl]; omega)]
    · rw [List.drop_eq_nil_of_le (by rw [List.length_append, hl]; simp; omega), List.drop_eq_nil_of_le (by rw [hl]; omega)]
theorem chunk_len (nf : List Bool) (i : Nat) (h : i ≤ nf.length) : (chunk nf i (i / 8)).length = i % 8 := by
  unfold chunk
  rw [List.length_take, List.length_drop, List.length_take]
  omega
def bm (nf : List Bool) (nb i : Nat) : List Int := (List.range nb).map fun b => ((val (chunk nf i b) : Nat) : Int)
theorem bm_len (nf : List Bool) (nb i : Nat) : (bm nf nb i).length = nb := by simp [bm]
theorem bm_at (nf : List Bool) (nb i b : Nat) (h : b < nb) : (bm nf nb i)[b]'(by rw [bm_len]; exact h) = ((val (chunk nf i b) : Nat) : Int) := by simp [bm]
theorem bm_zero (nf : List Bool) (nb : Nat) : bm nf nb 0 = List.replicate nb 0 := by
  apply List.ext_getElem
  · simp [bm]
  · intro k h1 h2
    simp [bm, chunk, val]
theorem bm_keep (nf : List Bool) (nb i : Nat) (h : i < nf.length) (hf : nf[i] = false) : bm nf nb (i + 1) = bm nf nb i := by
  unfold bm
  apply List.map_congr_left
  intro b hb
  rw [chunk_step nf i b h]
  split
  · rw [val_snoc, hf]; simp
  · rfl
theorem bm_set (nf : List Bool) (nb i : Nat) (h : i < nf.length) (hb : i / 8 < nb) (hf : nf[i] = true) (d : List Int) :
    (bm nf nb i ++ d).set (i / 8) (bits .or .u8 (rd (bm nf nb i ++ d) ((i / 8 : Nat) : Int)) (shl .u8 1 ((i % 8 : Nat) : Int))) = bm nf nb (i + 1) ++ d := by
  have hrd : rd (bm nf nb i ++ d) ((i / 8 : Nat) : Int) = ((val (chunk nf i (i / 8)) : Nat) : Int) := by
    unfold rd
    rw [Int.toNat_natCast, List.getD_eq_getElem?_getD, List.getElem?_append_left (by rw [bm_len]; exact hb), List.getElem?_eq_getElem (by rw [bm_len]; exact hb), bm_at nf nb i _ hb]
    rfl
  have hlen := chunk_len nf i (by omega)
  have hv := val_lt (chunk nf i (i / 8))
  rw [hlen] at hv
  rw [hrd, orbit (i % 8) _ (by omega) hv, List.set_append_left _ _ (by rw [bm_len]; exact hb)]
  congr 1
  apply List.ext_getElem
  · simp [bm]
  · intro k h1 h2
    rw [List.getElem_set, bm_at nf nb (i + 1) k (by rw [bm_len] at h2; exact h2), chunk_step nf i k h]
    by_cases hk : i / 8 = k
    · subst hk
      rw [if_pos rfl, if_pos rfl, val_snoc, hf, if_pos rfl, hlen]
    · rw [if_neg hk, if_neg (fun e => hk e.symm), bm_at nf nb i k (by rw [bm_len] at h2; exact h2)]
end Go.Proofs.Ytnjobnkkpfaigaa
