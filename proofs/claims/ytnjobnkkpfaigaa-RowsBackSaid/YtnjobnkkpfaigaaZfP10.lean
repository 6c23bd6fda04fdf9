import Derived.Test.YtnjobnkkpfaigaaZfP9
/- Layer 6: the reference's reading of one value is the program's. -/
namespace Go.Proofs.Ytnjobnkkpfaigaa
open Go.RowKit Go.Proofs.YtnjobnkkpfaigaaW.PrintWords Go.Proofs.YtnjobnkkpfaigaaW.PrintMore Fl V A
set_option linter.unusedSimpArgs false
set_option linter.unusedVariables false
/-- One step of the reference's number. -/
def stepU (u x : Int) : Int := IntKind.u64.wrap (IntKind.u64.wrap (u * 256) + IntKind.u64.wrap x)
theorem or_low (c x : Nat) (hx : x < 256) (hc : c < 18446744073709551616) (h : c % 256 = 0) : c ||| x = c + x := by
  have e : c = 2 ^ 8 * (c / 256) := by omega
  rw [e, ← Nat.two_pow_add_eq_or_of_lt (by omega) (c / 256)]
theorem wrap_mod (n : Int) : (wrap64 n) % 18446744073709551616 = n % 18446744073709551616 := by simp only [wrap64]; omega
theorem or64 (n x : Int) (h0 : 0 ≤ x) (h1 : x < 256) : bits .or .i64 (wrap64 (n * 256)) (wrap64 x) = wrap64 (n * 256 + x) := by
  obtain ⟨y, rfl⟩ := Int.eq_ofNat_of_zero_le h0
  have hy : y < 256 := by omega
  obtain ⟨c, hc⟩ : ∃ c : Nat, (n * 256) % 18446744073709551616 = (c : Int) := ⟨((n * 256) % 18446744073709551616).toNat, by omega⟩
  have hcl : c < 18446744073709551616 := by omega
  have hc0 : c % 256 = 0 := by omega
  have ex : wrap64 (y : Int) = (y : Int) := IntWalk.wrap64_in _ (by omega)
  unfold bits
  have e1 : BitVec.ofInt 64 (wrap64 (n * 256)) = BitVec.ofNat 64 c := by
    apply BitVec.eq_of_toNat_eq
    rw [BitVec.toNat_ofInt, BitVec.toNat_ofNat]
    have := wrap_mod (n * 256)
    omega
  have e2 : BitVec.ofInt 64 (wrap64 (y : Int)) = BitVec.ofNat 64 y := by
    rw [ex]
    apply BitVec.eq_of_toNat_eq
    rw [BitVec.toNat_ofInt, BitVec.toNat_ofNat]
    omega
  have e3 : (BitVec.ofNat 64 c ||| BitVec.ofNat 64 y).toNat = c + y := by
    rw [BitVec.toNat_or, BitVec.toNat_ofNat, BitVec.toNat_ofNat, Nat.mod_eq_of_lt (by omega), Nat.mod_eq_of_lt (by omega), or_low c y hy hcl hc0]
  show IntKind.i64.wrap (((BitVec.ofInt 64 (wrap64 (n * 256)) ||| BitVec.ofInt 64 (wrap64 (y : Int))).toNat : Nat) : Int) = _
  rw [e1, e2, e3]
  simp only [IntKind.wrap_i64, wrap64]
  omega
theorem numStep_eq (u x : Int) (h0 : 0 ≤ x) (h1 : x < 256) : numStep (wrap64 u) x = wrap64 (stepU u x) := by
  unfold numStep stepU
  rw [or64 _ x h0 h1, u64w, u64w, u64w]
  simp only [wrap64]
  omega
theorem fold_eq : ∀ (l : List Int), (∀ x ∈ l, 0 ≤ x ∧ x < 256) → ∀ u, l.foldl numStep (wrap64 u) = wrap64 (l.foldl stepU u)
  | [], _, _ => rfl
  | x :: xs, h, u => by
    rw [List.foldl_cons, List.foldl_cons, numStep_eq u x (h x (List.mem_cons_self ..)).1 (h x (List.mem_cons_self ..)).2]
    exact fold_eq xs (fun y hy => h y (List.mem_cons_of_mem _ hy)) _
theorem numOf_eight (zs : List Int) (h : zs.length = 8) : numOf (upto (downAt zs 8) 8) = zs.reverse.foldl numStep 0 := by
  match zs, h with
  | [a, b, c, d, e, f, g, i], _ => rfl
theorem takeY_ok (xs : List Int) (n : Nat) (h : n ≤ xs.length) : takeY xs 0 n = xs.take n := by
  unfold takeY
  rw [if_neg (by omega), Int.toNat_natCast]
theorem takeX_ok (xs : List Int) (n : Nat) (h : n ≤ xs.length) : takeX xs 0 n = xs.drop n := by
  unfold takeX
  rw [if_neg (by omega), Int.toNat_natCast]
theorem takeE_ok (xs : List Int) (n : Nat) (h : n ≤ xs.length) : takeE xs 0 n = 0 := by
  unfold takeE
  rw [if_neg (by omega)]
theorem takeE_no (xs : List Int) (n : Nat) (h : xs.length < n) : takeE xs 0 n = 3 := by
  unfold takeE failE
  rw [if_pos (by omega), if_pos rfl]
theorem takeY_no (xs : List Int) (n : Nat) (h : xs.length < n) : takeY xs 0 n = List.replicate n 0 := by
  unfold takeY
  rw [if_pos (by omega), Int.toNat_natCast]
theorem numN_ok (xs : List Int) (h : 8 ≤ xs.length) (hx : ∀ x ∈ xs, 0 ≤ x ∧ x < 256) : numN xs 0 = wrap64 ((xs.take 8).reverse.foldl stepU 0) := by
  unfold numN
  have e := takeY_ok xs 8 h
  rw [show ((8 : Nat) : Int) = 8 from rfl] at e
  rw [e, numOf_eight _ (by rw [List.length_take]; omega)]
  have := fold_eq (xs.take 8).reverse (fun x hm => hx x (List.mem_of_mem_take (List.mem_reverse.1 hm))) 0
  rwa [show wrap64 0 = 0 by simp [wrap64]] at this
end Go.Proofs.Ytnjobnkkpfaigaa
