/- The first laws of layer 1: the walks. -/
import Derived.Test.YtjkjdcejojpikaaB7
namespace Go.Proofs.Ytjkjdcejojpikaa
open Go.RowKit Go.Proofs.YtjkjdcejojpikaaW.PrintWords Fl

theorem xor_top (r : Nat) (h : r < 9223372036854775808) : r ^^^ 9223372036854775808 = 9223372036854775808 + r := by
  rw [show (9223372036854775808 : Nat) = 2 ^ 63 from by decide]
  apply Nat.eq_of_testBit_eq
  intro i
  rw [Nat.testBit_xor, Nat.testBit_two_pow]
  rcases Nat.lt_trichotomy i 63 with hi | hi | hi
  · rw [Nat.testBit_two_pow_add_gt hi, decide_eq_false (by omega)]; simp
  · subst hi
    rw [Nat.testBit_two_pow_add_eq, decide_eq_true rfl]; simp
  · have h1 : r.testBit i = false := Nat.testBit_lt_two_pow (Nat.lt_of_lt_of_le h (by rw [show (9223372036854775808 : Nat) = 2 ^ 63 from by decide]; exact Nat.pow_le_pow_right (by decide) (by omega)))
    have h2 : (2 ^ 63 + r).testBit i = false := Nat.testBit_lt_two_pow (Nat.lt_of_lt_of_le (show 2 ^ 63 + r < 2 ^ 64 by omega) (Nat.pow_le_pow_right (by decide) (by omega)))
    rw [h1, h2, decide_eq_false (by omega)]; rfl
/-- The other sign: the top bit turned. -/
theorem flip_eq (x : Nat) (h : x < 18446744073709551616) : Op.negFloat .f64 x = if x < 9223372036854775808 then x + 9223372036854775808 else x - 9223372036854775808 := by
  show x ^^^ 2 ^ (11 + 52) = _
  rw [show (2 : Nat) ^ (11 + 52) = 9223372036854775808 from by decide]
  split
  · rename_i c; rw [xor_top x c]; omega
  · rename_i c
    have e := xor_top (x - 9223372036854775808) (by omega)
    have e2 : x = (x - 9223372036854775808) ^^^ 9223372036854775808 := by rw [e]; omega
    have e3 : x ^^^ 9223372036854775808 = x - 9223372036854775808 := by
      have := congrArg (· ^^^ 9223372036854775808) e2
      simp only [Nat.xor_assoc, Nat.xor_self, Nat.xor_zero] at this
      exact this
    exact e3
theorem flip_parts (x : Nat) (h : x < 18446744073709551616) : negB (Op.negFloat .f64 x) = !negB x ∧ rung (Op.negFloat .f64 x) = rung x ∧ Op.negFloat .f64 x < 18446744073709551616 := by
  rw [flip_eq x h]
  unfold negB rung
  have e : Sw = 9223372036854775808 := rfl
  rw [e]
  split
  · rename_i c
    rw [show (x + 9223372036854775808) / 9223372036854775808 = 1 by omega, show x / 9223372036854775808 = 0 by omega]
    exact ⟨rfl, by omega, by omega⟩
  · rename_i c
    rw [show (x - 9223372036854775808) / 9223372036854775808 = 0 by omega, show x / 9223372036854775808 = 1 by omega]
    exact ⟨rfl, by omega, by omega⟩
theorem flip_nan (x : Nat) (h : x < 18446744073709551616) : nanB (Op.negFloat .f64 x) = nanB x := by
  show decide (Ir < rung _) = decide (Ir < rung _)
  rw [(flip_parts x h).2.1]
theorem xor_i64 (a : Int) : Go.bits .xor .i64 a (-9223372036854775808) = wrap64 ((Op.negFloat .f64 (ub a) : Nat) : Int) := by
  have hx : (BitVec.ofInt 64 a).toNat = ub a := by
    rw [BitVec.toNat_ofInt]
    have := ub_cast a
    rw [u64w] at this
    rw [show ((2 : Nat) ^ 64 : Nat) = 18446744073709551616 from by decide]
    omega
  have e : Op.negFloat .f64 (ub a) = ub a ^^^ 9223372036854775808 := by
    show _ ^^^ 2 ^ (11 + 52) = _
    rw [show (2 : Nat) ^ (11 + 52) = 9223372036854775808 from by decide]
  have hy : (BitVec.ofInt 64 (-9223372036854775808)).toNat = 9223372036854775808 := by decide
  have hb : Go.bits .xor .i64 a (-9223372036854775808) = IntKind.i64.wrap ((BitVec.ofInt 64 a ^^^ BitVec.ofInt 64 (-9223372036854775808)).toNat : Int) := rfl
  rw [hb, BitVec.toNat_xor, hx, hy, IntKind.wrap_i64, e]
  unfold wrap64
  with_reducible rfl
theorem neg_rneg (a : Int) : canonN (Op.negFloat .f64 (ub a)) = rnegI a := by
  unfold canonN rnegI
  rw [flip_nan _ (ub_lt a), xor_i64]

theorem ordI_range (a b : Int) : ordI a b = -1 ∨ ordI a b = 0 ∨ ordI a b = 1 := by unfold ordI cmpI; (repeat' split) <;> simp
theorem ordI_turn (a b : Int) : ordI b a = -(ordI a b) := by unfold ordI cmpI; (repeat' split) <;> omega
theorem plc_canon (a : Int) : plc (ub (canonI a)) = plc (ub a) := by
  unfold canonI
  cases h : nanB (ub a)
  · simp
  · simp only [if_true]
    unfold plc
    rw [h, show nanB (ub theNaN) = true from by decide +kernel]
    simp
theorem ordI_canon (a : Int) : ordI a (canonI a) = 0 := by unfold ordI cmpI; rw [plc_canon]; simp

theorem names_calls (w : World) : Calls Try.prog 3 #[] w fun e w' => e = .returned (.bool true) ∧ Drawn0 w w' := by
  go_enter Try.func3, Try.ntmps3
  go_wp2_with fail
  refine (speaks_calls _).mono ?_
  rintro e w1 ⟨rfl, ⟨nd0, rfl⟩⟩
  go_wp2
  go_ret
  exact ⟨by first | rfl | (exact ret_bool (by simp)), by repeat (first | exact Drawn0.refl _ | apply Drawn0.step)⟩

theorem orders_calls (a b : Int) (w : World) : Calls Try.prog 4 #[.int .i64 a, .int .i64 b] w fun e w' => e = .returned (.bool true) ∧ Drawn0 w w' := by
  rcases ordI_range a b with h | h | h
  all_goals
    have H := Lib.hid h
    have H2 : Hid (ordI b a = -(ordI a b)) := Lib.hid (ordI_turn a b)
    have H3 : Hid (ordI a (canonI a) = 0) := Lib.hid (ordI_canon a)
    clear h
    go_enter Try.func4, Try.ntmps4
    go_wp2_with fail
    refine (speaks_calls _).mono ?_
    rintro e w1 ⟨rfl, ⟨nd0, rfl⟩⟩
    go_wp2_with fail
    refine (order_calls a b _).mono ?_
    rintro e w1 ⟨rfl, rfl⟩
    rw [H.out]
    go_wp2_with fail
    refine (rorder_calls a b _).mono ?_
    rintro e w1 ⟨rfl, ⟨nd2, rfl⟩⟩
    rw [H.out]
    go_wp2_with fail
    refine (canon_calls a _).mono ?_
    rintro e w1 ⟨rfl, rfl⟩
    go_wp2_with fail
    refine (rcanon_calls a _).mono ?_
    rintro e w1 ⟨rfl, ⟨nd4, rfl⟩⟩
    go_wp2_with fail
    refine (order_calls a b _).mono ?_
    rintro e w1 ⟨rfl, rfl⟩
    rw [H.out]
    go_wp2_with fail
    refine (order_calls b a _).mono ?_
    rintro e w1 ⟨rfl, rfl⟩
    rw [H2.out, H.out]
    go_wp2_with fail
    refine (canon_calls a _).mono ?_
    rintro e w1 ⟨rfl, rfl⟩
    go_wp2_with fail
    refine (order_calls a (canonI a) _).mono ?_
    rintro e w1 ⟨rfl, rfl⟩
    rw [H3.out]
    go_wp2
    go_ret
    exact ⟨by first | rfl | (exact ret_bool (by simp)), by repeat (first | exact Drawn0.refl _ | apply Drawn0.step)⟩

theorem chain_cases (a b c : Int) : (ordI a b, ordI b c, ordI a c) ∈ [(-1,-1,-1),(-1,0,-1),(0,-1,-1),(0,0,0),(-1,1,-1),(-1,1,0),(-1,1,1),(1,-1,-1),(1,-1,0),(1,-1,1),(0,1,1),(1,0,1),((1,1,1) : Int × Int × Int)] := by
  unfold ordI cmpI
  generalize plc (ub a) = p
  generalize plc (ub b) = q
  generalize plc (ub c) = r
  (repeat' split) <;> first | (simp; done) | omega
theorem chain_calls (a b c : Int) (w : World) : Calls Try.prog 5 #[.int .i64 a, .int .i64 b, .int .i64 c] w fun e w' => e = .returned (.bool true) ∧ Drawn0 w w' := by
  have hc := chain_cases a b c
  simp only [List.mem_cons, List.not_mem_nil, or_false, Prod.mk.injEq] at hc
  rcases hc with ⟨h1, h2, h3⟩ | ⟨h1, h2, h3⟩ | ⟨h1, h2, h3⟩ | ⟨h1, h2, h3⟩ | ⟨h1, h2, h3⟩ | ⟨h1, h2, h3⟩ | ⟨h1, h2, h3⟩ | ⟨h1, h2, h3⟩ | ⟨h1, h2, h3⟩ | ⟨h1, h2, h3⟩ | ⟨h1, h2, h3⟩ | ⟨h1, h2, h3⟩ | ⟨h1, h2, h3⟩
  all_goals
    have H1 := Lib.hid h1
    have H2 := Lib.hid h2
    have H3 := Lib.hid h3
    clear h1 h2 h3
    go_enter Try.func5, Try.ntmps5
    go_wp2_with fail
    refine (speaks_calls _).mono ?_
    rintro e w1 ⟨rfl, ⟨nd0, rfl⟩⟩
    go_wp2_with fail
    refine (order_calls a b _).mono ?_
    rintro e w1 ⟨rfl, rfl⟩
    rw [H1.out]
    go_wp2_with fail
    refine (order_calls b c _).mono ?_
    rintro e w1 ⟨rfl, rfl⟩
    rw [H2.out]
    go_wp2_with fail
    refine (order_calls a c _).mono ?_
    rintro e w1 ⟨rfl, rfl⟩
    rw [H3.out]
    go_wp2
    go_ret
    exact ⟨by first | rfl | (exact ret_bool (by simp)), by repeat (first | exact Drawn0.refl _ | apply Drawn0.step)⟩

theorem counts_calls (a b : Int) (w : World) : Calls Try.prog 6 #[.int .i64 a, .int .i64 b] w fun e w' => e = .returned (.bool true) ∧ Drawn0 w w' := by
  have H : Hid (canonN (Op.negFloat .f64 (ub a)) = rnegI a) := Lib.hid (neg_rneg a)
  go_enter Try.func6, Try.ntmps6
  go_wp2_with fail
  refine (speaks_calls _).mono ?_
  rintro e w1 ⟨rfl, ⟨nd0, rfl⟩⟩
  go_wp2_with fail
  refine (add_calls a b _).mono ?_
  rintro e w1 ⟨rfl, ⟨nd1, rfl⟩⟩
  go_wp2_with fail
  refine (radd_calls a b _).mono ?_
  rintro e w1 ⟨rfl, ⟨nd2, rfl⟩⟩
  go_wp2_with fail
  refine (sub_calls a b _).mono ?_
  rintro e w1 ⟨rfl, ⟨nd3, rfl⟩⟩
  go_wp2_with fail
  refine (rsub_calls a b _).mono ?_
  rintro e w1 ⟨rfl, ⟨nd4, rfl⟩⟩
  go_wp2_with fail
  refine (mul_calls a b _).mono ?_
  rintro e w1 ⟨rfl, ⟨nd5, rfl⟩⟩
  go_wp2_with fail
  refine (rmul_calls a b _).mono ?_
  rintro e w1 ⟨rfl, ⟨nd6, rfl⟩⟩
  go_wp2_with fail
  refine (div_calls a b _).mono ?_
  rintro e w1 ⟨rfl, ⟨nd7, rfl⟩⟩
  go_wp2_with fail
  refine (rdiv_calls a b _).mono ?_
  rintro e w1 ⟨rfl, ⟨nd8, rfl⟩⟩
  go_wp2_with fail
  refine (neg_calls a _).mono ?_
  rintro e w1 ⟨rfl, rfl⟩
  rw [H.out]
  go_wp2_with fail
  refine (rneg_calls a _).mono ?_
  rintro e w1 ⟨rfl, ⟨nd10, rfl⟩⟩
  go_wp2
  go_ret
  exact ⟨by first | rfl | (exact ret_bool (by simp)), by repeat (first | exact Drawn0.refl _ | apply Drawn0.step)⟩

theorem names_b (w : World) : Calls Try.prog 3 #[] w fun e w' => e = .returned (.bool true) ∧ Below w.heap.size w w' := (names_calls w).mono fun _ _ ⟨he, h⟩ => ⟨he, h.below⟩
theorem orders_b (a b : Int) (w : World) : Calls Try.prog 4 #[.int .i64 a, .int .i64 b] w fun e w' => e = .returned (.bool true) ∧ Below w.heap.size w w' := (orders_calls a b w).mono fun _ _ ⟨he, h⟩ => ⟨he, h.below⟩
theorem chain_b (a b c : Int) (w : World) : Calls Try.prog 5 #[.int .i64 a, .int .i64 b, .int .i64 c] w fun e w' => e = .returned (.bool true) ∧ Below w.heap.size w w' := (chain_calls a b c w).mono fun _ _ ⟨he, h⟩ => ⟨he, h.below⟩
theorem counts_b (a b : Int) (w : World) : Calls Try.prog 6 #[.int .i64 a, .int .i64 b] w fun e w' => e = .returned (.bool true) ∧ Below w.heap.size w w' := (counts_calls a b w).mono fun _ _ ⟨he, h⟩ => ⟨he, h.below⟩
end Go.Proofs.Ytjkjdcejojpikaa
