import Derived.Test.YtbdengnadgofmaaZdB11
/- The contracts of packages real and haspref01, in the form in which layer 3's printed texts take them. -/
namespace Go.Proofs.Ytbdengnadgofmaa
open Go.RowKit Go.Proofs.YtbdengnadgofmaaW.PrintWords Go.Proofs.YtbdengnadgofmaaW.PrintMore Fl
theorem xor_top (r : Nat) (h : r < 9223372036854775808) : r ^^^ 9223372036854775808 = 9223372036854775808 + r := by
  rw [show (9223372036854775808 : Nat) = 2 ^ 63 from by decide]
  apply Nat.eq_of_testBit_eq
  intro i
  rw [Nat.testBit_xor, Nat.testBit_two_pow]
  rcases Nat.lt_trichotomy i 63 with hi | hi | hi
  · rw [Nat.testBit_two_pow_add_gt hi, decide_eq_false (by omega)]; simp
  · subst hi
    rw [Nat.testBit_two_pow_add_eq, decide_eq_true rfl]; simp
  · have h1 : r.testBit i = false := Nat.testBit_lt_two_pow (Nat.lt_of_lt_of_le h (by rw [show (9223372036854775808 : Nat) = 2 ^ 63 from by decide]; exact Nat.pow_le_pow_right (by decide) (by omega)))
    have h2 : (2 ^ 63 + r).testBit i = false := Nat.testBit_lt_two_pow (Nat.lt_of_lt_of_le (show 2 ^ 63 + r < 2 ^ 64 by omega) (Nat.pow_le_pow_right (by decide) (by omega)))
    rw [h1, h2, decide_eq_false (by omega)]; rfl
/-- The other sign: the top bit turned. -/
theorem flip_eq (x : Nat) (h : x < 18446744073709551616) : Op.negFloat .f64 x = if x < 9223372036854775808 then x + 9223372036854775808 else x - 9223372036854775808 := by
  show x ^^^ 2 ^ (11 + 52) = _
  rw [show (2 : Nat) ^ (11 + 52) = 9223372036854775808 from by decide]
  split
  · rename_i c; rw [xor_top x c]; omega
  · rename_i c
    have e := xor_top (x - 9223372036854775808) (by omega)
    have e2 : x = (x - 9223372036854775808) ^^^ 9223372036854775808 := by rw [e]; omega
    have e3 : x ^^^ 9223372036854775808 = x - 9223372036854775808 := by
      have := congrArg (· ^^^ 9223372036854775808) e2
      simp only [Nat.xor_assoc, Nat.xor_self, Nat.xor_zero] at this
      exact this
    exact e3
theorem flip_parts (x : Nat) (h : x < 18446744073709551616) : negB (Op.negFloat .f64 x) = !negB x ∧ rung (Op.negFloat .f64 x) = rung x ∧ Op.negFloat .f64 x < 18446744073709551616 := by
  rw [flip_eq x h]
  unfold negB rung
  have e : Sw = 9223372036854775808 := rfl
  rw [e]
  split
  · rename_i c
    rw [show (x + 9223372036854775808) / 9223372036854775808 = 1 by omega, show x / 9223372036854775808 = 0 by omega]
    exact ⟨rfl, by omega, by omega⟩
  · rename_i c
    rw [show (x - 9223372036854775808) / 9223372036854775808 = 0 by omega, show x / 9223372036854775808 = 1 by omega]
    exact ⟨rfl, by omega, by omega⟩
theorem flip_nan (x : Nat) (h : x < 18446744073709551616) : nanB (Op.negFloat .f64 x) = nanB x := by
  show decide (Ir < rung _) = decide (Ir < rung _)
  rw [(flip_parts x h).2.1]
theorem xor_i64 (a : Int) : Go.bits .xor .i64 a (-9223372036854775808) = wrap64 ((Op.negFloat .f64 (ub a) : Nat) : Int) := by
  have hx : (BitVec.ofInt 64 a).toNat = ub a := by
    rw [BitVec.toNat_ofInt]
    have := ub_cast a
    rw [u64w] at this
    rw [show ((2 : Nat) ^ 64 : Nat) = 18446744073709551616 from by decide]
    omega
  have e : Op.negFloat .f64 (ub a) = ub a ^^^ 9223372036854775808 := by
    show _ ^^^ 2 ^ (11 + 52) = _
    rw [show (2 : Nat) ^ (11 + 52) = 9223372036854775808 from by decide]
  have hy : (BitVec.ofInt 64 (-9223372036854775808)).toNat = 9223372036854775808 := by decide
  have hb : Go.bits .xor .i64 a (-9223372036854775808) = IntKind.i64.wrap ((BitVec.ofInt 64 a ^^^ BitVec.ofInt 64 (-9223372036854775808)).toNat : Int) := rfl
  rw [hb, BitVec.toNat_xor, hx, hy, IntKind.wrap_i64, e]
  unfold wrap64
  with_reducible rfl
theorem neg_rneg (a : Int) : canonN (Op.negFloat .f64 (ub a)) = rnegI a := by
  unfold canonN rnegI
  rw [flip_nan _ (ub_lt a), xor_i64]
theorem isEmpty_bne (l : List UInt8) : l.isEmpty = !(l != []) := by cases l <;> rfl
def real_Add.f (a0 a1 : Int) : Option Int := some (arI (floatBits .add .f64 (ub a0) (ub a1)))
theorem real_Add.calls (a0 a1 : Int) (r : Int) (w : World) (h : real_Add.f a0 a1 = some r) :
    Calls Try.prog 35 #[.int .i64 a0, .int .i64 a1] w fun e w' => e = .returned (.int .i64 r) ∧ Drawn0 w w' := by
  obtain rfl := Option.some.inj h
  exact add_calls a0 a1 w
def haspref01_Add.f (a0 a1 : Int) : Option Int := some (arI (floatBits .add .f64 (ub a0) (ub a1)))
theorem haspref01_Add.calls (a0 a1 : Int) (r : Int) (w : World) (h : haspref01_Add.f a0 a1 = some r) :
    Calls Try.prog 41 #[.int .i64 a0, .int .i64 a1] w fun e w' => e = .returned (.int .i64 r) ∧ Drawn0 w w' := by
  obtain rfl := Option.some.inj h
  exact radd_calls a0 a1 w
def real_Sub.f (a0 a1 : Int) : Option Int := some (arI (floatBits .sub .f64 (ub a0) (ub a1)))
theorem real_Sub.calls (a0 a1 : Int) (r : Int) (w : World) (h : real_Sub.f a0 a1 = some r) :
    Calls Try.prog 36 #[.int .i64 a0, .int .i64 a1] w fun e w' => e = .returned (.int .i64 r) ∧ Drawn0 w w' := by
  obtain rfl := Option.some.inj h
  exact sub_calls a0 a1 w
def haspref01_Sub.f (a0 a1 : Int) : Option Int := some (arI (floatBits .sub .f64 (ub a0) (ub a1)))
theorem haspref01_Sub.calls (a0 a1 : Int) (r : Int) (w : World) (h : haspref01_Sub.f a0 a1 = some r) :
    Calls Try.prog 42 #[.int .i64 a0, .int .i64 a1] w fun e w' => e = .returned (.int .i64 r) ∧ Drawn0 w w' := by
  obtain rfl := Option.some.inj h
  exact rsub_calls a0 a1 w
def real_Mul.f (a0 a1 : Int) : Option Int := some (arI (floatBits .mul .f64 (ub a0) (ub a1)))
theorem real_Mul.calls (a0 a1 : Int) (r : Int) (w : World) (h : real_Mul.f a0 a1 = some r) :
    Calls Try.prog 37 #[.int .i64 a0, .int .i64 a1] w fun e w' => e = .returned (.int .i64 r) ∧ Drawn0 w w' := by
  obtain rfl := Option.some.inj h
  exact mul_calls a0 a1 w
def haspref01_Mul.f (a0 a1 : Int) : Option Int := some (arI (floatBits .mul .f64 (ub a0) (ub a1)))
theorem haspref01_Mul.calls (a0 a1 : Int) (r : Int) (w : World) (h : haspref01_Mul.f a0 a1 = some r) :
    Calls Try.prog 43 #[.int .i64 a0, .int .i64 a1] w fun e w' => e = .returned (.int .i64 r) ∧ Drawn0 w w' := by
  obtain rfl := Option.some.inj h
  exact rmul_calls a0 a1 w
def real_Div.f (a0 a1 : Int) : Option Int := some (arI (floatBits .quo .f64 (ub a0) (ub a1)))
theorem real_Div.calls (a0 a1 : Int) (r : Int) (w : World) (h : real_Div.f a0 a1 = some r) :
    Calls Try.prog 38 #[.int .i64 a0, .int .i64 a1] w fun e w' => e = .returned (.int .i64 r) ∧ Drawn0 w w' := by
  obtain rfl := Option.some.inj h
  exact div_calls a0 a1 w
def haspref01_Div.f (a0 a1 : Int) : Option Int := some (arI (floatBits .quo .f64 (ub a0) (ub a1)))
theorem haspref01_Div.calls (a0 a1 : Int) (r : Int) (w : World) (h : haspref01_Div.f a0 a1 = some r) :
    Calls Try.prog 44 #[.int .i64 a0, .int .i64 a1] w fun e w' => e = .returned (.int .i64 r) ∧ Drawn0 w w' := by
  obtain rfl := Option.some.inj h
  exact rdiv_calls a0 a1 w
def real_Neg.f (a0 : Int) : Option Int := some (rnegI a0)
theorem real_Neg.calls (a0 : Int) (r : Int) (w : World) (h : real_Neg.f a0 = some r) :
    Calls Try.prog 39 #[.int .i64 a0] w fun e w' => e = .returned (.int .i64 r) ∧ Drawn0 w w' := by
  obtain rfl := Option.some.inj h
  rw [← neg_rneg]
  exact (neg_calls a0 w).mono fun _ _ ⟨he, hw⟩ => ⟨he, hw ▸ Drawn0.refl _⟩
def haspref01_Neg.f (a0 : Int) : Option Int := some (rnegI a0)
theorem haspref01_Neg.calls (a0 : Int) (r : Int) (w : World) (h : haspref01_Neg.f a0 = some r) :
    Calls Try.prog 45 #[.int .i64 a0] w fun e w' => e = .returned (.int .i64 r) ∧ Drawn0 w w' := by
  obtain rfl := Option.some.inj h
  exact rneg_calls a0 w
def real_ToInt.f (a0 : Int) : Option (Int × Int) := some (toIv (ub a0), toIe (ub a0))
theorem real_ToInt.calls (a0 : Int) (r1 r2 : Int) (w : World) (h : real_ToInt.f a0 = some (r1, r2)) :
    Calls Try.prog 32 #[.int .i64 a0] w fun e w' => e = .returned (.tuple #[.int .i64 r1, .int .i64 r2]) ∧ Drawn0 w w' := by
  obtain ⟨rfl, rfl⟩ := Prod.mk.inj (Option.some.inj h)
  exact toint_calls a0 w
def haspref01_ToInt.f (a0 : Int) : Option (Int × Int) := some (toIv (ub a0), toIe (ub a0))
theorem haspref01_ToInt.calls (a0 : Int) (r1 r2 : Int) (w : World) (h : haspref01_ToInt.f a0 = some (r1, r2)) :
    Calls Try.prog 26 #[.int .i64 a0] w fun e w' => e = .returned (.tuple #[.int .i64 r1, .int .i64 r2]) ∧ Drawn0 w w' := by
  obtain ⟨rfl, rfl⟩ := Prod.mk.inj (Option.some.inj h)
  exact R.haspref01_ToInt.calls 1 a0 _ _ w (rtoint_eq a0)
def real_OfInt.f (a0 : Int) : Option Int := some (ofIntI a0)
theorem real_OfInt.calls (a0 : Int) (r : Int) (w : World) (h : real_OfInt.f a0 = some r) :
    Calls Try.prog 33 #[.int .i64 a0] w fun e w' => e = .returned (.int .i64 r) ∧ Drawn0 w w' := by
  obtain rfl := Option.some.inj h
  exact (ofint_calls a0 w).mono fun _ _ ⟨he, hw⟩ => ⟨he, hw ▸ Drawn0.refl _⟩
def haspref01_OfInt.f (a0 : Int) : Option Int := if -9223372036854775808 ≤ a0 ∧ a0 ≤ 9223372036854775807 then some (ofIntI a0) else none
theorem haspref01_OfInt.calls (a0 : Int) (r : Int) (w : World) (h : haspref01_OfInt.f a0 = some r) :
    Calls Try.prog 27 #[.int .i64 a0] w fun e w' => e = .returned (.int .i64 r) ∧ Drawn0 w w' := by
  unfold haspref01_OfInt.f at h
  split at h
  · rename_i hr
    obtain rfl := Option.some.inj h
    exact R.haspref01_OfInt.calls 66 a0 _ w (rofint_eq a0 hr)
  · cases h
def haspref01_IsNaN.f (a0 : Int) : Option Bool := some (nanB (ub a0))
theorem haspref01_IsNaN.calls (a0 : Int) (r : Bool) (w : World) (h : haspref01_IsNaN.f a0 = some r) :
    Calls Try.prog 18 #[.int .i64 a0] w fun e w' => e = .returned (.bool r) ∧ Drawn0 w w' := by
  obtain rfl := Option.some.inj h
  exact R.haspref01_IsNaN.calls a0 _ w (isnan_eq a0)
end Go.Proofs.Ytbdengnadgofmaa
