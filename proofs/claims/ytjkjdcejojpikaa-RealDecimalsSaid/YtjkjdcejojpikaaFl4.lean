/- Plain laws of IEEE doubles: sums and products turn about; once and by one a number is itself. -/
import Derived.Test.YtjkjdcejojpikaaB8
import Derived.Test.YtjkjdcejojpikaaFl3
namespace Go.Proofs.Ytjkjdcejojpikaa
open Go.RowKit Fl
namespace Fl
open Ieee

theorem sum_comm (d e : Datum) : d.sum e = e.sum d := by
  cases d with
  | nan s f => cases e <;> rfl
  | infinity s =>
    cases e with
    | nan t f => rfl
    | number t n j => rfl
    | infinity t =>
      simp only [Datum.sum]
      by_cases h : s = t
      · rw [if_pos h, if_pos h.symm, h]
      · rw [if_neg h, if_neg (fun x => h x.symm)]
  | number s m i =>
    cases e with
    | nan t f => rfl
    | infinity t => rfl
    | number t n j =>
      simp only [Datum.sum]
      rw [Int.min_comm j i, Int.add_comm (signed t n _), Bool.and_comm t s]
theorem product_comm (d e : Datum) : d.product e = e.product d := by
  cases d with
  | nan s f => cases e <;> rfl
  | infinity s =>
    cases e with
    | nan t f => rfl
    | number t n j => rfl
    | infinity t => simp only [Datum.product]; rw [Bool.xor_comm]
  | number s m i =>
    cases e with
    | nan t f => rfl
    | infinity t => rfl
    | number t n j => simp only [Datum.product]; rw [Bool.xor_comm, Nat.mul_comm, Int.add_comm]
theorem add_comm' (x y : Nat) : floatBits .add .f64 x y = floatBits .add .f64 y x := by
  show ((Ieee.double.read x).sum (Ieee.double.read y)).map Ieee.double.write = ((Ieee.double.read y).sum (Ieee.double.read x)).map Ieee.double.write
  rw [sum_comm]
theorem mul_comm' (x y : Nat) : floatBits .mul .f64 x y = floatBits .mul .f64 y x := by
  show ((Ieee.double.read x).product (Ieee.double.read y)).map Ieee.double.write = ((Ieee.double.read y).product (Ieee.double.read x)).map Ieee.double.write
  rw [product_comm]

theorem read_flip (x : Nat) (h : x < 18446744073709551616) : Ieee.double.read (Op.negFloat .f64 x) = (Ieee.double.read x).opposite := by
  have hp := flip_parts x h
  rw [read_eq, read_eq, hp.1, hp.2.1]
  (repeat' split) <;> rfl
theorem sub_flip (x y : Nat) (h : y < 18446744073709551616) : floatBits .sub .f64 x y = floatBits .add .f64 x (Op.negFloat .f64 y) := by
  show ((Ieee.double.read x).sum (Ieee.double.read y).opposite).map Ieee.double.write = ((Ieee.double.read x).sum (Ieee.double.read (Op.negFloat .f64 y))).map Ieee.double.write
  rw [read_flip y h]
theorem read_nan (x : Nat) (h : nanB x = true) : ∃ s f, Ieee.double.read x = .nan s f := by
  have : (Ieee.double.read x).isNaN = true := by rw [isNaN_read]; exact h
  cases hd : Ieee.double.read x <;> rw [hd] at this <;> simp [Datum.isNaN] at this
  exact ⟨_, _, rfl⟩
theorem sum_nan_right (d : Datum) (s : Bool) (f : Nat) : d.sum (.nan s f) = none := by cases d <;> rfl
theorem add_nan_right (x y : Nat) (h : nanB y = true) : floatBits .add .f64 x y = none := by
  obtain ⟨s, f, hy⟩ := read_nan y h
  show ((Ieee.double.read x).sum (Ieee.double.read y)).map Ieee.double.write = none
  rw [hy, sum_nan_right]; rfl

theorem flip_flip (x : Nat) (h : x < 18446744073709551616) : Op.negFloat .f64 (Op.negFloat .f64 x) = x := by
  have h2 := (flip_parts x h).2.2
  rw [flip_eq _ h2, flip_eq x h]
  (repeat' split) <;> omega

theorem read_mag (x : Nat) (s : Bool) (m : Nat) (i : Int) (h : Ieee.double.read x = .number s m i) : m < 9007199254740992 := by
  rw [read_eq] at h
  have eB : Bn = 4503599627370496 := rfl
  have hm : rung x % Bn < Bn := Nat.mod_lt _ (by decide)
  split at h
  · injection h with _ h _; omega
  · split at h
    · injection h with _ h _; omega
    · split at h <;> cases h
theorem read_one : Ieee.double.read 4607182418800017408 = .number false 4503599627370496 (-52) := by decide +kernel
theorem write_word (x : Nat) (h64 : x < 18446744073709551616) (h : nanB x = false) : Ieee.double.write (Ieee.double.read x) = x := by
  rw [write_read x h, word_self x h64]
theorem mul_one' (x : Nat) (h64 : x < 18446744073709551616) (h : nanB x = false) : floatBits .mul .f64 x 4607182418800017408 = some x := by
  have hw := write_word x h64 h
  have hn : (Ieee.double.read x).isNaN = false := by rw [isNaN_read]; exact h
  show ((Ieee.double.read x).product (Ieee.double.read 4607182418800017408)).map Ieee.double.write = some x
  rw [read_one]
  cases hd : Ieee.double.read x with
  | nan s f => rw [hd] at hn; simp [Datum.isNaN] at hn
  | infinity s =>
    rw [hd] at hw
    simp only [Datum.product, Option.map]
    rw [if_neg (by decide)]
    simp only [Bool.xor_false]
    rw [hw]
  | number s m i =>
    rw [hd] at hw
    simp only [Datum.product, Option.map_some, Bool.xor_false]
    congr 1
    have := nearest_scale s m 52 i
    rw [show (2 : Nat) ^ 52 = 4503599627370496 from by decide] at this
    rw [show i + -52 = i - (52 : Nat) from by omega]
    exact this.trans hw
theorem div_one' (x : Nat) (h64 : x < 18446744073709551616) (h : nanB x = false) : floatBits .quo .f64 x 4607182418800017408 = some x := by
  have hw := write_word x h64 h
  have hn : (Ieee.double.read x).isNaN = false := by rw [isNaN_read]; exact h
  show ((Ieee.double.read x).quotient (Ieee.double.fractionBits + 2) (Ieee.double.read 4607182418800017408)).map Ieee.double.write = some x
  rw [read_one]
  cases hd : Ieee.double.read x with
  | nan s f => rw [hd] at hn; simp [Datum.isNaN] at hn
  | infinity s =>
    rw [hd] at hw
    simp only [Datum.quotient, Option.map_some, Bool.xor_false]
    rw [hw]
  | number s m i =>
    rw [hd] at hw
    have hm := read_mag x s m i hd
    simp only [Datum.quotient]
    rw [if_neg (by decide)]
    simp only [Option.map_some, Bool.xor_false]
    congr 1
    have hl : m.log2 ≤ 52 := by
      by_cases h0 : m = 0
      · rw [h0]; decide
      · have := log2_lt (k := 53) h0 hm; omega
    have e : Ieee.double.fractionBits + 2 + Nat.log2 4503599627370496 - m.log2 = (Ieee.double.fractionBits + 2 - m.log2) + 52 := by
      rw [show Nat.log2 4503599627370496 = 52 from by decide +kernel, show Ieee.double.fractionBits = 52 from rfl]; omega
    rw [e]
    generalize hk : Ieee.double.fractionBits + 2 - m.log2 = k
    have hk2 : 2 ≤ k := by rw [show Ieee.double.fractionBits = 52 from rfl] at hk; omega
    have e2 : m <<< (k + 52) = m * 2 ^ k * 4503599627370496 := by
      rw [Nat.shiftLeft_eq, Nat.pow_add, ← Nat.mul_assoc]
    rw [e2, Nat.mul_div_cancel _ (by decide), Nat.mul_mod_left]
    simp only [bne_self_eq_false, Bool.toNat_false, Nat.add_zero]
    have := nearest_scale s m (k + 1) i
    rw [show 2 * (m * 2 ^ k) = m * 2 ^ (k + 1) from by rw [Nat.pow_succ]; rw [Nat.mul_comm 2, Nat.mul_assoc]]
    rw [show i - -52 - ((k + 52 : Nat) : Int) - 1 = i - ((k + 1 : Nat) : Int) from by omega]
    exact this.trans hw
end Fl

/-! ### the laws of RealLaws -/
theorem wrap_ub (a : Int) (h : -9223372036854775808 ≤ a ∧ a ≤ 9223372036854775807) : wrap64 ((ub a : Nat) : Int) = a := by
  rw [ub_cast, u64w]; unfold wrap64; omega
/-- A number in its one form. -/
def Canonic (a : Int) : Prop := (-9223372036854775808 ≤ a ∧ a ≤ 9223372036854775807) ∧ (nanB (ub a) = true → a = theNaN)
theorem canonI_canonic (a : Int) (h : -9223372036854775808 ≤ a ∧ a ≤ 9223372036854775807) : Canonic (canonI a) := by
  unfold canonI
  cases hn : nanB (ub a)
  · simp only [Bool.false_eq_true, if_false]
    exact ⟨h, fun x => by rw [hn] at x; cases x⟩
  · simp only [if_true]
    exact ⟨by unfold theNaN; omega, fun _ => rfl⟩
def negI (a : Int) : Int := canonN (Op.negFloat .f64 (ub a))
def addI (a b : Int) : Int := arI (floatBits .add .f64 (ub a) (ub b))
def subI (a b : Int) : Int := arI (floatBits .sub .f64 (ub a) (ub b))
def mulI (a b : Int) : Int := arI (floatBits .mul .f64 (ub a) (ub b))
def divI (a b : Int) : Int := arI (floatBits .quo .f64 (ub a) (ub b))
theorem addI_comm (a b : Int) : addI a b = addI b a := by unfold addI; rw [add_comm']
theorem mulI_comm (a b : Int) : mulI a b = mulI b a := by unfold mulI; rw [mul_comm']
theorem ub_neg (b : Int) (h : nanB (ub b) = false) : ub (negI b) = Op.negFloat .f64 (ub b) := by
  unfold negI canonN
  rw [flip_nan _ (ub_lt b), h]
  simp only [Bool.false_eq_true, if_false]
  exact ub_wrap _ (flip_parts _ (ub_lt b)).2.2
theorem subI_neg (a b : Int) (hb : Canonic b) : subI a b = addI a (negI b) := by
  unfold subI addI
  rw [sub_flip _ _ (ub_lt b)]
  cases h : nanB (ub b)
  · rw [ub_neg b h]
  · have e := hb.2 h
    subst e
    rw [add_nan_right _ _ (by decide +kernel), add_nan_right _ _ (by decide +kernel)]
theorem negI_negI (a : Int) (ha : Canonic a) : negI (negI a) = a := by
  cases h : nanB (ub a)
  · have e := ub_neg a h
    have : negI (negI a) = canonN (Op.negFloat .f64 (ub (negI a))) := rfl
    rw [this, e, flip_flip _ (ub_lt a)]
    unfold canonN
    rw [h]
    simp only [Bool.false_eq_true, if_false]
    exact wrap_ub a ha.1
  · have e := ha.2 h
    subst e
    decide +kernel
theorem mulI_one (a : Int) (ha : Canonic a) : mulI a 4607182418800017408 = a := by
  unfold mulI
  rw [show ub 4607182418800017408 = 4607182418800017408 from by decide +kernel]
  cases h : nanB (ub a)
  · rw [mul_one' _ (ub_lt a) h]; exact wrap_ub a ha.1
  · have e := ha.2 h
    subst e
    decide +kernel
theorem divI_one (a : Int) (ha : Canonic a) : divI a 4607182418800017408 = a := by
  unfold divI
  rw [show ub 4607182418800017408 = 4607182418800017408 from by decide +kernel]
  cases h : nanB (ub a)
  · rw [div_one' _ (ub_lt a) h]; exact wrap_ub a ha.1
  · have e := ha.2 h
    subst e
    decide +kernel
end Go.Proofs.Ytjkjdcejojpikaa
