/- Plain facts on IEEE doubles: the order of words is that of their places; what is written is no NaN; a word that is read and written is itself. No program here. -/
import Derived.Laws.FloatArith
namespace Go.Proofs.YthoemenchimggaaDoor
namespace Fl
open Ieee

def Bn : Nat := 4503599627370496
def Sw : Nat := 9223372036854775808
def Ir : Nat := 9218868437227405312
theorem bn_eq : Ieee.double.binade = Bn := by decide
theorem sw_eq : Ieee.double.signWeight = Sw := by decide
theorem ir_eq : Ieee.double.infRung = Ir := by decide +kernel
theorem lp_eq : Ieee.double.leastPlace = -1074 := by decide +kernel

/-- Is a word no number? -/
def nanB (x : Nat) : Bool := decide (Ir < x % Sw)
def rung (x : Nat) : Nat := x % Sw
def negB (x : Nat) : Bool := x / Sw % 2 == 1

theorem read_eq (x : Nat) : Ieee.double.read x =
    if rung x < Bn then .number (negB x) (rung x) (-1074)
    else if rung x < Ir then .number (negB x) (Bn + rung x % Bn) (-1074 + (rung x / Bn - 1 : Nat))
    else if rung x = Ir then .infinity (negB x) else .nan (negB x) (rung x - Ir) := by
  unfold Format.read
  simp only [bn_eq, sw_eq, ir_eq, lp_eq]
  rfl

theorem isNaN_read (x : Nat) : (Ieee.double.read x).isNaN = nanB x := by
  rw [read_eq]
  unfold nanB
  have hb : Bn < Ir := by decide
  change _ = decide (Ir < rung x)
  split
  · simp [Datum.isNaN]; omega
  · split
    · simp [Datum.isNaN]; omega
    · split
      · simp [Datum.isNaN]; omega
      · simp [Datum.isNaN]; omega

theorem order_self_datum (d : Datum) : (d.order d != some .eq) = d.isNaN := by
  cases d with
  | number s m i => simp [Datum.order, Datum.isNaN]
  | infinity s => cases s <;> simp [Datum.order, Datum.isNaN]
  | nan s f => simp [Datum.order, Datum.isNaN]

theorem order_self (x : Nat) : (FloatKind.f64.format.order x x != some Ordering.eq) = nanB x := by
  rw [← isNaN_read]; exact order_self_datum _

/-! ### the order -/
/-- The magnitude of a rung, in units of the least place. -/
def val (r : Nat) : Nat := if r < Bn then r else (Bn + r % Bn) * 2 ^ (r / Bn - 1)

theorem val_lt {r s : Nat} (h : r < s) : val r < val s := by
  unfold val
  have hB : Bn = 4503599627370496 := rfl
  have two : ∀ a b : Nat, a ≤ b → 2 ^ a ≤ 2 ^ b := fun a b hab => Nat.pow_le_pow_right (by decide) hab
  by_cases hr : r < Bn
  · rw [if_pos hr]
    by_cases hs : s < Bn
    · rw [if_pos hs]; exact h
    · rw [if_neg hs]
      have h1 : 1 ≤ 2 ^ (s / Bn - 1) := Nat.one_le_two_pow
      calc r < Bn := hr
        _ ≤ (Bn + s % Bn) * 1 := by omega
        _ ≤ _ := Nat.mul_le_mul_left _ h1
  · rw [if_neg hr]
    have hs : ¬ s < Bn := by omega
    rw [if_neg hs]
    have dr := Nat.div_add_mod r Bn
    have ds := Nat.div_add_mod s Bn
    have mr : r % Bn < Bn := Nat.mod_lt _ (by decide)
    have ms : s % Bn < Bn := Nat.mod_lt _ (by decide)
    have qr : 1 ≤ r / Bn := by rw [hB] at *; omega
    have qs : 1 ≤ s / Bn := by rw [hB] at *; omega
    have hq : r / Bn ≤ s / Bn := Nat.div_le_div_right (by omega)
    rcases Nat.lt_or_eq_of_le hq with hlt | heq
    · have hp : 2 ^ (r / Bn - 1) * 2 ≤ 2 ^ (s / Bn - 1) := by
        rw [← Nat.pow_succ]; exact two _ _ (by omega)
      have p0 : 0 < 2 ^ (r / Bn - 1) := Nat.two_pow_pos _
      calc (Bn + r % Bn) * 2 ^ (r / Bn - 1) < (Bn + Bn) * 2 ^ (r / Bn - 1) := Nat.mul_lt_mul_of_pos_right (by omega) p0
        _ = Bn * (2 ^ (r / Bn - 1) * 2) := by rw [← Nat.two_mul, Nat.mul_comm 2 Bn, Nat.mul_assoc, Nat.mul_comm 2]
        _ ≤ Bn * 2 ^ (s / Bn - 1) := Nat.mul_le_mul_left _ hp
        _ ≤ (Bn + s % Bn) * 2 ^ (s / Bn - 1) := Nat.mul_le_mul_right _ (by omega)
    · rw [heq]
      refine Nat.mul_lt_mul_of_pos_right ?_ (Nat.two_pow_pos _)
      have : r % Bn < s % Bn := by rw [heq] at dr; omega
      omega

theorem val_lt_iff (r s : Nat) : val r < val s ↔ r < s := by
  constructor
  · intro h
    rcases Nat.lt_trichotomy r s with h1 | h1 | h1
    · exact h1
    · rw [h1] at h; omega
    · have := val_lt h1; omega
  · exact val_lt
theorem val_zero : val 0 = 0 := by decide

/-- Where a word that is a number stands. -/
def plcR (x : Nat) : Int := if negB x then -(rung x : Int) else rung x
def sval (x : Nat) : Int := if negB x then -(val (rung x) : Int) else val (rung x)

theorem sval_lt_iff (x y : Nat) : sval x < sval y ↔ plcR x < plcR y := by
  unfold sval plcR
  have h1 := val_lt_iff (rung x) (rung y)
  have h2 := val_lt_iff (rung y) (rung x)
  have h3 := val_lt_iff 0 (rung x)
  have h4 := val_lt_iff 0 (rung y)
  rw [val_zero] at h3 h4
  cases negB x <;> cases negB y <;> simp <;> omega

theorem compare_int (a b c d : Int) (h1 : a < b ↔ c < d) (h2 : b < a ↔ d < c) : compare a b = compare c d := by
  simp only [compare, compareOfLessAndEq]
  by_cases x : a < b
  · rw [if_pos x, if_pos (h1.1 x)]
  · rw [if_neg x, if_neg (fun z => x (h1.2 z))]
    by_cases y : a = b
    · rw [if_pos y, if_pos (by omega)]
    · rw [if_neg y, if_neg (by omega)]

/-- A datum's value in units of the least place; an infinity as its rung tells. -/
def dval : Datum → Int
  | .number s m i => if s then -((m * 2 ^ (i + 1074).toNat : Nat) : Int) else ((m * 2 ^ (i + 1074).toNat : Nat) : Int)
  | .infinity s => if s then -(val Ir : Int) else val Ir
  | .nan _ _ => 0

theorem dval_read (x : Nat) (h : nanB x = false) : dval (Ieee.double.read x) = sval x := by
  rw [read_eq]
  have hn : ¬ Ir < rung x := by simpa [nanB, rung] using h
  unfold sval
  by_cases h1 : rung x < Bn
  · rw [if_pos h1]; simp [dval, val, h1]
  · rw [if_neg h1]
    by_cases h2 : rung x < Ir
    · rw [if_pos h2]
      have e : ((-1074 + ((rung x / Bn - 1 : Nat) : Int)) + 1074).toNat = rung x / Bn - 1 := by omega
      simp only [dval, e, val, if_neg h1]
    · rw [if_neg h2]
      have h3 : rung x = Ir := by omega
      rw [if_pos h3]; simp [dval, h3]

theorem signed_eq (s : Bool) (m k : Nat) : signed s m k = if s then -((m * 2 ^ k : Nat) : Int) else ((m * 2 ^ k : Nat) : Int) := by
  unfold signed; rw [Nat.shiftLeft_eq]

def place_ok : Datum → Prop
  | .number _ m i => -1074 ≤ i ∧ m * 2 ^ (i + 1074).toNat < val Ir
  | _ => True

theorem read_ok (x : Nat) : place_ok (Ieee.double.read x) := by
  rw [read_eq]
  by_cases h1 : rung x < Bn
  · rw [if_pos h1]
    refine ⟨by omega, ?_⟩
    have : val (rung x) < val Ir := val_lt (by have : Bn < Ir := by decide
                                               omega)
    simpa [val, h1] using this
  · rw [if_neg h1]
    by_cases h2 : rung x < Ir
    · rw [if_pos h2]
      refine ⟨by omega, ?_⟩
      have e : ((-1074 + ((rung x / Bn - 1 : Nat) : Int)) + 1074).toNat = rung x / Bn - 1 := by omega
      rw [e]
      have : val (rung x) < val Ir := val_lt h2
      simpa [val, h1] using this
    · rw [if_neg h2]; split <;> trivial

theorem scale_lt (a b : Int) (i j base : Int) (hi : base ≤ i) (hj : base ≤ j) (hb : -1074 ≤ base) :
    (a * 2 ^ (i - base).toNat < b * 2 ^ (j - base).toNat) ↔ (a * 2 ^ (i + 1074).toNat < b * 2 ^ (j + 1074).toNat) := by
  have e1 : (i + 1074).toNat = (i - base).toNat + (base + 1074).toNat := by omega
  have e2 : (j + 1074).toNat = (j - base).toNat + (base + 1074).toNat := by omega
  rw [e1, e2, Int.pow_add, Int.pow_add, ← Int.mul_assoc, ← Int.mul_assoc]
  have p : (0 : Int) < 2 ^ (base + 1074).toNat := Int.pow_pos (by decide)
  exact (Int.mul_lt_mul_right p).symm

theorem signed_int (s : Bool) (m k : Nat) : signed s m k = (if s then -(m : Int) else m) * 2 ^ k := by
  rw [signed_eq]; cases s <;> simp [Int.natCast_mul, Int.natCast_pow, Int.neg_mul]

theorem dval_int (s : Bool) (m : Nat) (i : Int) : dval (.number s m i) = (if s then -(m : Int) else m) * 2 ^ (i + 1074).toNat := by
  unfold dval; cases s <;> simp [Int.natCast_mul, Int.natCast_pow, Int.neg_mul]

theorem cmp_lt {a b : Int} (h : a < b) : compare a b = .lt := by simp only [compare, compareOfLessAndEq]; rw [if_pos h]
theorem cmp_gt {a b : Int} (h : b < a) : compare a b = .gt := by simp only [compare, compareOfLessAndEq]; rw [if_neg (by omega), if_neg (by omega)]
theorem cmp_eq {a b : Int} (h : a = b) : compare a b = .eq := by simp only [compare, compareOfLessAndEq]; rw [if_neg (by omega), if_pos h]

theorem order_dval (d e : Datum) (hd : place_ok d) (he : place_ok e) (nd : d.isNaN = false) (ne : e.isNaN = false) : d.order e = some (compare (dval d) (dval e)) := by
  have v0 : 0 < val Ir := by have := val_lt (show 0 < Ir by decide); rw [val_zero] at this; exact this
  cases d with
  | nan => simp [Datum.isNaN] at nd
  | infinity s =>
    cases e with
    | nan => simp [Datum.isNaN] at ne
    | infinity t =>
      simp only [Datum.order, dval]
      generalize val Ir = V at *
      cases s <;> cases t
      · simp only [Bool.false_eq_true, if_false]; rw [cmp_eq rfl]; rfl
      · simp only [Bool.false_eq_true, if_false, if_true]; rw [cmp_gt (by omega)]; rfl
      · simp only [Bool.false_eq_true, if_false, if_true]; rw [cmp_lt (by omega)]; rfl
      · simp only [if_true]; rw [cmp_eq rfl]; rfl
    | number t n j =>
      have h2 := he.2
      simp only [Datum.order, dval]
      generalize n * 2 ^ (j + 1074).toNat = Q at *
      generalize val Ir = V at *
      cases s
      · simp only [Bool.false_eq_true, if_false]; rw [cmp_gt]; split <;> omega
      · simp only [if_true]; rw [cmp_lt]; split <;> omega
  | number s m i =>
    cases e with
    | nan => simp [Datum.isNaN] at ne
    | infinity t =>
      have h2 := hd.2
      simp only [Datum.order, dval]
      generalize m * 2 ^ (i + 1074).toNat = Q at *
      generalize val Ir = V at *
      cases t
      · simp only [Bool.false_eq_true, if_false]; rw [cmp_lt]; split <;> omega
      · simp only [if_true]; rw [cmp_gt]; split <;> omega
    | number t n j =>
      have hi := hd.1
      have hj := he.1
      simp only [Datum.order]
      congr 1
      rw [signed_int, signed_int, dval_int, dval_int]
      exact compare_int _ _ _ _ (scale_lt _ _ _ _ _ (by omega) (by omega) (by omega)) (scale_lt _ _ _ _ _ (by omega) (by omega) (by omega))

/-- THE ORDER OF TWO WORDS THAT ARE NUMBERS is that of their places. -/
theorem order_plc (x y : Nat) (hx : nanB x = false) (hy : nanB y = false) : FloatKind.f64.format.order x y = some (compare (plcR x) (plcR y)) := by
  have h : (Ieee.double.read x).order (Ieee.double.read y) = some (compare (plcR x) (plcR y)) := by
    rw [order_dval _ _ (read_ok x) (read_ok y) (by rw [isNaN_read]; exact hx) (by rw [isNaN_read]; exact hy), dval_read x hx, dval_read y hy]
    congr 1
    exact compare_int _ _ _ _ (sval_lt_iff x y) (sval_lt_iff y x)
  exact h
theorem order_nan_left (x y : Nat) (hx : nanB x = true) : FloatKind.f64.format.order x y = none := by
  have h : (Ieee.double.read x).isNaN = true := by rw [isNaN_read]; exact hx
  have : (Ieee.double.read x).order (Ieee.double.read y) = none := by
    cases hd : Ieee.double.read x <;> simp [hd, Datum.isNaN] at h
    simp [Datum.order]
  exact this

/-- Of any word: where it stands in the order; no numbers behind all. -/
def plc (x : Nat) : Int := if nanB x then 9223372036854775807 else plcR x
def cmpI (x y : Int) : Int := if x < y then -1 else if y < x then 1 else 0

/-! ### what the program's functions answer -/
def theNaN : Int := 9221120237041090560
def ub (a : Int) : Nat := (IntKind.u64.wrap a).toNat
def canonN (x : Nat) : Int := if nanB x then theNaN else Go.RowKit.wrap64 x
def canonI (a : Int) : Int := if nanB (ub a) then theNaN else a
def ltB (x y : Nat) : Bool := FloatKind.f64.format.order x y == some .lt
def gtB (x y : Nat) : Bool := FloatKind.f64.format.order x y == some .gt
def cmpF (x y : Nat) : Int := if nanB x then (if nanB y then 0 else -1) else if nanB y then 1 else if ltB x y then -1 else if gtB x y then 1 else 0
def ordI (a b : Int) : Int := cmpI (plc (ub a)) (plc (ub b))

theorem ltB_eq (x y : Nat) (hx : nanB x = false) (hy : nanB y = false) : ltB x y = decide (plcR x < plcR y) := by
  unfold ltB
  rw [order_plc x y hx hy]
  rcases Int.lt_trichotomy (plcR x) (plcR y) with h | h | h
  · rw [cmp_lt h]; simp [h]
  · rw [cmp_eq h]; simp; omega
  · rw [cmp_gt h]; simp; omega
theorem gtB_eq (x y : Nat) (hx : nanB x = false) (hy : nanB y = false) : gtB x y = decide (plcR y < plcR x) := by
  unfold gtB
  rw [order_plc x y hx hy]
  rcases Int.lt_trichotomy (plcR x) (plcR y) with h | h | h
  · rw [cmp_lt h]; simp; omega
  · rw [cmp_eq h]; simp; omega
  · rw [cmp_gt h]; simp [h]

theorem plcR_bound (x : Nat) (hx : nanB x = false) : -9223372036854775807 < plcR x ∧ plcR x < 9223372036854775807 := by
  have h : ¬ Ir < rung x := by simpa [nanB, rung] using hx
  have hI : Ir = 9218868437227405312 := rfl
  unfold plcR
  split <;> omega

theorem cmpF_plain (x y : Nat) (hx : nanB x = false) (hy : nanB y = false) : cmpF x y = cmpI (plc x) (plc y) := by
  unfold cmpF cmpI plc
  simp only [hx, hy, ltB_eq x y hx hy, gtB_eq x y hx hy, decide_eq_true_eq, Bool.false_eq_true, if_false]
theorem cmpF_nan (x y : Nat) (h : (nanB x || nanB y) = true) : -(cmpF x y) = cmpI (plc x) (plc y) := by
  unfold cmpF cmpI plc
  cases hx : nanB x <;> cases hy : nanB y
  · simp [hx, hy] at h
  · have := plcR_bound x hx
    simp only [Bool.false_eq_true, if_false, if_true]
    rw [if_pos (by omega)]
  · have := plcR_bound y hy
    simp only [Bool.false_eq_true, if_false, if_true]
    rw [if_neg (by omega), if_pos (by omega)]; rfl
  · simp
end Fl
end Go.Proofs.YthoemenchimggaaDoor
