import Derived.Laws.FloatArith
/- Plain facts on IEEE doubles: the order of words is that of their places; what is written is no NaN; a word that is read and written is itself. No program here. -/
namespace Go.Proofs.Ytnjobnkkpfaigaa
namespace Fl
open Ieee
def Bn : Nat := 4503599627370496
def Sw : Nat := 9223372036854775808
def Ir : Nat := 9218868437227405312
theorem bn_eq : Ieee.double.binade = Bn := by decide
theorem sw_eq : Ieee.double.signWeight = Sw := by decide
theorem ir_eq : Ieee.double.infRung = Ir := by decide +kernel
theorem lp_eq : Ieee.double.leastPlace = -1074 := by decide +kernel
/-- Is a word no number? -/
def nanB (x : Nat) : Bool := decide (Ir < x % Sw)
def rung (x : Nat) : Nat := x % Sw
def negB (x : Nat) : Bool := x / Sw % 2 == 1
theorem read_eq (x : Nat) : Ieee.double.read x =
    if rung x < Bn then .number (negB x) (rung x) (-1074)
    else if rung x < Ir then .number (negB x) (Bn + rung x % Bn) (-1074 + (rung x / Bn - 1 : Nat))
    else if rung x = Ir then .infinity (negB x) else .nan (negB x) (rung x - Ir) := by
  unfold Format.read
  simp only [bn_eq, sw_eq, ir_eq, lp_eq]
  rfl
theorem isNaN_read (x : Nat) : (Ieee.double.read x).isNaN = nanB x := by
  rw [read_eq]
  unfold nanB
  have hb : Bn < Ir := by decide
  change _ = decide (Ir < rung x)
  split
  · simp [Datum.isNaN]; omega
  · split
    · simp [Datum.isNaN]; omega
    · split
      · simp [Datum.isNaN]; omega
      · simp [Datum.isNaN]; omega
theorem order_self_datum (d : Datum) : (d.order d != some .eq) = d.isNaN := by
  cases d with
  | number s m i => simp [Datum.order, Datum.isNaN]
  | infinity s => cases s <;> simp [Datum.order, Datum.isNaN]
  | nan s f => simp [Datum.order, Datum.isNaN]
theorem order_self (x : Nat) : (FloatKind.f64.format.order x x != some Ordering.eq) = nanB x := by
  rw [← isNaN_read]; exact order_self_datum _
/-! ### the order -/
/-- The magnitude of a rung, in units of the least place. -/
def val (r : Nat) : Nat := if r < Bn then r else (Bn + r % Bn) * 2 ^ (r / Bn - 1)
theorem val_lt {r s : Nat} (h : r < s) : val r < val s := by
  unfold val
  have hB : Bn = 4503599627370496 := rfl
  have two : ∀ a b : Nat, a ≤ b → 2 ^ a ≤ 2 ^ b := fun a b hab => Nat.pow_le_pow_right (by decide) hab
  by_cases hr : r < Bn
  · rw [if_pos hr]
    by_cases hs : s < Bn
    · rw [if_pos hs]; exact h
    · rw [if_neg hs]
      have h1 : 1 ≤ 2 ^ (s / Bn - 1) := Nat.one_le_two_pow
      calc r < Bn := hr
        _ ≤ (Bn + s % Bn) * 1 := by omega
        _ ≤ _ := Nat.mul_le_mul_left _ h1
  · rw [if_neg hr]
    have hs : ¬ s < Bn := by omega
    rw [if_neg hs]
    have dr := Nat.div_add_mod r Bn
    have ds := Nat.div_add_mod s Bn
    have mr : r % Bn < Bn := Nat.mod_lt _ (by decide)
    have ms : s % Bn < Bn := Nat.mod_lt _ (by decide)
    have qr : 1 ≤ r / Bn := by rw [hB] at *; omega
    have qs : 1 ≤ s / Bn := by rw [hB] at *; omega
    have hq : r / Bn ≤ s / Bn := Nat.div_le_div_right (by omega)
    rcases Nat.lt_or_eq_of_le hq with hlt | heq
    · have hp : 2 ^ (r / Bn - 1) * 2 ≤ 2 ^ (s / Bn - 1) := by
        rw [← Nat.pow_succ]; exact two _ _ (by omega)
      have p0 : 0 < 2 ^ (r / Bn - 1) := Nat.two_pow_pos _
      calc (Bn + r % Bn) * 2 ^ (r / Bn - 1) < (Bn + Bn) * 2 ^ (r / Bn - 1) := Nat.mul_lt_mul_of_pos_right (by omega) p0
        _ = Bn * (2 ^ (r / Bn - 1) * 2) := by rw [← Nat.two_mul, Nat.mul_comm 2 Bn, Nat.mul_assoc, Nat.mul_comm 2]
        _ ≤ Bn * 2 ^ (s / Bn - 1) := Nat.mul_le_mul_left _ hp
        _ ≤ (Bn + s % Bn) * 2 ^ (s / Bn - 1) := Nat.mul_le_mul_right _ (by omega)
    · rw [heq]
      refine Nat.mul_lt_mul_of_pos_right ?_ (Nat.two_pow_pos _)
      have : r % Bn < s % Bn := by rw [heq] at dr; omega
      omega
/-! ### what the program's functions answer -/
def theNaN : Int := 9221120237041090560
def ub (a : Int) : Nat := (IntKind.u64.wrap a).toNat
def canonI (a : Int) : Int := if nanB (ub a) then theNaN else a
end Fl
end Go.Proofs.Ytnjobnkkpfaigaa
