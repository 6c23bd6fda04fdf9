import Derived.Laws.FloatArith
/- Plain facts on IEEE doubles: the order of words is that of their places; what is written is no NaN; a word that is read and written is itself. No program here. -/
namespace Go.Proofs.Ytnjobnkkpfaigaa
namespace Fl
open Ieee
def Bn : Nat := 4503599627370496
def Sw : Nat := 9223372036854775808
def Ir : Nat := 9218868437227405312
theorem bn_eq : Ieee.double.binade = Bn := by decide
theorem sw_eq : Ieee.double.signWeight = Sw := by decide
theorem ir_eq : Ieee.double.infRung = Ir := by decide +kernel
theorem lp_eq : Ieee.double.leastPlace = -1074 := by decide +kernel
/-- Is a word no number? -/
def nanB (x : Nat) : Bool := decide (Ir < x % Sw)
def rung (x : Nat) : Nat := x % Sw
def negB (x : Nat) : Bool := x / Sw % 2 == 1
theorem read_eq (x : Nat) : Ieee.double.read x =
    if rung x < Bn then .number (negB x) (rung x) (-1074)
    else if rung x < Ir then .number (negB x) (Bn + rung x % Bn) (-1074 + (rung x / Bn - 1 : Nat))
    else if rung x = Ir then .infinity (negB x) else .nan (negB x) (rung x - Ir) := by
  unfold Format.read
  simp only [bn_eq, sw_eq, ir_eq, lp_eq]
  rfl
theorem isNaN_read (x : Nat) : (Ieee.double.read x).isNaN = nanB x := by
  rw [read_eq]
  unfold nanB
  have hb : Bn < Ir := by decide
  change _ = decide (Ir < rung x)
  split
  · simp [Datum.isNaN]; omega
  · split
    · simp [Datum.isNaN]; omega
    · split
      · simp [Datum.isNaN]; omega
      · simp [Datum.isNaN]; omega
theorem order_self_datum (d : Datum) : (d.order d != some .eq) = d.isNaN := by
  cases d with
  | number s m i => simp [Datum.order, Datum.isNaN]
  | infinity s => cases s <;> simp [Datum.order, Datum.isNaN]
  | nan s f => simp [Datum.order, Datum.isNaN]
theorem order_self (x : Nat) : (FloatKind.f64.format.order x x != some Ordering.eq) = nanB x := by
  rw [← isNaN_read]; exact order_self_datum _
/-! ### the order -/
/-! ### what the program's functions answer -/
def theNaN : Int := 9221120237041090560
def ub (a : Int) : Nat := (IntKind.u64.wrap a).toNat
def canonI (a : Int) : Int := if nanB (ub a) then theNaN else a
end Fl
end Go.Proofs.Ytnjobnkkpfaigaa
