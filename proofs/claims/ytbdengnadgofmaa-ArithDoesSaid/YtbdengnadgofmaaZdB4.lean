import Derived.Test.YtbdengnadgofmaaZdB3
import Derived.Test.YtbdengnadgofmaaZdFl2
import Derived.Laws.Externs
/- What the sign, the whole parts, the whole numbers and the decimals of package real come to: the walks. -/
namespace Go.Proofs.Ytbdengnadgofmaa
open Go.RowKit Go.Proofs.YtbdengnadgofmaaW.PrintWords Fl
theorem run_neg (x : Nat) (P : Program) (w : World) : (Op.unary .neg (.float .f64 x)).run P w = .ok (.float .f64 (Op.negFloat .f64 x)) w := rfl
theorem neg_calls (a : Int) (w : World) :
    Calls Try.prog 39 #[.int .i64 a] w fun e w' => e = .returned (.int .i64 (canonN (Op.negFloat .f64 (ub a)))) ∧ w = w' := by
  have hn := run_neg (ub a) Try.prog
  go_enter Try.func39, Try.ntmps39
  go_wp2_with fail
  refine (of_calls a _).mono ?_
  rintro e w1 ⟨rfl, rfl⟩
  go_wp2_with fail
  refine (bits_calls _ _).mono ?_
  rintro e w1 ⟨rfl, rfl⟩
  go_wp2
  go_ret
  exact ⟨rfl, rfl⟩
theorem ofint_calls (n : Int) (w : World) :
    Calls Try.prog 33 #[.int .i64 n] w fun e w' => e = .returned (.int .i64 (canonN (FloatKind.f64.nearest n))) ∧ w = w' := by
  go_enter Try.func33, Try.ntmps33
  go_wp2_with fail
  refine (bits_calls _ _).mono ?_
  rintro e w1 ⟨rfl, rfl⟩
  go_wp2
  go_ret
  exact ⟨rfl, rfl⟩
/-- The whole part of a word that is a number. -/
def truncW (x : Nat) : Nat := Ieee.double.write ((Ieee.double.read x).integral .zero)
theorem arch_found (args : Array Value) (w : World) : (callFunc 51 args).run Try.prog w = ((Extern.MathFloor.toIntegral "math.archTrunc" .zero args).run Try.prog w).andThen fun v w' => .ok (.value v) w' :=
  run_callFunc_extern (fn := Try.f51) (by kernel_rfl) (by kernel_rfl) (by kernel_rfl) (by kernel_rfl) (by kernel_rfl) args w
theorem arch_body (x : Nat) : Extern.MathFloor.toIntegral "math.archTrunc" .zero #[.float .f64 x] = (match FloatKind.f64.decode x with
    | .nan s t => if FloatKind.f64.format.quiet t = t then pure (.float .f64 x) else do
      let kept ← choose (.extern "math.Floor,Ceil,Trunc,RoundToEven.signallingNaN kept" 2)
      pure (.float .f64 (if kept == 1 then x else FloatKind.f64.encode (.nan s (FloatKind.f64.format.quiet t))))
    | d => pure (.float .f64 (FloatKind.f64.encode (d.integral .zero)))) := rfl
theorem arch_run (x : Nat) (h : nanB x = false) (w : World) : (callFunc 51 #[.float .f64 x]).run Try.prog w = .ok (.value (.float .f64 (truncW x))) w := by
  rw [arch_found, arch_body]
  have hn : (Ieee.double.read x).isNaN = false := by rw [isNaN_read]; exact h
  unfold truncW
  have e : FloatKind.f64.decode x = Ieee.double.read x := rfl
  rw [e]
  cases hd : Ieee.double.read x with
  | nan s t => rw [hd] at hn; simp [Ieee.Datum.isNaN] at hn
  | number s m i => rfl
  | infinity s => rfl
theorem quiet_nan (s : Bool) (t : Nat) : nanB (FloatKind.f64.encode (.nan s (FloatKind.f64.format.quiet t))) = true := by
  show nanB (Ieee.double.word s (Ieee.double.infRung + (t ||| 2 ^ 51) % Ieee.double.binade)) = true
  have h1 : 0 < (t ||| 2 ^ 51) % Ieee.double.binade := by
    rw [show Ieee.double.binade = 2 ^ 52 from by decide]
    have hb : ((t ||| 2 ^ 51) % 2 ^ 52).testBit 51 = true := by
      rw [Nat.testBit_mod_two_pow, Nat.testBit_or]; simp; exact Or.inr (by decide)
    rcases Nat.eq_zero_or_pos ((t ||| 2 ^ 51) % 2 ^ 52) with h0 | h0
    · rw [h0] at hb; simp at hb
    · exact h0
  have h2 : (t ||| 2 ^ 51) % Ieee.double.binade < Bn := by rw [bn_eq]; exact Nat.mod_lt _ (by decide)
  rw [ir_eq]
  generalize (t ||| 2 ^ 51) % Ieee.double.binade = f at *
  have hs : Ir + f < Sw := by
    have e1 : Ir = 9218868437227405312 := rfl
    have e2 : Sw = 9223372036854775808 := rfl
    have e3 : Bn = 4503599627370496 := rfl
    omega
  have hw := neg_word s (Ir + f) hs
  unfold nanB
  have := hw.2.1
  unfold rung at this
  rw [this]
  simp; exact h1
theorem arch_nan (x : Nat) (h : nanB x = true) (w : World) : ∃ z k, nanB z = true ∧ (callFunc 51 #[.float .f64 x]).run Try.prog w = .ok (.value (.float .f64 z)) (w.drewN k) := by
  rw [arch_found, arch_body]
  have hn : (Ieee.double.read x).isNaN = true := by rw [isNaN_read]; exact h
  have e : FloatKind.f64.decode x = Ieee.double.read x := rfl
  rw [e]
  cases hd : Ieee.double.read x with
  | number s m i => rw [hd] at hn; simp [Ieee.Datum.isNaN] at hn
  | infinity s => rw [hd] at hn; simp [Ieee.Datum.isNaN] at hn
  | nan s t =>
    by_cases q : FloatKind.f64.format.quiet t = t
    · refine ⟨x, 0, h, ?_⟩
      simp only [q, if_true]
      rfl
    · simp only [q, if_false]
      refine ⟨if (w.tape w.drawn (.extern "math.Floor,Ceil,Trunc,RoundToEven.signallingNaN kept" 2) % 2 == 1) = true then x else FloatKind.f64.encode (.nan s (FloatKind.f64.format.quiet t)), 1, ?_, ?_⟩
      · split
        · exact h
        · exact quiet_nan s t
      · simp [Question.forced, Question.cut, Result.andThen]; rfl
end Go.Proofs.Ytbdengnadgofmaa
