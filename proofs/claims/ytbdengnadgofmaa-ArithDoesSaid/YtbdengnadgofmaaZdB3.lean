import Derived.Test.YtbdengnadgofmaaZdB1
import Derived.Test.YtbdengnadgofmaaZdB2
/- What the sums, differences, products and quotients of package real, and of its reference, answer: the walks. -/
namespace Go.Proofs.Ytbdengnadgofmaa
open Go.RowKit Go.Proofs.YtbdengnadgofmaaW.PrintWords Fl
/-- What a float's word, or no word, becomes. -/
def arI (o : Option Nat) : Int := match o with | some r => wrap64 r | none => theNaN
def drawNaN (t : Nat) : Nat := (t % 2) * 2 ^ 63 + 0x7ff0000000000000 + 1 + (t / 2) % (2 ^ 52 - 1)
theorem drawNaN_nan (t : Nat) : nanB (drawNaN t) = true := by
  unfold nanB drawNaN
  have e1 : Ir = 9218868437227405312 := rfl
  have e2 : Sw = 9223372036854775808 := rfl
  rw [e1, e2]
  simp only [decide_eq_true_eq]
  have hq : t / 2 % (2 ^ 52 - 1) < 4503599627370495 := Nat.mod_lt _ (by decide)
  generalize t / 2 % (2 ^ 52 - 1) = q at *
  rcases Nat.mod_two_eq_zero_or_one t with h | h <;> rw [h] <;> omega
theorem run_nan (op : BinOp) (hop : op = .add ∨ op = .sub ∨ op = .mul ∨ op = .quo) (t : TypeId) (x y : Nat) (h : floatBits op .f64 x y = none) (P : Program) (w : World) :
    (binOp op t (.float .f64 x) (.float .f64 y)).run P w = .ok (.float .f64 (drawNaN (w.tape w.drawn (.nanBits .f64 x y)))) w.drew := by
  unfold floatBits at h
  rcases hop with rfl | rfl | rfl | rfl <;> simp only at h <;> simp [binOp, Op.floatArith, h, Question.forced, Question.cut, drawNaN]
theorem drew_one (w : World) : Drawn0 w w.drew := ⟨⟨1, rfl⟩⟩
theorem _root_.Go.Proofs.YtbdengnadgofmaaW.PrintWords.Drawn0.drew {w w' : World} (h : Drawn0 w w') : Drawn0 w w'.drew := by
  obtain ⟨m, rfl⟩ := h
  exact ⟨⟨m + 1, by rw [← World.drewN_drewN]; rfl⟩⟩
theorem rof_calls (a : Int) (w : World) :
    Calls Try.prog 49 #[.int .i64 a] w fun e w' => e = .returned (.float .f64 (ub a)) ∧ w = w' := by
  have h1 := frombits
  go_enter Try.func49, Try.ntmps49
  go_wp2
  go_ret
  exact ⟨rfl, rfl⟩
theorem ub_wrap (x : Nat) (h : x < 18446744073709551616) : ub (wrap64 x) = x := by
  have := ub_cast (wrap64 x)
  rw [u64w] at this
  unfold wrap64 at *
  omega
theorem rbits_calls (x : Nat) (hx : x < 18446744073709551616) (w : World) :
    Calls Try.prog 50 #[.float .f64 x] w fun e w' => e = .returned (.int .i64 (canonN x)) ∧ Drawn0 w w' := by
  have h1 := tobits
  have H : Hid (canonI (wrap64 x) = canonN x) := Lib.hid (by unfold canonI canonN; rw [ub_wrap x hx])
  clear hx
  go_enter Try.func50, Try.ntmps50
  go_wp2_with fail
  refine (rcanon_calls _ _).mono ?_
  rintro e w1 ⟨rfl, ⟨n1, rfl⟩⟩
  rw [H.out]
  go_wp2
  go_ret
  exact ⟨rfl, by repeat (first | exact Drawn0.refl _ | apply Drawn0.step)⟩
theorem nan_word (s : Bool) (r : Nat) (h : r ≤ Ir) : nanB (Ieee.double.word s r) = false := by
  unfold nanB Ieee.Format.word
  rw [sw_eq]
  have e1 : Ir = 9218868437227405312 := rfl
  have e2 : Sw = 9223372036854775808 := rfl
  rw [e1] at h ⊢
  rw [e2]
  simp only [decide_eq_false_iff_not]
  split <;> omega
theorem nan_nearest (s : Bool) (m : Nat) (p : Int) : nanB (Ieee.double.nearest s m p) = false := by
  unfold Ieee.Format.nearest
  split
  · exact nan_word s 0 (Nat.zero_le _)
  · refine nan_word s _ ?_
    rw [← ir_eq]
    exact Nat.min_le_right ..
theorem nan_write (d : Ieee.Datum) (h : d.isNaN = false) : nanB (Ieee.double.write d) = false := by
  cases d with
  | number s m i => exact nan_nearest s m i
  | infinity s => exact nan_word s _ (by rw [ir_eq]; exact Nat.le_refl _)
  | nan s f => simp [Ieee.Datum.isNaN] at h
theorem sum_nan (d e r : Ieee.Datum) (h : d.sum e = some r) : r.isNaN = false := by
  cases d <;> cases e <;> simp [Ieee.Datum.sum] at h
  all_goals first | (subst h; rfl) | (obtain ⟨_, rfl⟩ := h; rfl)
theorem product_nan (d e r : Ieee.Datum) (h : d.product e = some r) : r.isNaN = false := by
  cases d <;> cases e <;> simp [Ieee.Datum.product] at h
  all_goals first | (subst h; rfl) | (obtain ⟨_, rfl⟩ := h; rfl)
theorem quotient_nan (k : Nat) (d e r : Ieee.Datum) (h : d.quotient k e = some r) : r.isNaN = false := by
  cases d <;> cases e <;> simp [Ieee.Datum.quotient] at h
  all_goals first | (subst h; rfl) | (obtain ⟨_, rfl⟩ := h; rfl) | skip
  split at h
  · split at h
    · cases h
    · cases h; rfl
  · cases h; rfl
theorem floatBits_nan {op : BinOp} {x y r : Nat} (h : floatBits op .f64 x y = some r) : nanB r = false ∧ r < 18446744073709551616 := by
  constructor
  · unfold floatBits at h
    split at h
    · have h' : ((Ieee.double.read x).sum (Ieee.double.read y)).map Ieee.double.write = some r := h
      rw [Option.map_eq_some_iff] at h'
      obtain ⟨d, hd, rfl⟩ := h'
      exact nan_write d (sum_nan _ _ _ hd)
    · have h' : ((Ieee.double.read x).sum (Ieee.double.read y).opposite).map Ieee.double.write = some r := h
      rw [Option.map_eq_some_iff] at h'
      obtain ⟨d, hd, rfl⟩ := h'
      exact nan_write d (sum_nan _ _ _ hd)
    · have h' : ((Ieee.double.read x).product (Ieee.double.read y)).map Ieee.double.write = some r := h
      rw [Option.map_eq_some_iff] at h'
      obtain ⟨d, hd, rfl⟩ := h'
      exact nan_write d (product_nan _ _ _ hd)
    · have h' : ((Ieee.double.read x).quotient (Ieee.double.fractionBits + 2) (Ieee.double.read y)).map Ieee.double.write = some r := h
      rw [Option.map_eq_some_iff] at h'
      obtain ⟨d, hd, rfl⟩ := h'
      exact nan_write d (quotient_nan _ _ _ _ hd)
    · cases h
  · have := floatBits_wf h
    simp [Lit.wf] at this
    omega
theorem add_calls (a b : Int) (w : World) :
    Calls Try.prog 35 #[.int .i64 a, .int .i64 b] w fun e w' => e = .returned (.int .i64 (arI (floatBits .add .f64 (ub a) (ub b)))) ∧ Drawn0 w w' := by
  cases h : floatBits .add .f64 (ub a) (ub b) with
  | none =>
    have hr := run_nan .add (by simp) 64 (ub a) (ub b) h Try.prog w
    have hn := Lib.hid (drawNaN_nan (w.tape w.drawn (.nanBits .f64 (ub a) (ub b))))
    generalize hz : drawNaN (w.tape w.drawn (.nanBits .f64 (ub a) (ub b))) = z at hr hn
    have hz64 : Hid (z < 18446744073709551616) := Lib.hid (by rw [← hz]; unfold drawNaN; omega)
    clear hz h
    go_enter Try.func35, Try.ntmps35
    go_wp2_with fail
    refine (of_calls a _).mono ?_
    rintro e w1 ⟨rfl, rfl⟩
    go_wp2_with fail
    refine (of_calls b _).mono ?_
    rintro e w1 ⟨rfl, rfl⟩
    go_wp2_with fail
    refine (bits_calls z _).mono ?_
    rintro e w1 ⟨rfl, rfl⟩
    go_wp2
    go_ret
    exact ⟨ret_int (by simp [canonN, hn.out, arI]), by first | (with_reducible exact drew_one _) | (with_reducible exact (drew_one _).step _) | (with_reducible exact (Drawn0.refl _).step _)⟩
  | some r =>
    obtain ⟨n1, n2⟩ := floatBits_nan h
    have hn := Lib.hid n1
    have hz64 := Lib.hid n2
    have hr := fun w => run_float_arith (P := Try.prog) w .add 64 .f64 (ub a) (ub b) r h
    clear n1 n2 h
    go_enter Try.func35, Try.ntmps35
    go_wp2_with fail
    refine (of_calls a _).mono ?_
    rintro e w1 ⟨rfl, rfl⟩
    go_wp2_with fail
    refine (of_calls b _).mono ?_
    rintro e w1 ⟨rfl, rfl⟩
    go_wp2_with fail
    refine (bits_calls r _).mono ?_
    rintro e w1 ⟨rfl, rfl⟩
    go_wp2
    go_ret
    exact ⟨ret_int (by simp [canonN, hn.out, arI]), by repeat (first | exact Drawn0.refl _ | apply Drawn0.step)⟩
theorem radd_calls (a b : Int) (w : World) :
    Calls Try.prog 41 #[.int .i64 a, .int .i64 b] w fun e w' => e = .returned (.int .i64 (arI (floatBits .add .f64 (ub a) (ub b)))) ∧ Drawn0 w w' := by
  cases h : floatBits .add .f64 (ub a) (ub b) with
  | none =>
    have hr := run_nan .add (by simp) 64 (ub a) (ub b) h Try.prog w
    have hn := Lib.hid (drawNaN_nan (w.tape w.drawn (.nanBits .f64 (ub a) (ub b))))
    generalize hz : drawNaN (w.tape w.drawn (.nanBits .f64 (ub a) (ub b))) = z at hr hn
    have hz64 : Hid (z < 18446744073709551616) := Lib.hid (by rw [← hz]; unfold drawNaN; omega)
    clear hz h
    go_enter Try.func41, Try.ntmps41
    go_wp2_with fail
    refine (rof_calls a _).mono ?_
    rintro e w1 ⟨rfl, rfl⟩
    go_wp2_with fail
    refine (rof_calls b _).mono ?_
    rintro e w1 ⟨rfl, rfl⟩
    go_wp2_with fail
    refine (rbits_calls z hz64.out _).mono ?_
    rintro e w1 ⟨rfl, ⟨nd, rfl⟩⟩
    go_wp2
    go_ret
    exact ⟨ret_int (by simp [canonN, hn.out, arI]), by first | (with_reducible exact drew_one _) | (with_reducible exact (drew_one _).step _) | (with_reducible exact (Drawn0.refl _).step _)⟩
  | some r =>
    obtain ⟨n1, n2⟩ := floatBits_nan h
    have hn := Lib.hid n1
    have hz64 := Lib.hid n2
    have hr := fun w => run_float_arith (P := Try.prog) w .add 64 .f64 (ub a) (ub b) r h
    clear n1 n2 h
    go_enter Try.func41, Try.ntmps41
    go_wp2_with fail
    refine (rof_calls a _).mono ?_
    rintro e w1 ⟨rfl, rfl⟩
    go_wp2_with fail
    refine (rof_calls b _).mono ?_
    rintro e w1 ⟨rfl, rfl⟩
    go_wp2_with fail
    refine (rbits_calls r hz64.out _).mono ?_
    rintro e w1 ⟨rfl, ⟨nd, rfl⟩⟩
    go_wp2
    go_ret
    exact ⟨ret_int (by simp [canonN, hn.out, arI]), by repeat (first | exact Drawn0.refl _ | apply Drawn0.step)⟩
theorem sub_calls (a b : Int) (w : World) :
    Calls Try.prog 36 #[.int .i64 a, .int .i64 b] w fun e w' => e = .returned (.int .i64 (arI (floatBits .sub .f64 (ub a) (ub b)))) ∧ Drawn0 w w' := by
  cases h : floatBits .sub .f64 (ub a) (ub b) with
  | none =>
    have hr := run_nan .sub (by simp) 64 (ub a) (ub b) h Try.prog w
    have hn := Lib.hid (drawNaN_nan (w.tape w.drawn (.nanBits .f64 (ub a) (ub b))))
    generalize hz : drawNaN (w.tape w.drawn (.nanBits .f64 (ub a) (ub b))) = z at hr hn
    have hz64 : Hid (z < 18446744073709551616) := Lib.hid (by rw [← hz]; unfold drawNaN; omega)
    clear hz h
    go_enter Try.func36, Try.ntmps36
    go_wp2_with fail
    refine (of_calls a _).mono ?_
    rintro e w1 ⟨rfl, rfl⟩
    go_wp2_with fail
    refine (of_calls b _).mono ?_
    rintro e w1 ⟨rfl, rfl⟩
    go_wp2_with fail
    refine (bits_calls z _).mono ?_
    rintro e w1 ⟨rfl, rfl⟩
    go_wp2
    go_ret
    exact ⟨ret_int (by simp [canonN, hn.out, arI]), by first | (with_reducible exact drew_one _) | (with_reducible exact (drew_one _).step _) | (with_reducible exact (Drawn0.refl _).step _)⟩
  | some r =>
    obtain ⟨n1, n2⟩ := floatBits_nan h
    have hn := Lib.hid n1
    have hz64 := Lib.hid n2
    have hr := fun w => run_float_arith (P := Try.prog) w .sub 64 .f64 (ub a) (ub b) r h
    clear n1 n2 h
    go_enter Try.func36, Try.ntmps36
    go_wp2_with fail
    refine (of_calls a _).mono ?_
    rintro e w1 ⟨rfl, rfl⟩
    go_wp2_with fail
    refine (of_calls b _).mono ?_
    rintro e w1 ⟨rfl, rfl⟩
    go_wp2_with fail
    refine (bits_calls r _).mono ?_
    rintro e w1 ⟨rfl, rfl⟩
    go_wp2
    go_ret
    exact ⟨ret_int (by simp [canonN, hn.out, arI]), by repeat (first | exact Drawn0.refl _ | apply Drawn0.step)⟩
theorem rsub_calls (a b : Int) (w : World) :
    Calls Try.prog 42 #[.int .i64 a, .int .i64 b] w fun e w' => e = .returned (.int .i64 (arI (floatBits .sub .f64 (ub a) (ub b)))) ∧ Drawn0 w w' := by
  cases h : floatBits .sub .f64 (ub a) (ub b) with
  | none =>
    have hr := run_nan .sub (by simp) 64 (ub a) (ub b) h Try.prog w
    have hn := Lib.hid (drawNaN_nan (w.tape w.drawn (.nanBits .f64 (ub a) (ub b))))
    generalize hz : drawNaN (w.tape w.drawn (.nanBits .f64 (ub a) (ub b))) = z at hr hn
    have hz64 : Hid (z < 18446744073709551616) := Lib.hid (by rw [← hz]; unfold drawNaN; omega)
    clear hz h
    go_enter Try.func42, Try.ntmps42
    go_wp2_with fail
    refine (rof_calls a _).mono ?_
    rintro e w1 ⟨rfl, rfl⟩
    go_wp2_with fail
    refine (rof_calls b _).mono ?_
    rintro e w1 ⟨rfl, rfl⟩
    go_wp2_with fail
    refine (rbits_calls z hz64.out _).mono ?_
    rintro e w1 ⟨rfl, ⟨nd, rfl⟩⟩
    go_wp2
    go_ret
    exact ⟨ret_int (by simp [canonN, hn.out, arI]), by first | (with_reducible exact drew_one _) | (with_reducible exact (drew_one _).step _) | (with_reducible exact (Drawn0.refl _).step _)⟩
  | some r =>
    obtain ⟨n1, n2⟩ := floatBits_nan h
    have hn := Lib.hid n1
    have hz64 := Lib.hid n2
    have hr := fun w => run_float_arith (P := Try.prog) w .sub 64 .f64 (ub a) (ub b) r h
    clear n1 n2 h
    go_enter Try.func42, Try.ntmps42
    go_wp2_with fail
    refine (rof_calls a _).mono ?_
    rintro e w1 ⟨rfl, rfl⟩
    go_wp2_with fail
    refine (rof_calls b _).mono ?_
    rintro e w1 ⟨rfl, rfl⟩
    go_wp2_with fail
    refine (rbits_calls r hz64.out _).mono ?_
    rintro e w1 ⟨rfl, ⟨nd, rfl⟩⟩
    go_wp2
    go_ret
    exact ⟨ret_int (by simp [canonN, hn.out, arI]), by repeat (first | exact Drawn0.refl _ | apply Drawn0.step)⟩
theorem mul_calls (a b : Int) (w : World) :
    Calls Try.prog 37 #[.int .i64 a, .int .i64 b] w fun e w' => e = .returned (.int .i64 (arI (floatBits .mul .f64 (ub a) (ub b)))) ∧ Drawn0 w w' := by
  cases h : floatBits .mul .f64 (ub a) (ub b) with
  | none =>
    have hr := run_nan .mul (by simp) 64 (ub a) (ub b) h Try.prog w
    have hn := Lib.hid (drawNaN_nan (w.tape w.drawn (.nanBits .f64 (ub a) (ub b))))
    generalize hz : drawNaN (w.tape w.drawn (.nanBits .f64 (ub a) (ub b))) = z at hr hn
    have hz64 : Hid (z < 18446744073709551616) := Lib.hid (by rw [← hz]; unfold drawNaN; omega)
    clear hz h
    go_enter Try.func37, Try.ntmps37
    go_wp2_with fail
    refine (of_calls a _).mono ?_
    rintro e w1 ⟨rfl, rfl⟩
    go_wp2_with fail
    refine (of_calls b _).mono ?_
    rintro e w1 ⟨rfl, rfl⟩
    go_wp2_with fail
    refine (bits_calls z _).mono ?_
    rintro e w1 ⟨rfl, rfl⟩
    go_wp2
    go_ret
    exact ⟨ret_int (by simp [canonN, hn.out, arI]), by first | (with_reducible exact drew_one _) | (with_reducible exact (drew_one _).step _) | (with_reducible exact (Drawn0.refl _).step _)⟩
  | some r =>
    obtain ⟨n1, n2⟩ := floatBits_nan h
    have hn := Lib.hid n1
    have hz64 := Lib.hid n2
    have hr := fun w => run_float_arith (P := Try.prog) w .mul 64 .f64 (ub a) (ub b) r h
    clear n1 n2 h
    go_enter Try.func37, Try.ntmps37
    go_wp2_with fail
    refine (of_calls a _).mono ?_
    rintro e w1 ⟨rfl, rfl⟩
    go_wp2_with fail
    refine (of_calls b _).mono ?_
    rintro e w1 ⟨rfl, rfl⟩
    go_wp2_with fail
    refine (bits_calls r _).mono ?_
    rintro e w1 ⟨rfl, rfl⟩
    go_wp2
    go_ret
    exact ⟨ret_int (by simp [canonN, hn.out, arI]), by repeat (first | exact Drawn0.refl _ | apply Drawn0.step)⟩
theorem rmul_calls (a b : Int) (w : World) :
    Calls Try.prog 43 #[.int .i64 a, .int .i64 b] w fun e w' => e = .returned (.int .i64 (arI (floatBits .mul .f64 (ub a) (ub b)))) ∧ Drawn0 w w' := by
  cases h : floatBits .mul .f64 (ub a) (ub b) with
  | none =>
    have hr := run_nan .mul (by simp) 64 (ub a) (ub b) h Try.prog w
    have hn := Lib.hid (drawNaN_nan (w.tape w.drawn (.nanBits .f64 (ub a) (ub b))))
    generalize hz : drawNaN (w.tape w.drawn (.nanBits .f64 (ub a) (ub b))) = z at hr hn
    have hz64 : Hid (z < 18446744073709551616) := Lib.hid (by rw [← hz]; unfold drawNaN; omega)
    clear hz h
    go_enter Try.func43, Try.ntmps43
    go_wp2_with fail
    refine (rof_calls a _).mono ?_
    rintro e w1 ⟨rfl, rfl⟩
    go_wp2_with fail
    refine (rof_calls b _).mono ?_
    rintro e w1 ⟨rfl, rfl⟩
    go_wp2_with fail
    refine (rbits_calls z hz64.out _).mono ?_
    rintro e w1 ⟨rfl, ⟨nd, rfl⟩⟩
    go_wp2
    go_ret
    exact ⟨ret_int (by simp [canonN, hn.out, arI]), by first | (with_reducible exact drew_one _) | (with_reducible exact (drew_one _).step _) | (with_reducible exact (Drawn0.refl _).step _)⟩
  | some r =>
    obtain ⟨n1, n2⟩ := floatBits_nan h
    have hn := Lib.hid n1
    have hz64 := Lib.hid n2
    have hr := fun w => run_float_arith (P := Try.prog) w .mul 64 .f64 (ub a) (ub b) r h
    clear n1 n2 h
    go_enter Try.func43, Try.ntmps43
    go_wp2_with fail
    refine (rof_calls a _).mono ?_
    rintro e w1 ⟨rfl, rfl⟩
    go_wp2_with fail
    refine (rof_calls b _).mono ?_
    rintro e w1 ⟨rfl, rfl⟩
    go_wp2_with fail
    refine (rbits_calls r hz64.out _).mono ?_
    rintro e w1 ⟨rfl, ⟨nd, rfl⟩⟩
    go_wp2
    go_ret
    exact ⟨ret_int (by simp [canonN, hn.out, arI]), by repeat (first | exact Drawn0.refl _ | apply Drawn0.step)⟩
theorem div_calls (a b : Int) (w : World) :
    Calls Try.prog 38 #[.int .i64 a, .int .i64 b] w fun e w' => e = .returned (.int .i64 (arI (floatBits .quo .f64 (ub a) (ub b)))) ∧ Drawn0 w w' := by
  cases h : floatBits .quo .f64 (ub a) (ub b) with
  | none =>
    have hr := run_nan .quo (by simp) 64 (ub a) (ub b) h Try.prog w
    have hn := Lib.hid (drawNaN_nan (w.tape w.drawn (.nanBits .f64 (ub a) (ub b))))
    generalize hz : drawNaN (w.tape w.drawn (.nanBits .f64 (ub a) (ub b))) = z at hr hn
    have hz64 : Hid (z < 18446744073709551616) := Lib.hid (by rw [← hz]; unfold drawNaN; omega)
    clear hz h
    go_enter Try.func38, Try.ntmps38
    go_wp2_with fail
    refine (of_calls a _).mono ?_
    rintro e w1 ⟨rfl, rfl⟩
    go_wp2_with fail
    refine (of_calls b _).mono ?_
    rintro e w1 ⟨rfl, rfl⟩
    go_wp2_with fail
    refine (bits_calls z _).mono ?_
    rintro e w1 ⟨rfl, rfl⟩
    go_wp2
    go_ret
    exact ⟨ret_int (by simp [canonN, hn.out, arI]), by first | (with_reducible exact drew_one _) | (with_reducible exact (drew_one _).step _) | (with_reducible exact (Drawn0.refl _).step _)⟩
  | some r =>
    obtain ⟨n1, n2⟩ := floatBits_nan h
    have hn := Lib.hid n1
    have hz64 := Lib.hid n2
    have hr := fun w => run_float_arith (P := Try.prog) w .quo 64 .f64 (ub a) (ub b) r h
    clear n1 n2 h
    go_enter Try.func38, Try.ntmps38
    go_wp2_with fail
    refine (of_calls a _).mono ?_
    rintro e w1 ⟨rfl, rfl⟩
    go_wp2_with fail
    refine (of_calls b _).mono ?_
    rintro e w1 ⟨rfl, rfl⟩
    go_wp2_with fail
    refine (bits_calls r _).mono ?_
    rintro e w1 ⟨rfl, rfl⟩
    go_wp2
    go_ret
    exact ⟨ret_int (by simp [canonN, hn.out, arI]), by repeat (first | exact Drawn0.refl _ | apply Drawn0.step)⟩
theorem rdiv_calls (a b : Int) (w : World) :
    Calls Try.prog 44 #[.int .i64 a, .int .i64 b] w fun e w' => e = .returned (.int .i64 (arI (floatBits .quo .f64 (ub a) (ub b)))) ∧ Drawn0 w w' := by
  cases h : floatBits .quo .f64 (ub a) (ub b) with
  | none =>
    have hr := run_nan .quo (by simp) 64 (ub a) (ub b) h Try.prog w
    have hn := Lib.hid (drawNaN_nan (w.tape w.drawn (.nanBits .f64 (ub a) (ub b))))
    generalize hz : drawNaN (w.tape w.drawn (.nanBits .f64 (ub a) (ub b))) = z at hr hn
    have hz64 : Hid (z < 18446744073709551616) := Lib.hid (by rw [← hz]; unfold drawNaN; omega)
    clear hz h
    go_enter Try.func44, Try.ntmps44
    go_wp2_with fail
    refine (rof_calls a _).mono ?_
    rintro e w1 ⟨rfl, rfl⟩
    go_wp2_with fail
    refine (rof_calls b _).mono ?_
    rintro e w1 ⟨rfl, rfl⟩
    go_wp2_with fail
    refine (rbits_calls z hz64.out _).mono ?_
    rintro e w1 ⟨rfl, ⟨nd, rfl⟩⟩
    go_wp2
    go_ret
    exact ⟨ret_int (by simp [canonN, hn.out, arI]), by first | (with_reducible exact drew_one _) | (with_reducible exact (drew_one _).step _) | (with_reducible exact (Drawn0.refl _).step _)⟩
  | some r =>
    obtain ⟨n1, n2⟩ := floatBits_nan h
    have hn := Lib.hid n1
    have hz64 := Lib.hid n2
    have hr := fun w => run_float_arith (P := Try.prog) w .quo 64 .f64 (ub a) (ub b) r h
    clear n1 n2 h
    go_enter Try.func44, Try.ntmps44
    go_wp2_with fail
    refine (rof_calls a _).mono ?_
    rintro e w1 ⟨rfl, rfl⟩
    go_wp2_with fail
    refine (rof_calls b _).mono ?_
    rintro e w1 ⟨rfl, rfl⟩
    go_wp2_with fail
    refine (rbits_calls r hz64.out _).mono ?_
    rintro e w1 ⟨rfl, ⟨nd, rfl⟩⟩
    go_wp2
    go_ret
    exact ⟨ret_int (by simp [canonN, hn.out, arI]), by repeat (first | exact Drawn0.refl _ | apply Drawn0.step)⟩
end Go.Proofs.Ytbdengnadgofmaa
