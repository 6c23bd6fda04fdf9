/- The examples of the document hold: the walk; and the first laws. -/
import Derived.Test.YtjkjdcejojpikaaB6
namespace Go.Proofs.Ytjkjdcejojpikaa
open Go.RowKit Go.Proofs.YtjkjdcejojpikaaW.PrintWords Fl

theorem sp0_0 : (decI 125 1 : Int) = 4623226492472524800 := by decide +kernel
theorem sp0_1 : (decE 125 1 : Int) = 0 := by decide +kernel
theorem sp1_0 : (if inI (ub 4623226492472524800) then wholeI (ub 4623226492472524800) else 0 : Int) = 12 := by decide +kernel
theorem sp1_1 : (if inI (ub 4623226492472524800) then 0 else 10 : Int) = 0 := by decide +kernel
theorem sp2_0 : (ordI 0 (-9223372036854775808) : Int) = 0 := by decide +kernel
theorem sp3_0 : (ordI 9221120237041090560 9218868437227405312 : Int) = 1 := by decide +kernel
theorem sp4_0 : (arI (floatBits .quo .f64 (ub 4607182418800017408) (ub 0)) : Int) = 9218868437227405312 := by decide +kernel
theorem sp5_0 : (arI (floatBits .quo .f64 (ub 0) (ub 0)) : Int) = 9221120237041090560 := by decide +kernel
theorem sp6_0 : (arI (floatBits .quo .f64 (ub 4607182418800017408) (ub (-9223372036854775808))) : Int) = (-4503599627370496) := by decide +kernel
theorem sp7_0 : (arI (floatBits .add .f64 (ub 4607182418800017408) (ub 0)) : Int) = 4607182418800017408 := by decide +kernel
theorem sp8_0 : (canonN (FloatKind.f64.nearest 1) : Int) = 4607182418800017408 := by decide +kernel
theorem sp9_0 : (canonN (Op.negFloat .f64 (ub 0)) : Int) = (-9223372036854775808) := by decide +kernel
theorem sp10_0 : (arI (floatBits .mul .f64 (ub 4623226492472524800) (ub 4607182418800017408)) : Int) = 4623226492472524800 := by decide +kernel
theorem sp11_0 : (arI (floatBits .sub .f64 (ub 4623226492472524800) (ub 0)) : Int) = 4623226492472524800 := by decide +kernel
theorem sp12_0 : (canonI 4607182418800017408 : Int) = 4607182418800017408 := by decide +kernel
theorem speaks_calls (w : World) : Calls Try.prog 11 #[] w fun e w' => e = .returned (.bool true) ∧ Drawn0 w w' := by
  go_enter Try.func11, Try.ntmps11
  go_wp2_with fail
  refine (ofdecimal_calls 125 1 _).mono ?_
  rintro e w1 ⟨rfl, ⟨n0, rfl⟩⟩
  rw [sp0_0, sp0_1]
  go_wp2_with fail
  refine (toint_calls 4623226492472524800 _).mono ?_
  rintro e w1 ⟨rfl, ⟨n1, rfl⟩⟩
  rw [sp1_0, sp1_1]
  go_wp2_with fail
  refine (order_calls 0 (-9223372036854775808) _).mono ?_
  rintro e w1 ⟨rfl, rfl⟩
  rw [sp2_0]
  go_wp2_with fail
  refine (order_calls 9221120237041090560 9218868437227405312 _).mono ?_
  rintro e w1 ⟨rfl, rfl⟩
  rw [sp3_0]
  go_wp2_with fail
  refine (div_calls 4607182418800017408 0 _).mono ?_
  rintro e w1 ⟨rfl, ⟨n4, rfl⟩⟩
  rw [sp4_0]
  go_wp2_with fail
  refine (div_calls 0 0 _).mono ?_
  rintro e w1 ⟨rfl, ⟨n5, rfl⟩⟩
  rw [sp5_0]
  go_wp2_with fail
  refine (div_calls 4607182418800017408 (-9223372036854775808) _).mono ?_
  rintro e w1 ⟨rfl, ⟨n6, rfl⟩⟩
  rw [sp6_0]
  go_wp2_with fail
  refine (add_calls 4607182418800017408 0 _).mono ?_
  rintro e w1 ⟨rfl, ⟨n7, rfl⟩⟩
  rw [sp7_0]
  go_wp2_with fail
  refine (ofint_calls 1 _).mono ?_
  rintro e w1 ⟨rfl, rfl⟩
  rw [sp8_0]
  go_wp2_with fail
  refine (neg_calls 0 _).mono ?_
  rintro e w1 ⟨rfl, rfl⟩
  rw [sp9_0]
  go_wp2_with fail
  refine (mul_calls 4623226492472524800 4607182418800017408 _).mono ?_
  rintro e w1 ⟨rfl, ⟨n10, rfl⟩⟩
  rw [sp10_0]
  go_wp2_with fail
  refine (sub_calls 4623226492472524800 0 _).mono ?_
  rintro e w1 ⟨rfl, ⟨n11, rfl⟩⟩
  rw [sp11_0]
  go_wp2_with fail
  refine (canon_calls 4607182418800017408 _).mono ?_
  rintro e w1 ⟨rfl, rfl⟩
  rw [sp12_0]
  go_wp2
  go_ret
  exact ⟨rfl, by repeat (first | exact Drawn0.refl _ | apply Drawn0.step)⟩
end Go.Proofs.Ytjkjdcejojpikaa
