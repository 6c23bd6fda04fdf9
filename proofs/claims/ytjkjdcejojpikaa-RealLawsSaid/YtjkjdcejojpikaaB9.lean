/- RealLaws: the walk. -/
import Derived.Test.YtjkjdcejojpikaaFl4
namespace Go.Proofs.Ytjkjdcejojpikaa
open Go.RowKit Go.Proofs.YtjkjdcejojpikaaW.PrintWords Fl
theorem laws_walk (a b : Int) (wa : (Lit.int .i64 a).wf = true) (wb : (Lit.int .i64 b).wf = true) (w : World) : Calls Try.prog 7 #[.int .i64 a, .int .i64 b] w fun e w' => e = .returned (.bool true) ∧ Drawn0 w w' := by
  have ha : Canonic (canonI a) := canonI_canonic a (by simpa [Lit.wf, IntKind.min, IntKind.max, IntKind.bits, IntKind.signed] using wa)
  have hb : Canonic (canonI b) := canonI_canonic b (by simpa [Lit.wf, IntKind.min, IntKind.max, IntKind.bits, IntKind.signed] using wb)
  have H1 := Lib.hid (addI_comm (canonI a) (canonI b))
  have H2 := Lib.hid (mulI_comm (canonI a) (canonI b))
  have H3 := Lib.hid (subI_neg (canonI a) (canonI b) hb)
  have H4 := Lib.hid (negI_negI (canonI a) ha)
  have H5 := Lib.hid (mulI_one (canonI a) ha)
  have H6 := Lib.hid (divI_one (canonI a) ha)
  clear wa wb
  go_enter Try.func7, Try.ntmps7
  go_wp2_with fail
  refine (speaks_calls _).mono ?_
  rintro e w1 ⟨rfl, ⟨nd0, rfl⟩⟩
  go_wp2_with fail
  refine (canon_calls a _).mono ?_
  rintro e w1 ⟨rfl, rfl⟩
  go_wp2_with fail
  refine (canon_calls b _).mono ?_
  rintro e w1 ⟨rfl, rfl⟩
  go_wp2_with fail
  refine (add_calls (canonI a) (canonI b) _).mono ?_
  rintro e w1 ⟨rfl, ⟨nd3, rfl⟩⟩
  rw [show arI (floatBits .add .f64 (ub (canonI a)) (ub (canonI b))) = addI (canonI a) (canonI b) from rfl, H1.out]
  go_wp2_with fail
  refine (add_calls (canonI b) (canonI a) _).mono ?_
  rintro e w1 ⟨rfl, ⟨nd4, rfl⟩⟩
  rw [show arI (floatBits .add .f64 (ub (canonI b)) (ub (canonI a))) = addI (canonI b) (canonI a) from rfl]
  go_wp2_with fail
  refine (mul_calls (canonI a) (canonI b) _).mono ?_
  rintro e w1 ⟨rfl, ⟨nd5, rfl⟩⟩
  rw [show arI (floatBits .mul .f64 (ub (canonI a)) (ub (canonI b))) = mulI (canonI a) (canonI b) from rfl, H2.out]
  go_wp2_with fail
  refine (mul_calls (canonI b) (canonI a) _).mono ?_
  rintro e w1 ⟨rfl, ⟨nd6, rfl⟩⟩
  rw [show arI (floatBits .mul .f64 (ub (canonI b)) (ub (canonI a))) = mulI (canonI b) (canonI a) from rfl]
  go_wp2_with fail
  refine (sub_calls (canonI a) (canonI b) _).mono ?_
  rintro e w1 ⟨rfl, ⟨nd7, rfl⟩⟩
  rw [show arI (floatBits .sub .f64 (ub (canonI a)) (ub (canonI b))) = subI (canonI a) (canonI b) from rfl, H3.out]
  go_wp2_with fail
  refine (neg_calls (canonI b) _).mono ?_
  rintro e w1 ⟨rfl, rfl⟩
  rw [show canonN (Op.negFloat .f64 (ub (canonI b))) = negI (canonI b) from rfl]
  go_wp2_with fail
  refine (add_calls (canonI a) (negI (canonI b)) _).mono ?_
  rintro e w1 ⟨rfl, ⟨nd9, rfl⟩⟩
  rw [show arI (floatBits .add .f64 (ub (canonI a)) (ub (negI (canonI b)))) = addI (canonI a) (negI (canonI b)) from rfl]
  go_wp2_with fail
  refine (neg_calls (canonI a) _).mono ?_
  rintro e w1 ⟨rfl, rfl⟩
  rw [show canonN (Op.negFloat .f64 (ub (canonI a))) = negI (canonI a) from rfl]
  go_wp2_with fail
  refine (neg_calls (negI (canonI a)) _).mono ?_
  rintro e w1 ⟨rfl, rfl⟩
  rw [show canonN (Op.negFloat .f64 (ub (negI (canonI a)))) = negI (negI (canonI a)) from rfl, H4.out]
  go_wp2_with fail
  refine (mul_calls (canonI a) 4607182418800017408 _).mono ?_
  rintro e w1 ⟨rfl, ⟨nd12, rfl⟩⟩
  rw [show arI (floatBits .mul .f64 (ub (canonI a)) (ub 4607182418800017408)) = mulI (canonI a) 4607182418800017408 from rfl, H5.out]
  go_wp2_with fail
  refine (div_calls (canonI a) 4607182418800017408 _).mono ?_
  rintro e w1 ⟨rfl, ⟨nd13, rfl⟩⟩
  rw [show arI (floatBits .quo .f64 (ub (canonI a)) (ub 4607182418800017408)) = divI (canonI a) 4607182418800017408 from rfl, H6.out]
  go_wp2
  go_ret
  exact ⟨by first | rfl | (exact ret_bool (by simp)), by repeat (first | exact Drawn0.refl _ | apply Drawn0.step)⟩
theorem laws_b (a b : Int) (wa : (Lit.int .i64 a).wf = true) (wb : (Lit.int .i64 b).wf = true) (w : World) : Calls Try.prog 7 #[.int .i64 a, .int .i64 b] w fun e w' => e = .returned (.bool true) ∧ Below w.heap.size w w' := (laws_walk a b wa wb w).mono fun _ _ ⟨he, h⟩ => ⟨he, h.below⟩
end Go.Proofs.Ytjkjdcejojpikaa
