import Derived.Test.YtkilhdbfhbmjgaaA5
namespace Go.Proofs.Ytkilhdbfhbmjgaa
open Go.RowKit

theorem mode_cases {a : Int} (h : isMode a = true) : a ∈ [1, 2, 3, 4, 5, 6].map (Int.ofNat) := by
  simp [isMode] at h; simp; omega
def ms : List Int := [1, 2, 3, 4, 5, 6].map Int.ofNat
theorem all1 : (ms.all fun a => ms.all fun b => (tog a b == tog b a) && (joinT a b == joinT b a) && cov (joinT a b) a && cov (joinT a b) b) = true := by decide +kernel
theorem all2 : (ms.all fun a => ms.all fun b => ms.all fun c => (joinT a (joinT b c) == joinT (joinT a b) c) && (!(cov c a && cov c b) || cov c (joinT a b)) && (!(cov a b && tog a c) || tog b c)) = true := by decide +kernel
theorem use1 {a b : Int} (ha : isMode a = true) (hb : isMode b = true) : tog a b = tog b a ∧ joinT a b = joinT b a ∧ cov (joinT a b) a = true ∧ cov (joinT a b) b = true := by
  have := List.all_eq_true.1 (List.all_eq_true.1 all1 a (mode_cases ha)) b (mode_cases hb)
  simp at this; exact ⟨this.1.1.1, this.1.1.2, this.1.2, this.2⟩
theorem use2 {a b c : Int} (ha : isMode a = true) (hb : isMode b = true) (hc : isMode c = true) : joinT a (joinT b c) = joinT (joinT a b) c ∧ (cov c a = true → cov c b = true → cov c (joinT a b) = true) ∧ (cov a b = true → tog a c = true → tog b c = true) := by
  have := List.all_eq_true.1 (List.all_eq_true.1 (List.all_eq_true.1 all2 a (mode_cases ha)) b (mode_cases hb)) c (mode_cases hc)
  simp only [Bool.and_eq_true, Bool.or_eq_true, Bool.not_eq_true', beq_iff_eq] at this
  obtain ⟨⟨h1, h2⟩, h3⟩ := this
  refine ⟨h1, fun x y => ?_, fun x y => ?_⟩
  · simpa [x, y] using h2
  · simpa [x, y] using h3

set_option maxHeartbeats 1000000 in
theorem laws_calls (a b c : Int) (w : World) : Calls Try.prog 5 #[.int .i64 a, .int .i64 b, .int .i64 c] w fun e w' => e = .returned (.bool true) ∧ Below w.heap.size w w' := by
  cases ha : isMode a
  · have Ha := Lib.hid ha; clear ha
    go_enter Try.func5, Try.ntmps5
    go_wp2_with fail
    refine (speaks_calls _).mono ?_
    rintro e w' ⟨rfl, rfl⟩
    go_wp2_with fail
    refine (right_calls a _).mono ?_
    rintro e w' ⟨rfl, rfl⟩
    rw [Ha.out]
    go_wp2
    go_ret
    exact ⟨ret_bool rfl, Below.refl _ _⟩
  cases hb : isMode b
  · have Ha := Lib.hid ha; clear ha
    have Hb := Lib.hid hb; clear hb
    go_enter Try.func5, Try.ntmps5
    go_wp2_with fail
    refine (speaks_calls _).mono ?_
    rintro e w' ⟨rfl, rfl⟩
    go_wp2_with fail
    refine (right_calls a _).mono ?_
    rintro e w' ⟨rfl, rfl⟩
    rw [Ha.out]
    go_wp2_with fail
    refine (right_calls b _).mono ?_
    rintro e w' ⟨rfl, rfl⟩
    rw [Hb.out]
    go_wp2
    go_ret
    exact ⟨ret_bool rfl, Below.refl _ _⟩
  cases hc : isMode c
  · have Ha := Lib.hid ha; clear ha
    have Hb := Lib.hid hb; clear hb
    have Hc := Lib.hid hc; clear hc
    go_enter Try.func5, Try.ntmps5
    go_wp2_with fail
    refine (speaks_calls _).mono ?_
    rintro e w' ⟨rfl, rfl⟩
    go_wp2_with fail
    refine (right_calls a _).mono ?_
    rintro e w' ⟨rfl, rfl⟩
    rw [Ha.out]
    go_wp2_with fail
    refine (right_calls b _).mono ?_
    rintro e w' ⟨rfl, rfl⟩
    rw [Hb.out]
    go_wp2_with fail
    refine (right_calls c _).mono ?_
    rintro e w' ⟨rfl, rfl⟩
    rw [Hc.out]
    go_wp2
    go_ret
    exact ⟨ret_bool rfl, Below.refl _ _⟩
  obtain ⟨u1, u2, u3, u4⟩ := use1 ha hb
  obtain ⟨v1, v2, v3⟩ := use2 ha hb hc
  have Ha := Lib.hid ha; clear ha
  have Hb := Lib.hid hb; clear hb
  have Hc := Lib.hid hc; clear hc
  have U1 := Lib.hid u1; clear u1
  have U2 := Lib.hid u2; clear u2
  have U3 := Lib.hid u3; clear u3
  have U4 := Lib.hid u4; clear u4
  have V1 := Lib.hid v1; clear v1
  have V2 := Lib.hid v2; clear v2
  have V3 := Lib.hid v3; clear v3
  go_enter Try.func5, Try.ntmps5
  go_wp2_with fail
  refine (speaks_calls _).mono ?_
  rintro e w' ⟨rfl, rfl⟩
  go_wp2_with fail
  refine (right_calls a _).mono ?_
  rintro e w' ⟨rfl, rfl⟩
  rw [Ha.out]
  go_wp2_with fail
  refine (right_calls b _).mono ?_
  rintro e w' ⟨rfl, rfl⟩
  rw [Hb.out]
  go_wp2_with fail
  refine (right_calls c _).mono ?_
  rintro e w' ⟨rfl, rfl⟩
  rw [Hc.out]
  go_wp2_with fail
  refine (join_calls a b _).mono ?_
  rintro e w' ⟨rfl, rfl⟩
  go_wp2_with fail
  refine (together_calls a b _).mono ?_
  rintro e w' ⟨rfl, rfl⟩
  go_wp2_with fail
  refine (together_calls b a _).mono ?_
  rintro e w' ⟨rfl, rfl⟩
  rw [U1.out]
  go_wp2_with fail
  refine (join_calls b a _).mono ?_
  rintro e w' ⟨rfl, rfl⟩
  rw [← U2.out]
  go_wp2_with fail
  refine (covers_calls (joinT a b) a _).mono ?_
  rintro e w' ⟨rfl, rfl⟩
  rw [U3.out]
  go_wp2_with fail
  refine (covers_calls (joinT a b) b _).mono ?_
  rintro e w' ⟨rfl, rfl⟩
  rw [U4.out]
  go_wp2_with fail
  refine (join_calls b c _).mono ?_
  rintro e w' ⟨rfl, rfl⟩
  go_wp2_with fail
  refine (join_calls a (joinT b c) _).mono ?_
  rintro e w' ⟨rfl, rfl⟩
  rw [V1.out]
  go_wp2_with fail
  refine (join_calls (joinT a b) c _).mono ?_
  rintro e w' ⟨rfl, rfl⟩
  go_wp2_with fail
  refine (covers_calls c a _).mono ?_
  rintro e w' ⟨rfl, rfl⟩
  have tail : Hid True := Lib.hid trivial
  cases x1 : cov c a <;> cases x2 : cov c b <;> cases x3 : cov a b <;> cases x4 : tog a c
  all_goals
    have X1 := Lib.hid x1; clear x1
    have X2 := Lib.hid x2; clear x2
    have X3 := Lib.hid x3; clear x3
    have X4 := Lib.hid x4; clear x4
    try go_wp2_with fail
    try ((with_reducible refine (covers_calls c b _).mono ?_); rintro e w' ⟨rfl, rfl⟩; rw [X2.out]; go_wp2_with fail)
    try ((with_reducible refine (covers_calls c (joinT a b) _).mono ?_); rintro e w' ⟨rfl, rfl⟩; rw [V2.out X1.out X2.out]; go_wp2_with fail)
    refine (covers_calls a b _).mono ?_
    rintro e w' ⟨rfl, rfl⟩
    rw [X3.out]
    try go_wp2_with fail
    try ((with_reducible refine (together_calls a c _).mono ?_); rintro e w' ⟨rfl, rfl⟩; rw [X4.out]; go_wp2_with fail)
    try ((with_reducible refine (together_calls b c _).mono ?_); rintro e w' ⟨rfl, rfl⟩; rw [V3.out X3.out X4.out]; go_wp2_with fail)
    go_wp2
    go_ret
    exact ⟨ret_bool rfl, Below.refl _ _⟩
end Go.Proofs.Ytkilhdbfhbmjgaa
