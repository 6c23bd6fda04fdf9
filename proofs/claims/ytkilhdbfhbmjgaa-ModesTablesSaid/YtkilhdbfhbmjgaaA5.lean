import Derived.Test.YtkilhdbfhbmjgaaA3
import Derived.Outline
namespace Go.Proofs.Ytkilhdbfhbmjgaa
open Go.RowKit

def covT (a b : Int) : Bool := isKnown a && isKnown b && (joinT a b == a)
theorem refCovers_calls (a b : Int) (w : World) :
    Calls Try.prog 14 #[.int .i64 a, .int .i64 b] w fun e w' => e = .returned (.bool (covT a b)) ∧ Below w.heap.size w w' := by
  cases ka : isKnown a
  · have Hk := Lib.hid ka
    rcases unknown_cases ka with h | ⟨h0, h⟩
    all_goals
      clear ka
      go_enter Try.func14, Try.ntmps14
      go_wp2
      go_ret
      exact ⟨ret_bool (by simp [covT, Hk.out]), Below.refl _ _⟩
  · cases kb : isKnown b
    · have Hk := Lib.hid kb
      obtain ⟨ha0, ha1⟩ := known_range ka
      rcases unknown_cases kb with h | ⟨h0, h⟩
      all_goals
        clear ka kb
        go_enter Try.func14, Try.ntmps14
        go_wp2
        go_ret
        exact ⟨ret_bool (by simp [covT, Hk.out]), Below.refl _ _⟩
    · obtain ⟨ha0, ha1⟩ := known_range ka
      obtain ⟨hb0, hb1⟩ := known_range kb
      have Ha := Lib.hid ka
      have Hb := Lib.hid kb
      clear ka kb
      go_enter Try.func14, Try.ntmps14
      go_wp2_with (first | (go_at_call 12; (with_reducible refine (refJoin_calls a b _).mono ?_); rintro e w' ⟨rfl, HB⟩))
      go_ret
      exact ⟨ret_bool (by simp [covT, Ha.out, Hb.out]), HB⟩

theorem sp0 : tog 5 3 = true := by decide +kernel
theorem sp1 : tog 5 5 = false := by decide +kernel
theorem sp2 : joinT 3 2 = 4 := by decide +kernel
theorem sp3 : cov 6 4 = true := by decide +kernel
theorem sp4 : cov 4 5 = false := by decide +kernel
theorem sp5 : isMode 6 = true := by decide +kernel
theorem speaks_calls (w : World) : Calls Try.prog 6 #[] w fun e w' => e = .returned (.bool true) ∧ w = w' := by
  go_enter Try.func6, Try.ntmps6
  go_wp2_with fail
  refine (together_calls 5 3 _).mono ?_
  rintro e w' ⟨rfl, rfl⟩
  rw [sp0]
  go_wp2_with fail
  refine (together_calls 5 5 _).mono ?_
  rintro e w' ⟨rfl, rfl⟩
  rw [sp1]
  go_wp2_with fail
  refine (join_calls 3 2 _).mono ?_
  rintro e w' ⟨rfl, rfl⟩
  rw [sp2]
  go_wp2_with fail
  refine (covers_calls 6 4 _).mono ?_
  rintro e w' ⟨rfl, rfl⟩
  rw [sp3]
  go_wp2_with fail
  refine (covers_calls 4 5 _).mono ?_
  rintro e w' ⟨rfl, rfl⟩
  rw [sp4]
  go_wp2_with fail
  refine (right_calls 6 _).mono ?_
  rintro e w' ⟨rfl, rfl⟩
  rw [sp5]
  go_wp2
  go_ret
  exact ⟨rfl, rfl⟩

theorem covT_cov (a b : Int) : covT a b = cov a b := by
  cases ka : isKnown a
  · simp [covT, cov, ka]
  · cases kb : isKnown b
    · simp [covT, cov, kb]
    · rcases known_cases ka with rfl | rfl | rfl | rfl | rfl | rfl | rfl
      all_goals rcases known_cases kb with rfl | rfl | rfl | rfl | rfl | rfl | rfl
      all_goals decide +kernel
theorem beq_self_b (b : Bool) : (b == b) = true := by cases b <;> rfl

theorem tables_calls (a b : Int) (w : World) : Calls Try.prog 4 #[.int .i64 a, .int .i64 b] w fun e w' => e = .returned (.bool true) ∧ Below w.heap.size w w' := by
  go_enter Try.func4, Try.ntmps4
  go_wp2_with fail
  refine (speaks_calls _).mono ?_
  rintro e w' ⟨rfl, rfl⟩
  go_wp2_with fail
  refine (right_calls a _).mono ?_
  rintro e w' ⟨rfl, rfl⟩
  go_wp2_with fail
  refine (refRight_calls a _).mono ?_
  rintro e w' ⟨rfl, rfl⟩
  go_wp2_with fail
  refine (together_calls a b _).mono ?_
  rintro e w' ⟨rfl, rfl⟩
  go_wp2_with fail
  refine (refTog_calls a b _).mono ?_
  rintro e w1 ⟨rfl, HB1⟩
  unfold togT
  go_wp2_with fail
  refine (join_calls a b _).mono ?_
  rintro e w2 ⟨rfl, rfl⟩
  go_wp2_with fail
  refine (refJoin_calls a b _).mono ?_
  rintro e w2 ⟨rfl, HB2⟩
  go_wp2_with fail
  refine (covers_calls a b _).mono ?_
  rintro e w3 ⟨rfl, rfl⟩
  go_wp2_with fail
  refine (refCovers_calls a b _).mono ?_
  rintro e w3 ⟨rfl, HB3⟩
  rw [covT_cov]
  go_wp2
  go_ret
  exact ⟨ret_bool rfl, (HB1.trans (HB2.mono HB1.size)).trans (HB3.mono (Nat.le_trans HB1.size HB2.size))⟩
theorem names_calls (w : World) : Calls Try.prog 3 #[] w fun e w' => e = .returned (.bool true) ∧ Below w.heap.size w w' := by
  go_enter Try.func3, Try.ntmps3
  go_wp2_with fail
  refine (speaks_calls _).mono ?_
  rintro e w' ⟨rfl, rfl⟩
  go_wp2
  go_ret
  exact ⟨ret_bool rfl, Below.refl _ _⟩
end Go.Proofs.Ytkilhdbfhbmjgaa
