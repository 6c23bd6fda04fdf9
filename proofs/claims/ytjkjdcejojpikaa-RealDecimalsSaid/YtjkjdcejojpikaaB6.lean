/- What OfDecimal of package real answers: the walk. -/
import Derived.Test.YtjkjdcejojpikaaB5
import Derived.LoopTactic
namespace Go.Proofs.Ytjkjdcejojpikaa
open Go.RowKit Go.Proofs.YtjkjdcejojpikaaW.PrintWords Fl

/-- The words of the powers of ten. -/
def pwTab : List Nat := [4607182418800017408, 4621819117588971520, 4636737291354636288, 4652007308841189376, 4666723172467343360, 4681608360884174848, 4696837146684686336, 4711630319722168320, 4726483295884279808, 4741671816366391296, 4756540486875873280, 4771362005757984768, 4786511204640096256, 4801453603149578240, 4816244402031689728, 4831355200913801216, 4846369599423283200]
def pw (k : Nat) : Nat := pwTab.getD k 0
theorem pw_zero : pw 0 = 4607182418800017408 := by decide
theorem pw_succ (k : Nat) (h : k < 15) : floatBits .mul .f64 (pw k) 4621819117588971520 = some (pw (k + 1)) := by
  have : ∀ i : Fin 15, floatBits .mul .f64 (pw i.val) 4621819117588971520 = some (pw (i.val + 1)) := by decide +kernel
  exact this ⟨k, h⟩
def decOk (m s : Int) : Bool := decide (0 ≤ m) && decide (m ≤ 999999999999999) && decide (0 ≤ s) && decide (s ≤ 15)
def decI (m s : Int) : Int := if decOk m s then arI (floatBits .quo .f64 (floatOfInt .f64 m) (pw s.toNat)) else 0
def decE (m s : Int) : Int := if decOk m s then 0 else 11

theorem ofdecimal_bad (m s : Int) (hd : decOk m s = false) (w : World) :
    Calls Try.prog 30 #[.int .i64 m, .int .i64 s] w fun e w' => e = .returned (.tuple #[.int .i64 0, .int .i64 11]) ∧ Drawn0 w w' := by
  have hc : m < 0 ∨ (0 ≤ m ∧ 999999999999999 < m) ∨ (0 ≤ m ∧ m ≤ 999999999999999 ∧ s < 0) ∨ (0 ≤ m ∧ m ≤ 999999999999999 ∧ 0 ≤ s ∧ 15 < s) := by
    simp [decOk] at hd; omega
  clear hd
  rcases hc with h | ⟨h0, h⟩ | ⟨h0, h1, h⟩ | ⟨h0, h1, h2, h⟩
  all_goals
    go_enter Try.func30, Try.ntmps30
    go_wp2
    go_ret2
    exact ⟨rfl, Drawn0.refl _⟩
theorem ofdecimal_good (m : Int) (s : Nat) (h0 : 0 ≤ m) (h1 : m ≤ 999999999999999) (h2 : s ≤ 15) (w : World) :
    Calls Try.prog 30 #[.int .i64 m, .int .i64 s] w fun e w' => e = .returned (.tuple #[.int .i64 (arI (floatBits .quo .f64 (floatOfInt .f64 m) (pw s))), .int .i64 0]) ∧ Drawn0 w w' := by
  have hp0 := pw_zero
  have HP0 := Lib.hid hp0
  clear hp0
  go_enter Try.func30, Try.ntmps30
  go_wp2
  rw [← HP0.out]
  go_loop [6, 22, 23, 24, 25, 26] (fun p i _ _ _ _ => ∃ k : Nat, k ≤ s ∧ i = .int .i64 k ∧ p = .float .f64 (pw k)) (fun _ i _ _ _ _ => s - (intOf i).toNat)
  case atStart => exact ⟨0, by omega, rfl, rfl⟩
  case round =>
    obtain ⟨k, hk, rfl, rfl⟩ := hrel
    by_cases hlt : k < s
    · have hm := fun w => run_float_arith (P := Try.prog) w .mul 37 .f64 (pw k) 4621819117588971520 (pw (k + 1)) (pw_succ k (by omega))
      go_wp2
      all_goals
        go_round
        case rel => exact ⟨k + 1, by omega, by go_num, rfl⟩
        case measure => simp [intOf]; omega
    · obtain rfl : k = s := by omega
      cases h : floatBits .quo .f64 (floatOfInt .f64 m) (pw k) with
      | none =>
        have hr := run_nan .quo (by simp) 37 (floatOfInt .f64 m) (pw k) h Try.prog w
        have hn := Lib.hid (drawNaN_nan (w.tape w.drawn (.nanBits .f64 (floatOfInt .f64 m) (pw k))))
        generalize hz : drawNaN (w.tape w.drawn (.nanBits .f64 (floatOfInt .f64 m) (pw k))) = z at hr hn
        have H := Lib.hid h
        clear hz h
        go_wp2_with fail
        refine (bits_calls z _).mono ?_
        rintro e w1 ⟨rfl, rfl⟩
        go_wp2
        go_ret2
        exact ⟨by rw [H.out]; simp [canonN, hn.out, arI], drew_one _⟩
      | some r =>
        obtain ⟨n1, n2⟩ := floatBits_nan h
        have hn := Lib.hid n1
        have hr := fun w => run_float_arith (P := Try.prog) w .quo 37 .f64 (floatOfInt .f64 m) (pw k) r h
        have H := Lib.hid h
        clear n1 n2 h
        go_wp2_with fail
        refine (bits_calls r _).mono ?_
        rintro e w1 ⟨rfl, rfl⟩
        go_wp2
        go_ret2
        exact ⟨by rw [H.out]; simp [canonN, hn.out, arI], Drawn0.refl _⟩
theorem ofdecimal_calls (m s : Int) (w : World) :
    Calls Try.prog 30 #[.int .i64 m, .int .i64 s] w fun e w' => e = .returned (.tuple #[.int .i64 (decI m s), .int .i64 (decE m s)]) ∧ Drawn0 w w' := by
  cases hd : decOk m s
  · refine (ofdecimal_bad m s hd w).mono ?_
    rintro e w' ⟨rfl, h⟩
    exact ⟨by simp [decI, decE, hd], h⟩
  · have hd' := hd
    simp [decOk] at hd'
    obtain ⟨⟨⟨h0, h1⟩, h2⟩, h3⟩ := hd'
    obtain ⟨k, rfl⟩ := Int.eq_ofNat_of_zero_le h2
    refine (ofdecimal_good m k h0 h1 (by omega) w).mono ?_
    rintro e w' ⟨rfl, h⟩
    exact ⟨by simp [decI, decE, hd], h⟩
end Go.Proofs.Ytjkjdcejojpikaa
