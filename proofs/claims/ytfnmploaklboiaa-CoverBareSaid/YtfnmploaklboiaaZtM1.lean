import Derived.Test.YtfnmploaklboiaaProg
import Derived.WalkKit
import Derived.RowKit3
import Derived.KernelRfl
import Derived.Below
import Derived.Lib.Hide
import Derived.Outline
import Derived.LoopTactic
/- The modes: what package modes and the document's Join answer. -/
namespace Go.Proofs.Ytfnmploaklboiaa
open Go.RowKit
set_option linter.unusedSimpArgs false
set_option linter.unusedVariables false
theorem ret_int {k : IntKind} {a b : Int} (h : a = b) : Ending.returned (.int k a) = .returned (.int k b) := by rw [h]
theorem ret_bool {a b : Bool} (h : a = b) : Ending.returned (.bool a) = .returned (.bool b) := by rw [h]
def isMode (m : Int) : Bool := decide (1 ≤ m) && decide (m ≤ 6)
def isKnown (m : Int) : Bool := decide (0 ≤ m) && decide (m ≤ 6)
def rightsOf (m : Int) : Int := if m = 1 then 1 else if m = 2 then 3 else if m = 3 then 5 else if m = 4 then 7 else if m = 5 then 13 else if m = 6 then 31 else 0
theorem right_calls (m : Int) (w : World) :
    Calls Try.prog 32 #[.int .i64 m] w fun e w' => e = .returned (.bool (isMode m)) ∧ w = w' := by
  go_enter Try.func32, Try.ntmps32
  go_wp2
  all_goals (go_ret; refine ⟨ret_bool ?_, rfl⟩; unfold isMode; rw [Bool.eq_iff_iff]; simp; omega)
theorem known_calls (m : Int) (w : World) :
    Calls Try.prog 33 #[.int .i64 m] w fun e w' => e = .returned (.bool (isKnown m)) ∧ w = w' := by
  go_enter Try.func33, Try.ntmps33
  go_wp2
  all_goals (go_ret; refine ⟨ret_bool ?_, rfl⟩; unfold isKnown; rw [Bool.eq_iff_iff]; simp; omega)
theorem rights_calls (m : Int) (w : World) :
    Calls Try.prog 35 #[.int .i64 m] w fun e w' => e = .returned (.int .i64 (rightsOf m)) ∧ w = w' := by
  go_enter Try.func35, Try.ntmps35
  go_wp2
  all_goals (go_ret; refine ⟨ret_int ?_, rfl⟩; (try simp only [beq_iff_eq, beq_eq_false_iff_ne, ne_eq] at *); unfold rightsOf; repeat' split; all_goals omega)
def wkFrom (bits : Int) : List Int → Int
  | [] => 6
  | m :: t => if Go.bits .and .i64 (rightsOf m) bits = bits then m else wkFrom bits t
def allModes : List Int := [0, 1, 2, 3, 4, 5, 6]
def weakestOf (bits : Int) : Int := wkFrom bits allModes
def joinT (a b : Int) : Int := if isKnown a && isKnown b then weakestOf (Go.bits .or .i64 (rightsOf a) (rightsOf b)) else 0
def cov (a b : Int) : Bool := isKnown a && isKnown b && (Go.bits .and .i64 (rightsOf a) (rightsOf b) == rightsOf b)
theorem idx0 (w : World) : (Instr.index 59 (.agg #[.int .i64 0, .int .i64 1, .int .i64 2, .int .i64 3, .int .i64 4, .int .i64 5, .int .i64 6]) (.int .i64 0)).run Try.prog w = .ok (.int .i64 0) w := by kernel_rfl
theorem idx1 (w : World) : (Instr.index 59 (.agg #[.int .i64 0, .int .i64 1, .int .i64 2, .int .i64 3, .int .i64 4, .int .i64 5, .int .i64 6]) (.int .i64 1)).run Try.prog w = .ok (.int .i64 1) w := by kernel_rfl
theorem idx2 (w : World) : (Instr.index 59 (.agg #[.int .i64 0, .int .i64 1, .int .i64 2, .int .i64 3, .int .i64 4, .int .i64 5, .int .i64 6]) (.int .i64 2)).run Try.prog w = .ok (.int .i64 2) w := by kernel_rfl
theorem idx3 (w : World) : (Instr.index 59 (.agg #[.int .i64 0, .int .i64 1, .int .i64 2, .int .i64 3, .int .i64 4, .int .i64 5, .int .i64 6]) (.int .i64 3)).run Try.prog w = .ok (.int .i64 3) w := by kernel_rfl
theorem idx4 (w : World) : (Instr.index 59 (.agg #[.int .i64 0, .int .i64 1, .int .i64 2, .int .i64 3, .int .i64 4, .int .i64 5, .int .i64 6]) (.int .i64 4)).run Try.prog w = .ok (.int .i64 4) w := by kernel_rfl
theorem idx5 (w : World) : (Instr.index 59 (.agg #[.int .i64 0, .int .i64 1, .int .i64 2, .int .i64 3, .int .i64 4, .int .i64 5, .int .i64 6]) (.int .i64 5)).run Try.prog w = .ok (.int .i64 5) w := by kernel_rfl
theorem idx6 (w : World) : (Instr.index 59 (.agg #[.int .i64 0, .int .i64 1, .int .i64 2, .int .i64 3, .int .i64 4, .int .i64 5, .int .i64 6]) (.int .i64 6)).run Try.prog w = .ok (.int .i64 6) w := by kernel_rfl
theorem weakest_calls (bits : Int) (w : World) :
    Calls Try.prog 34 #[.int .i64 bits] w fun e w' => e = .returned (.int .i64 (weakestOf bits)) ∧ w = w' := by
  have i0 := idx0
  have i1 := idx1
  have i2 := idx2
  have i3 := idx3
  have i4 := idx4
  have i5 := idx5
  have i6 := idx6
  go_enter Try.func34, Try.ntmps34
  go_wp2
  go_loop [4, 6, 8, 9, 10, 12, 14, 7, 11, 13, 15, 16] (fun _ i _ _ _ _ _ _ _ _ _ _ => ∃ k : Nat, k ≤ 7 ∧ i = .int .i64 k ∧ wkFrom bits (allModes.drop k) = weakestOf bits) (fun _ i _ _ _ _ _ _ _ _ _ _ => 7 - (intOf i).toNat)
  case atStart => exact ⟨0, by omega, rfl, rfl⟩
  case round =>
    obtain ⟨k, hk, rfl, hf⟩ := hrel
    have Hf := Lib.hid hf; clear hf
    have hk8 : k = 0 ∨ k = 1 ∨ k = 2 ∨ k = 3 ∨ k = 4 ∨ k = 5 ∨ k = 6 ∨ k = 7 := by omega
    rcases hk8 with rfl | rfl | rfl | rfl | rfl | rfl | rfl | rfl
    · go_wp2_with (first | (go_at_call 35; (with_reducible refine (rights_calls _ _).mono ?_); rintro e w' ⟨rfl, rfl⟩))
      · have h : (Go.bits .and .i64 (rightsOf 0) bits == bits) = true := by assumption
        go_ret
        refine ⟨ret_int ?_, rfl⟩
        rw [← Hf.out]; simp only [beq_iff_eq] at h; simp [allModes, wkFrom, h]
      · have h : (Go.bits .and .i64 (rightsOf 0) bits == bits) = false := by assumption
        exact ⟨⟨1, by omega, rfl, by rw [← Hf.out]; simp only [beq_eq_false_iff_ne, ne_eq] at h; simp [allModes, wkFrom, h]⟩, by simp [intOf]⟩
    · go_wp2_with (first | (go_at_call 35; (with_reducible refine (rights_calls _ _).mono ?_); rintro e w' ⟨rfl, rfl⟩))
      · have h : (Go.bits .and .i64 (rightsOf 1) bits == bits) = true := by assumption
        go_ret
        refine ⟨ret_int ?_, rfl⟩
        rw [← Hf.out]; simp only [beq_iff_eq] at h; simp [allModes, wkFrom, h]
      · have h : (Go.bits .and .i64 (rightsOf 1) bits == bits) = false := by assumption
        exact ⟨⟨2, by omega, rfl, by rw [← Hf.out]; simp only [beq_eq_false_iff_ne, ne_eq] at h; simp [allModes, wkFrom, h]⟩, by simp [intOf]⟩
    · go_wp2_with (first | (go_at_call 35; (with_reducible refine (rights_calls _ _).mono ?_); rintro e w' ⟨rfl, rfl⟩))
      · have h : (Go.bits .and .i64 (rightsOf 2) bits == bits) = true := by assumption
        go_ret
        refine ⟨ret_int ?_, rfl⟩
        rw [← Hf.out]; simp only [beq_iff_eq] at h; simp [allModes, wkFrom, h]
      · have h : (Go.bits .and .i64 (rightsOf 2) bits == bits) = false := by assumption
        exact ⟨⟨3, by omega, rfl, by rw [← Hf.out]; simp only [beq_eq_false_iff_ne, ne_eq] at h; simp [allModes, wkFrom, h]⟩, by simp [intOf]⟩
    · go_wp2_with (first | (go_at_call 35; (with_reducible refine (rights_calls _ _).mono ?_); rintro e w' ⟨rfl, rfl⟩))
      · have h : (Go.bits .and .i64 (rightsOf 3) bits == bits) = true := by assumption
        go_ret
        refine ⟨ret_int ?_, rfl⟩
        rw [← Hf.out]; simp only [beq_iff_eq] at h; simp [allModes, wkFrom, h]
      · have h : (Go.bits .and .i64 (rightsOf 3) bits == bits) = false := by assumption
        exact ⟨⟨4, by omega, rfl, by rw [← Hf.out]; simp only [beq_eq_false_iff_ne, ne_eq] at h; simp [allModes, wkFrom, h]⟩, by simp [intOf]⟩
    · go_wp2_with (first | (go_at_call 35; (with_reducible refine (rights_calls _ _).mono ?_); rintro e w' ⟨rfl, rfl⟩))
      · have h : (Go.bits .and .i64 (rightsOf 4) bits == bits) = true := by assumption
        go_ret
        refine ⟨ret_int ?_, rfl⟩
        rw [← Hf.out]; simp only [beq_iff_eq] at h; simp [allModes, wkFrom, h]
      · have h : (Go.bits .and .i64 (rightsOf 4) bits == bits) = false := by assumption
        exact ⟨⟨5, by omega, rfl, by rw [← Hf.out]; simp only [beq_eq_false_iff_ne, ne_eq] at h; simp [allModes, wkFrom, h]⟩, by simp [intOf]⟩
    · go_wp2_with (first | (go_at_call 35; (with_reducible refine (rights_calls _ _).mono ?_); rintro e w' ⟨rfl, rfl⟩))
      · have h : (Go.bits .and .i64 (rightsOf 5) bits == bits) = true := by assumption
        go_ret
        refine ⟨ret_int ?_, rfl⟩
        rw [← Hf.out]; simp only [beq_iff_eq] at h; simp [allModes, wkFrom, h]
      · have h : (Go.bits .and .i64 (rightsOf 5) bits == bits) = false := by assumption
        exact ⟨⟨6, by omega, rfl, by rw [← Hf.out]; simp only [beq_eq_false_iff_ne, ne_eq] at h; simp [allModes, wkFrom, h]⟩, by simp [intOf]⟩
    · go_wp2_with (first | (go_at_call 35; (with_reducible refine (rights_calls _ _).mono ?_); rintro e w' ⟨rfl, rfl⟩))
      · have h : (Go.bits .and .i64 (rightsOf 6) bits == bits) = true := by assumption
        go_ret
        refine ⟨ret_int ?_, rfl⟩
        rw [← Hf.out]; simp only [beq_iff_eq] at h; simp [allModes, wkFrom, h]
      · have h : (Go.bits .and .i64 (rightsOf 6) bits == bits) = false := by assumption
        exact ⟨⟨7, by omega, rfl, by rw [← Hf.out]; simp only [beq_eq_false_iff_ne, ne_eq] at h; simp [allModes, wkFrom, h]⟩, by simp [intOf]⟩
    · go_wp2
      go_ret
      exact ⟨ret_int Hf.out, rfl⟩
theorem join_calls (a b : Int) (w : World) :
    Calls Try.prog 19 #[.int .i64 a, .int .i64 b] w fun e w' => e = .returned (.int .i64 (joinT a b)) ∧ w = w' := by
  cases ka : isKnown a
  · have Hka := Lib.hid ka; clear ka
    go_enter Try.func19, Try.ntmps19
    go_wp2_with (first | (go_at_call 33; (with_reducible refine (known_calls a _).mono ?_); rintro e w' ⟨rfl, rfl⟩; rw [Hka.out]))
    all_goals (go_ret; refine ⟨ret_int ?_, rfl⟩; simp [joinT, Hka.out])
  · have Hka := Lib.hid ka; clear ka
    cases kb : isKnown b
    · have Hkb := Lib.hid kb; clear kb
      go_enter Try.func19, Try.ntmps19
      go_wp2_with (first | (go_at_call 33; (with_reducible refine (known_calls a _).mono ?_); rintro e w' ⟨rfl, rfl⟩; rw [Hka.out]) | (go_at_call 33; (with_reducible refine (known_calls b _).mono ?_); rintro e w' ⟨rfl, rfl⟩; rw [Hkb.out]))
      all_goals (go_ret; refine ⟨ret_int ?_, rfl⟩; simp [joinT, Hka.out, Hkb.out])
    · have Hkb := Lib.hid kb; clear kb
      go_enter Try.func19, Try.ntmps19
      go_wp2_with (first | (go_at_call 33; (with_reducible refine (known_calls a _).mono ?_); rintro e w' ⟨rfl, rfl⟩; rw [Hka.out]) | (go_at_call 33; (with_reducible refine (known_calls b _).mono ?_); rintro e w' ⟨rfl, rfl⟩; rw [Hkb.out]) | (go_at_call 35; (with_reducible refine (rights_calls a _).mono ?_); rintro e w' ⟨rfl, rfl⟩) | (go_at_call 35; (with_reducible refine (rights_calls b _).mono ?_); rintro e w' ⟨rfl, rfl⟩) | (go_at_call 34; (with_reducible refine (weakest_calls _ _).mono ?_); rintro e w' ⟨rfl, rfl⟩))
      all_goals (go_ret; refine ⟨ret_int ?_, rfl⟩; simp [joinT, Hka.out, Hkb.out])
theorem covers_calls (a b : Int) (w : World) :
    Calls Try.prog 20 #[.int .i64 a, .int .i64 b] w fun e w' => e = .returned (.bool (cov a b)) ∧ w = w' := by
  cases ka : isKnown a
  · have Hka := Lib.hid ka; clear ka
    go_enter Try.func20, Try.ntmps20
    go_wp2_with (first | (go_at_call 33; (with_reducible refine (known_calls a _).mono ?_); rintro e w' ⟨rfl, rfl⟩; rw [Hka.out]))
    all_goals (go_ret; refine ⟨ret_bool ?_, rfl⟩; simp [cov, Hka.out])
  · have Hka := Lib.hid ka; clear ka
    cases kb : isKnown b
    · have Hkb := Lib.hid kb; clear kb
      go_enter Try.func20, Try.ntmps20
      go_wp2_with (first | (go_at_call 33; (with_reducible refine (known_calls a _).mono ?_); rintro e w' ⟨rfl, rfl⟩; rw [Hka.out]) | (go_at_call 33; (with_reducible refine (known_calls b _).mono ?_); rintro e w' ⟨rfl, rfl⟩; rw [Hkb.out]))
      all_goals (go_ret; refine ⟨ret_bool ?_, rfl⟩; simp [cov, Hka.out, Hkb.out])
    · have Hkb := Lib.hid kb; clear kb
      go_enter Try.func20, Try.ntmps20
      go_wp2_with (first | (go_at_call 33; (with_reducible refine (known_calls a _).mono ?_); rintro e w' ⟨rfl, rfl⟩; rw [Hka.out]) | (go_at_call 33; (with_reducible refine (known_calls b _).mono ?_); rintro e w' ⟨rfl, rfl⟩; rw [Hkb.out]) | (go_at_call 35; (with_reducible refine (rights_calls a _).mono ?_); rintro e w' ⟨rfl, rfl⟩) | (go_at_call 35; (with_reducible refine (rights_calls b _).mono ?_); rintro e w' ⟨rfl, rfl⟩))
      all_goals (go_ret; refine ⟨ret_bool ?_, rfl⟩; simp [cov, Hka.out, Hkb.out])
end Go.Proofs.Ytfnmploaklboiaa
