/- Package keys: a real's bits as a number that rises with it, and back. -/
import Derived.Test.YthoemenchimggaaDoorK2
import Derived.Laws.Unary
namespace Go.Proofs.YthoemenchimggaaDoor
open Go.RowKit Go.Proofs.YthoemenchimggaaDoorW.PrintWords Go.Proofs.YthoemenchimggaaDoorW.PrintLast Go.Proofs.YthoemenchimggaaDoorW.PrintMore A Fl
set_option linter.unusedVariables false
set_option linter.unusedSimpArgs false
def ordB (u : Int) : Int := if (bits .and .u64 u 9223372036854775808 != 0) = true then bits .xor .u64 18446744073709551615 u else bits .or .u64 u 9223372036854775808
def ordU (n : Int) : Int := ordB (if (IntKind.u64.wrap n == 9223372036854775808) = true then 0 else IntKind.u64.wrap n)
def disU (u : Int) : Int := if (bits .and .u64 u 9223372036854775808 != 0) = true then wrap64 (bits .andNot .u64 u 9223372036854775808) else wrap64 (bits .xor .u64 18446744073709551615 u)
theorem and0 : bits .and .u64 0 9223372036854775808 = 0 := by decide
theorem or0 : bits .or .u64 0 9223372036854775808 = 9223372036854775808 := by decide
theorem ordered_calls (n : Int) (w : World) : Calls Tryd.prog 25 #[.int .i64 n] w fun e w' => e = .returned (.int .u64 (ordU n)) ∧ w = w' := by
  unfold ordU ordB
  obtain ⟨u, hu⟩ : ∃ u, IntKind.u64.wrap n = u := ⟨_, rfl⟩
  rw [hu]
  cases h1 : (u == 9223372036854775808)
  · simp only [Bool.false_eq_true, if_false]
    cases h2 : (bits .and .u64 u 9223372036854775808 != 0)
    · simp only [Bool.false_eq_true, if_false]
      go_enter Tryd.func25, Tryd.ntmps25
      go_wp2
      go_ret
      exact ⟨rfl, rfl⟩
    · simp only [if_true]
      go_enter Tryd.func25, Tryd.ntmps25
      go_wp2
      go_ret
      exact ⟨rfl, rfl⟩
  · simp only [if_true]
    have hz := and0
    have hz2 := or0
    rw [and0, or0, if_neg (by decide)]
    go_enter Tryd.func25, Tryd.ntmps25
    go_wp2
    go_ret
    exact ⟨rfl, rfl⟩
theorem disordered_calls (u : Int) (w : World) : Calls Tryd.prog 40 #[.int .u64 u] w fun e w' => e = .returned (.int .i64 (disU u)) ∧ w = w' := by
  unfold disU
  cases h2 : (bits .and .u64 u 9223372036854775808 != 0)
  · simp only [Bool.false_eq_true, if_false]
    go_enter Tryd.func40, Tryd.ntmps40
    go_wp2
    go_ret
    exact ⟨rfl, rfl⟩
  · simp only [if_true]
    go_enter Tryd.func40, Tryd.ntmps40
    go_wp2
    go_ret
    exact ⟨rfl, rfl⟩
end Go.Proofs.YthoemenchimggaaDoor
