/- The program's operators are the document's: the plain law of layer 3, sixth part (whole numbers). -/
import Derived.Test.YtbdengnadgofmaaZwP4
import Derived.Test.YtbdengnadgofmaaZwVx9
namespace Go.Proofs.Ytbdengnadgofmaa
open Go.RowKit Go.Proofs.YtbdengnadgofmaaW.PrintWords V Fl
set_option linter.unusedSimpArgs false
set_option linter.unusedVariables false
theorem w64_in (n : Int) (h : i64 n) : wrap64 n = n := by unfold i64 at h; simp only [wrap64]; omega
theorem w64_mod (n : Int) : ∃ q : Int, wrap64 n = n + q * 18446744073709551616 := by
  simp only [wrap64]
  exact ⟨-((n + 9223372036854775808) / 18446744073709551616), by omega⟩
theorem tdiv_abs (p a : Int) (h : a ≠ 0) : (Int.tdiv p a).natAbs = p.natAbs / a.natAbs := Int.natAbs_tdiv p a
theorem tdiv_i64 (p a : Int) (hp : i64 p) (h0 : a ≠ 0) (h1 : ¬ (a = -1 ∧ p = -9223372036854775808)) : i64 (Int.tdiv p a) := by
  have h := tdiv_abs p a h0
  unfold i64 at *
  by_cases e : a = -1
  · subst e
    have : Int.tdiv p (-1) = -p := by rw [Int.tdiv_neg, Int.tdiv_one]
    rw [this]
    omega
  · by_cases e1 : a = 1
    · subst e1; rw [Int.tdiv_one]; exact hp
    · have ha : 2 ≤ a.natAbs := by omega
      have : p.natAbs / a.natAbs ≤ p.natAbs / 2 := Nat.div_le_div_left ha (by omega)
      omega
end Go.Proofs.Ytbdengnadgofmaa
