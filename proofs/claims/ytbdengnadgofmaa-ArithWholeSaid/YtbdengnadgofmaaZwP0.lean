/- What arith.Do answers for two whole numbers: the plain law of layer 3. -/
import Derived.Test.YtbdengnadgofmaaZwVx4
namespace Go.Proofs.Ytbdengnadgofmaa
open Go.RowKit Go.Proofs.YtbdengnadgofmaaW.PrintWords V
set_option linter.unusedSimpArgs false
set_option linter.unusedVariables false
abbrev E0 : ByteArray := ⟨#[]⟩
theorem rd25_0 (x y : S25) : rd_T25 [x, y] 0 = x := rfl
theorem rd25_1 (x y : S25) : rd_T25 [x, y] 1 = y := rfl
/-- An operator of two whole numbers. -/
theorem do_two (op a b : Int) (h : op = 7 ∨ op = 8 ∨ op = 9 ∨ op = 10 ∨ op = 11) : arith_Do.f 19 op [(⟨2, a, E0⟩ : S25), (⟨2, b, E0⟩ : S25)] =
    (arith_pair_whole.f 2 a E0 2 b E0 op).bind fun p => if p.2 = 0 then some (2, p.1, E0, 0) else some (0, 0, E0, p.2) := by
  have e : ([(⟨2, a, E0⟩ : S25), (⟨2, b, E0⟩ : S25)].length : Int) = 2 := rfl
  have w : wrap64 (1 : Int) = 1 := by decide +kernel
  rcases h with rfl | rfl | rfl | rfl | rfl
  all_goals
    simp [arith_Do.f, arith_operands.f, arith_operands.j0, arith_Do.j0, arith_Do.j1, arith_Do.j2, arith_Do.j3, arith_answer.f, arith_answer.j0, arith_answer.j1, arith_answer.j2, arith_answer.j3, arith_answer.j4, e, w, rd25_0, rd25_1]
def addO (a b : Int) : Bool := (decide (wrap64 (a + b) < a)) != (decide (b < 0))
def subO (a b : Int) : Bool := (decide (wrap64 (a - b) > a)) != (decide (b < 0))
def i64 (n : Int) : Prop := -9223372036854775808 ≤ n ∧ n ≤ 9223372036854775807
theorem addO_spec (a b : Int) (ha : i64 a) (hb : i64 b) : (addO a b = false ↔ i64 (a + b)) ∧ (addO a b = false → wrap64 (a + b) = a + b) := by
  unfold i64 at *
  have key : addO a b = false ↔ i64 (a + b) := by
    unfold addO i64
    by_cases h1 : wrap64 (a + b) < a <;> by_cases h2 : b < 0 <;> simp [h1, h2] <;> simp only [wrap64] at h1 <;> omega
  refine ⟨key, fun h => ?_⟩
  have := key.1 h
  unfold i64 at this
  simp only [wrap64]; omega
theorem subO_spec (a b : Int) (ha : i64 a) (hb : i64 b) : (subO a b = false ↔ i64 (a - b)) ∧ (subO a b = false → wrap64 (a - b) = a - b) := by
  unfold i64 at *
  have key : subO a b = false ↔ i64 (a - b) := by
    unfold subO i64
    by_cases h1 : wrap64 (a - b) > a <;> by_cases h2 : b < 0 <;> simp [h1, h2] <;> simp only [wrap64] at h1 <;> omega
  refine ⟨key, fun h => ?_⟩
  have := key.1 h
  unfold i64 at this
  simp only [wrap64]; omega
theorem i64_of_wf (n : Int) (h : (Lit.int .i64 n).wf = true) : i64 n := by
  simp [Lit.wf, IntKind.min, IntKind.max, IntKind.bits, IntKind.signed] at h
  unfold i64
  omega
end Go.Proofs.Ytbdengnadgofmaa
