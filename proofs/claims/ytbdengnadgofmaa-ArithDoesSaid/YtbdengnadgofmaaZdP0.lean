import Derived.Test.YtbdengnadgofmaaZdVx4
/- What arith.Do answers for two whole numbers: the plain law of layer 3. -/
namespace Go.Proofs.Ytbdengnadgofmaa
open Go.RowKit Go.Proofs.YtbdengnadgofmaaW.PrintWords V
set_option linter.unusedSimpArgs false
set_option linter.unusedVariables false
abbrev E0 : ByteArray := ⟨#[]⟩
def addO (a b : Int) : Bool := (decide (wrap64 (a + b) < a)) != (decide (b < 0))
def subO (a b : Int) : Bool := (decide (wrap64 (a - b) > a)) != (decide (b < 0))
def i64 (n : Int) : Prop := -9223372036854775808 ≤ n ∧ n ≤ 9223372036854775807
theorem addO_spec (a b : Int) (ha : i64 a) (hb : i64 b) : (addO a b = false ↔ i64 (a + b)) ∧ (addO a b = false → wrap64 (a + b) = a + b) := by
  unfold i64 at *
  have key : addO a b = false ↔ i64 (a + b) := by
    unfold addO i64
    by_cases h1 : wrap64 (a + b) < a <;> by_cases h2 : b < 0 <;> simp [h1, h2] <;> simp only [wrap64] at h1 <;> omega
  refine ⟨key, fun h => ?_⟩
  have := key.1 h
  unfold i64 at this
  simp only [wrap64]; omega
theorem subO_spec (a b : Int) (ha : i64 a) (hb : i64 b) : (subO a b = false ↔ i64 (a - b)) ∧ (subO a b = false → wrap64 (a - b) = a - b) := by
  unfold i64 at *
  have key : subO a b = false ↔ i64 (a - b) := by
    unfold subO i64
    by_cases h1 : wrap64 (a - b) > a <;> by_cases h2 : b < 0 <;> simp [h1, h2] <;> simp only [wrap64] at h1 <;> omega
  refine ⟨key, fun h => ?_⟩
  have := key.1 h
  unfold i64 at this
  simp only [wrap64]; omega
theorem i64_of_wf (n : Int) (h : (Lit.int .i64 n).wf = true) : i64 n := by
  simp [Lit.wf, IntKind.min, IntKind.max, IntKind.bits, IntKind.signed] at h
  unfold i64
  omega
end Go.Proofs.Ytbdengnadgofmaa
