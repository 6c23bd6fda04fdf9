/- The order of sums: the plain law of layer 3, second part. -/
import Derived.Test.YtbdengnadgofmaaP0
import Derived.Test.YtbdengnadgofmaaVx16
namespace Go.Proofs.Ytbdengnadgofmaa
open Go.RowKit Go.Proofs.YtbdengnadgofmaaW.PrintWords V
set_option linter.unusedSimpArgs false
set_option linter.unusedVariables false
theorem OrderPure (a : Int) (wa : (Lit.int .i64 a).wf = true) (b : Int) (wb : (Lit.int .i64 b).wf = true) (c : Int) (wc : (Lit.int .i64 c).wf = true) : ∃ k, hasplaw03_ArithOrder.f k a b c = some true := by
  refine ⟨19, ?_⟩
  unfold hasplaw03_ArithOrder.f hasplaw03_speaks.f hasplaw03_num.f
  simp only [Option.bind_some, if_true]
  have h1 := do_add a c
  have h2 := do_add b c
  unfold E0 at h1 h2
  rw [h1, h2]
  have s1 := (addO_spec a c (i64_of_wf a wa) (i64_of_wf c wc)).2
  have s2 := (addO_spec b c (i64_of_wf b wb) (i64_of_wf c wc)).2
  cases e1 : addO a c
  · have t1 := s1 e1
    cases e2 : addO b c
    · have t2 := s2 e2
      rw [t1, t2]
      have x1 : ((decide (a < b)) == (decide (a + c < b + c))) = true := by
        rw [beq_iff_eq, decide_eq_decide]; omega
      have x2 : ((a == b) == (a + c == b + c)) = true := by
        rw [beq_iff_eq, Bool.eq_iff_iff]; simp
      simp only [Bool.false_eq_true, if_false, Option.bind_some, if_true, x1, x2]
    · simp
  · cases e2 : addO b c <;> simp
end Go.Proofs.Ytbdengnadgofmaa
