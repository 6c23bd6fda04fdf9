import Derived.Test.YtgbjilcfgpbcgaaZpH22
/- Layer 8: HeapOnce, walked. -/
namespace Go.Proofs.Ytgbjilcfgpbcgaa
open Go.RowKit Go.Proofs.YtgbjilcfgpbcgaaW.PrintWords Go.Proofs.YtgbjilcfgpbcgaaW.PrintLast Go.Proofs.YtgbjilcfgpbcgaaW.PrintMore
set_option linter.unusedSimpArgs false
set_option linter.unusedVariables false
theorem behV_eq (o : Option Int) : behV o = .tuple #[.int .i64 (o.getD 0), .bool o.isSome] := by cases o <;> rfl
end Go.Proofs.Ytgbjilcfgpbcgaa
