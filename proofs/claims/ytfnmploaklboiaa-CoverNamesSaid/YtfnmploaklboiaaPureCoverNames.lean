import Derived.Test.YtfnmploaklboiaaVx1
namespace Go.Proofs.Ytfnmploaklboiaa.Pure
open Go.RowKit Go.Proofs.Ytfnmploaklboiaa.V Go.Proofs.YtfnmploaklboiaaW.PrintWords Go.Proofs.YtfnmploaklboiaaW.PrintLast

/-- YOURS: hasplaw22_CoverNames.f  = some true
What it reaches (each with k first where it has rounds; `.mono`: more rounds tell the same; `.l0`, ..: its loops, with `.mono_l`): cover_Check.f, hasplaw22_example.f, hasplaw22_speaks.f, hasplaw22_CoverNames.f -/
theorem CoverNames : hasplaw22_CoverNames.Pure := by
  unfold hasplaw22_CoverNames.Pure
  decide +kernel

end Go.Proofs.Ytfnmploaklboiaa.Pure
