/- Any two verdicts go together as the document says: the plain law. -/
import Derived.Test.YtblbdepklmlcoaaDoorP0
import Derived.Test.YtblbdepklmlcoaaDoorVx3
namespace Go.Proofs.YtblbdepklmlcoaaDoor
open Go.RowKit Go.Proofs.YtblbdepklmlcoaaDoorW.PrintWords A
set_option linter.unusedVariables false
set_option linter.unusedSimpArgs false
theorem and_same (a ae b be : Int) : (jT a ae b be 0, jE a ae b be 0) = toldV (tabAt andTab (mkV a ae) (mkV b be)) a ae b be := by
  rcases four a ae with ⟨rfl, rfl⟩ | ⟨rfl, rfl⟩ | ⟨rfl, h1, h2⟩ | h
  all_goals rcases four b be with ⟨rfl, rfl⟩ | ⟨rfl, rfl⟩ | ⟨rfl, k1, k2⟩ | k
  all_goals simp [jT, jE, plT, wo, toldV, tabAt, andTab, mkV, mn, *]
theorem or_same (a ae b be : Int) : (jT a ae b be 1, jE a ae b be 1) = toldV (tabAt orTab (mkV a ae) (mkV b be)) a ae b be := by
  rcases four a ae with ⟨rfl, rfl⟩ | ⟨rfl, rfl⟩ | ⟨rfl, h1, h2⟩ | h
  all_goals rcases four b be with ⟨rfl, rfl⟩ | ⟨rfl, rfl⟩ | ⟨rfl, k1, k2⟩ | k
  all_goals simp [jT, jE, plT, wo, toldV, tabAt, orTab, mkV, mn, *]
theorem not_same (a ae : Int) : notT a ae = notTab.getD (mkV a ae).toNat 0 := by
  rcases four a ae with ⟨rfl, rfl⟩ | ⟨rfl, rfl⟩ | ⟨rfl, h1, h2⟩ | h
  all_goals simp [notT, notTab, mkV, *]
theorem worse_same (a b : Int) : V.logic_Worse.f a b = V.haspref04_Worse.f a b := by
  unfold V.logic_Worse.f V.haspref04_Worse.f mn
  repeat' split
  all_goals rfl
theorem worse_some (a b : Int) : ∃ r, V.haspref04_Worse.f a b = some r := by
  unfold V.haspref04_Worse.f
  repeat' split
  all_goals exact ⟨_, rfl⟩
theorem JoinsPure (a ae b be : Int) : V.hasplaw04_LogicJoins.f a ae b be = some true := by
  unfold V.hasplaw04_LogicJoins.f
  rw [speaks_eq]
  unfold logic_And.f logic_Or.f logic_Not.f haspref04_And.f haspref04_Or.f haspref04_Not.f
  obtain ⟨r, hr⟩ := worse_some ae be
  rw [worse_same, hr, ← and_same, ← or_same, ← not_same]
  simp
end Go.Proofs.YtblbdepklmlcoaaDoor
