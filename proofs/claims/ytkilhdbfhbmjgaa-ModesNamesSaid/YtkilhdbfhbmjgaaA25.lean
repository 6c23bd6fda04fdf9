import Derived.Test.YtkilhdbfhbmjgaaA2
namespace Go.Proofs.Ytkilhdbfhbmjgaa
def togT (a b : Int) : Bool := tog a b
theorem known_cases {a : Int} (h : isKnown a = true) : a = 0 ∨ a = 1 ∨ a = 2 ∨ a = 3 ∨ a = 4 ∨ a = 5 ∨ a = 6 := by
  simp [isKnown] at h; omega
theorem unknown_cases {a : Int} (h : isKnown a = false) : a < 0 ∨ (0 ≤ a ∧ 6 < a) := by
  simp [isKnown] at h; omega
theorem known_range {a : Int} (h : isKnown a = true) : 0 ≤ a ∧ a ≤ 6 := by
  simp [isKnown] at h; exact h

end Go.Proofs.Ytkilhdbfhbmjgaa
