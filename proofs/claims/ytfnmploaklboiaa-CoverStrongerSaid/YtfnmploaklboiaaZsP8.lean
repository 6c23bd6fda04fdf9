import Derived.Test.YtfnmploaklboiaaZsP7
/- Layer 22: the plain law, ninth part: the document's changes as a recursion on the list. -/
namespace Go.Proofs.Ytfnmploaklboiaa
open Go.RowKit Go.Proofs.YtfnmploaklboiaaW.PrintWords V A
set_option linter.unusedSimpArgs false
set_option linter.unusedVariables false
def anyC (f : Int) : Bool := f == 6 || f == 7 || f == 9 || f == 10
/-- The document's changes, from the instruction at i on; g, a, p, e: guards, applies, the last guard's place, emits so far. -/
def goC (t : ByteArray) (l : List S33) : List S33 → Int → Int → Int → Int → Nat → Bool
  | [], g, a, p, e, i => if t.toList = [] then true else g == 1 && (a == 1 && (cov (modeF l t) 2 && tailB t l e))
  | x :: r, g, a, p, e, i =>
    !(t.toList.isEmpty && anyC x.f0) &&
    (if x.f0 = 9 then goC t l r (g + 1) a i e (i + 1)
     else if x.f0 = 10 then (p ≥ 0 && p == (i : Int) - 1) && goC t l r g (a + 1) p e (i + 1)
     else if x.f0 = 6 then !(decide (g > 0)) && goC t l r g a p (e + 1) (i + 1)
     else if x.f0 = 7 then !(decide (g > 0)) && goC t l r g a p e (i + 1)
     else goC t l r g a p e (i + 1))
end Go.Proofs.Ytfnmploaklboiaa
