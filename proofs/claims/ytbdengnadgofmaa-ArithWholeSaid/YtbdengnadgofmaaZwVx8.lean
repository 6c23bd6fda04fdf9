import Derived.Test.YtbdengnadgofmaaZwVx0
namespace Go.Proofs.Ytbdengnadgofmaa.V
open Go.RowKit Go.Proofs.YtbdengnadgofmaaW.PrintWords Go.Proofs.YtbdengnadgofmaaW.PrintLast Go.Proofs.YtbdengnadgofmaaW.PrintMore
attribute [local go_sem] max2_int min2_int max_two min_two max_three min_three max_four min_four   -- for this text's walks alone
set_option linter.unusedVariables false
set_option linter.unusedSimpArgs false
/-! ### haspref02_CopyRow: function 11 -/
def haspref02_CopyRow.l0 : Nat → List (S25) → List (S25) → Int → Option ((List (S25)))
  | 0, _, _, _ => none
  | k + 1, x0, x3, x4 => if x4 < (x0.length : Int) then (if 0 ≤ x4 then (if x3.length < 4398046511104 then (haspref02_CopyRow.l0 k x0 (x3 ++ [(⟨(rd_T25 x0 x4).f0, (rd_T25 x0 x4).f1, (rd_T25 x0 x4).f2⟩ : S25)]) (wrap64 (x4 + 1))) else (none)) else (none)) else (some x3)
def haspref02_CopyRow.f (k : Nat) (l0 : List (S25)) : Option ((List (S25))) := haspref02_CopyRow.l0 k l0 (([] : List (S25))) 0
/-! ### haspref03_Count: function 24 -/
def haspref03_Count.j0 : Nat → Int → Bool → Option (Int)
  | 0, _, _ => none
  | k + 1, x0, x8 => if x8 = true then (some 2) else (if x0 ≥ 13 then (if x0 ≤ 15 then (some 1) else (some 0)) else (some 0))
def haspref03_Count.f (k : Nat) (a0 : Int) : Option (Int) := if a0 ≥ 7 then (haspref03_Count.j0 k a0 (decide (a0 ≤ 12))) else (haspref03_Count.j0 k a0 false)
/-! ### haspref03_One: function 25 -/
def haspref03_One.j0 : Nat → Int → Int → Bool → Option (Int)
  | 0, _, _, _ => none
  | k + 1, x1, x5, x6 => if x6 = true then (if x1 = 2 then (some x1) else (if x1 = 3 then (some x1) else (some 0))) else (if x5 = 11 then (if x1 = 2 then (some 2) else (some 0)) else (if x5 = 12 then (if x1 = 4 then (some 4) else (some 0)) else (if x5 = 14 then (if x1 ≥ 1 then (if x1 ≤ 3 then (some 2) else (some 0)) else (some 0)) else (if x5 = 15 then (if x1 = 2 then (some 3) else (if x1 = 3 then (some 3) else (some 0))) else (some 0)))))
def haspref03_One.f (k : Nat) (a0 : Int) (a1 : Int) : Option (Int) := if a0 = 7 then (haspref03_One.j0 k a1 a0 (a0 == 7)) else (if a0 = 8 then (haspref03_One.j0 k a1 a0 (a0 == 8)) else (if a0 = 9 then (haspref03_One.j0 k a1 a0 (a0 == 9)) else (if a0 = 10 then (haspref03_One.j0 k a1 a0 (a0 == 10)) else (haspref03_One.j0 k a1 a0 (a0 == 13)))))
end Go.Proofs.Ytbdengnadgofmaa.V
