import Derived.Test.YtnjobnkkpfaigaaZfVx0
import Derived.Test.YtnjobnkkpfaigaaZfVx2
import Derived.Test.YtnjobnkkpfaigaaZfVx4
import Derived.Test.YtnjobnkkpfaigaaZfVx5
import Derived.Test.YtnjobnkkpfaigaaZfVx8
import Derived.Test.YtnjobnkkpfaigaaZfVx9
namespace Go.Proofs.Ytnjobnkkpfaigaa.V
open Go.RowKit Go.Proofs.YtnjobnkkpfaigaaW.PrintWords Go.Proofs.YtnjobnkkpfaigaaW.PrintLast Go.Proofs.YtnjobnkkpfaigaaW.PrintMore Go.Proofs.Ytnjobnkkpfaigaa.A
attribute [local go_sem] max2_int min2_int max_two min_two max_three min_three max_four min_four   -- for this text's walks alone
set_option linter.unusedVariables false
set_option linter.unusedSimpArgs false
attribute [local go_sem high] eqA47
/-! ### haspref06_SameCols: function 15 -/
def haspref06_SameCols.l0 : Nat → List (S47) → List (S47) → Int → Option (Bool)
  | 0, _, _, _ => none
  | k + 1, x0, x1, x5 => if x5 < (x0.length : Int) then (if 0 ≤ x5 then (if x5 < (x1.length : Int) then (if (!((((rd_T47 x0 x5).f0).toList) == (((rd_T47 x1 x5).f0).toList)) || (!(((rd_T47 x0 x5).f1) == ((rd_T47 x1 x5).f1)) || (!(((rd_T47 x0 x5).f2) == ((rd_T47 x1 x5).f2))))) = true then (some false) else (haspref06_SameCols.l0 k x0 x1 (wrap64 (x5 + 1)))) else (none)) else (none)) else (some true)
def haspref06_SameCols.f (k : Nat) (l0 : List (S47)) (l1 : List (S47)) : Option (Bool) := if (l0.length : Int) = (l1.length : Int) then (haspref06_SameCols.l0 k l0 l1 0) else (some false)
/-! ### hasplaw06_RowsEncodes: function 3 -/
def hasplaw06_RowsEncodes.f (k : Nat) (l0 : List (S47)) (l1 : List (S43)) : Option (Bool) := (hasplaw06_speaks.f k).bind fun t185 => (if t185 = true then ((haspref06_CopyCols.f k l0).bind fun t186 => ((haspref02_CopyRow.f k l1).bind fun t189 => ((rows_Encode.f k t186 t189).bind fun bt192 => ((haspref06_Encode.f k l0 l1).bind fun bt196 => (if (strOfNums bt192.1).toList = (strOfNums bt196.1).toList then (if bt192.2 = bt196.2 then ((rows_Fit.f k t186 t189).bind fun t200 => ((haspref06_Fit.f k l0 l1).bind fun t201 => (if t200 = t201 then ((haspref06_SameCols.f k t186 l0).bind fun t202 => (if t202 = true then ((haspref02_SameRow.f k t189 l1).bind fun t203 => (some t203)) else (some false))) else (some false)))) else (some false)) else (some false)))))) else (some false))
/-! ### hasplaw06_RowsDecodes: function 4 -/
mutual
def hasplaw06_RowsDecodes.j0 : Nat → List (S43) → List (S43) → List (S43) → Bool → Option (Bool)
  | 0, _, _, _, _ => none
  | k + 1, x6, x8, x10, x53 => if x53 = true then (some false) else (hasplaw06_RowsDecodes.l0 k x6 x8 x10 (x6.length : Int) 0)
def hasplaw06_RowsDecodes.l0 : Nat → List (S43) → List (S43) → List (S43) → Int → Int → Option (Bool)
  | 0, _, _, _, _, _ => none
  | k + 1, x6, x8, x10, x55, x56 => if x56 < x55 then (if 0 ≤ x56 then (if x56 < (x6.length : Int) then (hasplaw06_RowsDecodes.l0 k (x6.set (x56 : Int).toNat (⟨9, 0, (⟨#[]⟩ : ByteArray)⟩ : S43)) x8 x10 x55 (wrap64 (x56 + 1))) else (none)) else (none)) else ((haspref02_SameRow.f k x8 x10).bind fun t231 => (some t231))
end
def hasplaw06_RowsDecodes.f (k : Nat) (l0 : List (S47)) (l1 : List Int) : Option (Bool) := (hasplaw06_speaks.f k).bind fun t204 => (if t204 = true then ((some (([] : List Int) : List Int)).bind fun y205 => (if y205.length + l1.length < 140737488355328 then ((some (y205 ++ l1 : List Int)).bind fun y208 => ((haspref06_CopyCols.f k l0).bind fun t211 => ((rows_Decode.f t211 y208).bind fun bt214 => ((haspref06_CopyCols.f k l0).bind fun t218 => ((rows_Decode.f t218 y208).bind fun bt221 => ((haspref06_Decode.f k l0 l1).bind fun bt225 => ((haspref02_SameRow.f k bt214.1 bt225.1).bind fun t229 => (if t229 = true then (if bt214.2 = bt225.2 then (hasplaw06_RowsDecodes.j0 k bt214.1 bt221.1 bt225.1 ((strOfNums y208).toList != (strOfNums l1).toList)) else (hasplaw06_RowsDecodes.j0 k bt214.1 bt221.1 bt225.1 true)) else (hasplaw06_RowsDecodes.j0 k bt214.1 bt221.1 bt225.1 true))))))))) else (none))) else (some false))
/-! ### hasplaw06_RowsThere: function 5 -/
def hasplaw06_RowsThere.f (k : Nat) (l0 : List (S47)) (l1 : List (S43)) (a2 : Int) : Option (Bool) := (hasplaw06_speaks.f k).bind fun t232 => (if t232 = true then ((haspref02_CopyRow.f k l1).bind fun t233 => ((rows_Encode.f k l0 t233).bind fun bt236 => (if bt236.2 = 0 then ((rows_Decode.f l0 bt236.1).bind fun bt240 => (if bt236.1.length < 140737488355328 then ((rows_Decode.f l0 (bt236.1 ++ [a2])).bind fun bt247 => (if bt240.2 = 0 then ((haspref02_SameRow.f k bt240.1 l1).bind fun t251 => (if t251 = true then (some (bt247.2 == 4)) else (some false))) else (some false))) else (none))) else ((haspref02_CopyRow.f k l1).bind fun t252 => ((rows_Fit.f k l0 t252).bind fun t255 => (if bt236.2 = t255 then (some ((bt236.1.length : Int) == 0)) else (some false))))))) else (some false))
end Go.Proofs.Ytnjobnkkpfaigaa.V
