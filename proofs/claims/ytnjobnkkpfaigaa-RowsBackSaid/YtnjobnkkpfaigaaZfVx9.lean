import Derived.Test.YtnjobnkkpfaigaaZfVx0
import Derived.Test.YtnjobnkkpfaigaaZfVx8
namespace Go.Proofs.Ytnjobnkkpfaigaa.V
open Go.RowKit Go.Proofs.YtnjobnkkpfaigaaW.PrintWords Go.Proofs.YtnjobnkkpfaigaaW.PrintLast Go.Proofs.YtnjobnkkpfaigaaW.PrintMore Go.Proofs.Ytnjobnkkpfaigaa.A
attribute [local go_sem] max2_int min2_int max_two min_two max_three min_three max_four min_four   -- for this text's walks alone
set_option linter.unusedVariables false
set_option linter.unusedSimpArgs false
/-! ### haspref06_Encode: function 12 -/
mutual
def haspref06_Encode.l0 : Nat → List (S43) → List Int → Int → Option (List Int × Int)
  | 0, _, _, _ => none
  | k + 1, x1, x7, x8 => if x8 < (x1.length : Int) then (haspref06_Encode.l1 k x1 x7 x8 0 0) else (haspref06_Encode.l2 k x1 x7 0)
def haspref06_Encode.l1 : Nat → List (S43) → List Int → Int → Int → Int → Option (List Int × Int)
  | 0, _, _, _, _, _ => none
  | k + 1, x1, x7, x8, x9, x10 => if x10 < 8 then (haspref06_Encode.j2 k x1 x7 x8 x9 x10 (decide ((wrap64 (x8 + x10)) < (x1.length : Int)))) else (haspref06_Encode.j2 k x1 x7 x8 x9 x10 false)
def haspref06_Encode.j2 : Nat → List (S43) → List Int → Int → Int → Int → Bool → Option (List Int × Int)
  | 0, _, _, _, _, _, _ => none
  | k + 1, x1, x7, x8, x9, x10, x38 => if x38 = true then (if 0 ≤ (wrap64 (x8 + x10)) then (if (wrap64 (x8 + x10)) < (x1.length : Int) then (if ((rd_T43 x1 (wrap64 (x8 + x10))).f0) = 0 then (if 0 ≤ (IntKind.u64.wrap (x10)) then (haspref06_Encode.l1 k x1 x7 x8 (wrap64 (x9 + (shl .i64 1 (IntKind.u64.wrap (x10))))) (wrap64 (x10 + 1))) else (none)) else (haspref06_Encode.l1 k x1 x7 x8 x9 (wrap64 (x10 + 1)))) else (none)) else (none)) else (if x7.length < 140737488355328 then (haspref06_Encode.l0 k x1 (x7 ++ [(x9) % 256]) (wrap64 (x8 + 8))) else (none))
def haspref06_Encode.l2 : Nat → List (S43) → List Int → Int → Option (List Int × Int)
  | 0, _, _, _ => none
  | k + 1, x1, x7, x11 => if x11 < (x1.length : Int) then (if 0 ≤ x11 then (if ((rd_T43 x1 x11).f0) = 1 then (if x7.length < 140737488355328 then (haspref06_Encode.j4 k x1 (x7 ++ [((rd_T43 x1 x11).f1) % 256]) x11 ((rd_T43 x1 x11).f0) ((rd_T43 x1 x11).f1) ((rd_T43 x1 x11).f2)) else (none)) else (haspref06_Encode.j4 k x1 x7 x11 ((rd_T43 x1 x11).f0) ((rd_T43 x1 x11).f1) ((rd_T43 x1 x11).f2))) else (none)) else (some (x7, 0))
def haspref06_Encode.j4 : Nat → List (S43) → List Int → Int → Int → Int → ByteArray → Option (List Int × Int)
  | 0, _, _, _, _, _, _ => none
  | k + 1, x1, x7, x11, x171000, x171001, x171002 => if x171000 = 2 then (haspref06_Encode.j5 k x1 x7 x11 true x171000 x171001 x171002) else (haspref06_Encode.j5 k x1 x7 x11 (x171000 == 3) x171000 x171001 x171002)
def haspref06_Encode.j5 : Nat → List (S43) → List Int → Int → Bool → Int → Int → ByteArray → Option (List Int × Int)
  | 0, _, _, _, _, _, _, _ => none
  | k + 1, x1, x7, x11, x85, x171000, x171001, x171002 => if x85 = true then (haspref06_Encode.l3 k x1 x7 x11 0 x171000 x171001 x171002) else (haspref06_Encode.j7 k x1 x7 x11 x171000 x171001 x171002)
def haspref06_Encode.j7 : Nat → List (S43) → List Int → Int → Int → Int → ByteArray → Option (List Int × Int)
  | 0, _, _, _, _, _, _ => none
  | k + 1, x1, x7, x11, x171000, x171001, x171002 => if x171000 = 4 then (if x7.length < 140737488355328 then (haspref06_Encode.l4 k x1 (x7 ++ [((x171002.size : Int)) % 256]) x11 0 x171000 x171001 x171002) else (none)) else (haspref06_Encode.l2 k x1 x7 (wrap64 (x11 + 1)))
def haspref06_Encode.l4 : Nat → List (S43) → List Int → Int → Int → Int → Int → ByteArray → Option (List Int × Int)
  | 0, _, _, _, _, _, _, _ => none
  | k + 1, x1, x7, x11, x14, x171000, x171001, x171002 => if x14 < (x171002.size : Int) then (if 0 ≤ x14 then (if x7.length < 140737488355328 then (haspref06_Encode.l4 k x1 (x7 ++ [bt x171002 x14]) x11 (wrap64 (x14 + 1)) x171000 x171001 x171002) else (none)) else (none)) else (haspref06_Encode.l2 k x1 x7 (wrap64 (x11 + 1)))
def haspref06_Encode.l3 : Nat → List (S43) → List Int → Int → Int → Int → Int → ByteArray → Option (List Int × Int)
  | 0, _, _, _, _, _, _, _ => none
  | k + 1, x1, x7, x11, x13, x171000, x171001, x171002 => if x13 < 64 then (if 0 ≤ (IntKind.u64.wrap (x13)) then (if x7.length < 140737488355328 then (haspref06_Encode.l3 k x1 (x7 ++ [(shr .u64 (IntKind.u64.wrap (x171001)) (IntKind.u64.wrap (x13))) % 256]) x11 (wrap64 (x13 + 8)) x171000 x171001 x171002) else (none)) else (none)) else (haspref06_Encode.j7 k x1 x7 x11 x171000 x171001 x171002)
end
def haspref06_Encode.f (k : Nat) (l0 : List (S47)) (l1 : List (S43)) : Option (List Int × Int) := (haspref06_Fit.f k l0 l1).bind fun t158 => (if t158 = 0 then (haspref06_Encode.l0 k l1 (([] : List Int)) 0) else (some ((([] : List Int)), t158)))
end Go.Proofs.Ytnjobnkkpfaigaa.V
