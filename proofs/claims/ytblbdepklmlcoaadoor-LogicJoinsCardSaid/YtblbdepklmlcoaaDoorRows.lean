/-
  NARROWER THAN 'FOR EVERY INPUT', by the rows' own cells (each row's printed sentence says how): LogicJoins: laid · LogicSieves: laid · LogicTurns: laid · LogicOrder: laid.
  DERIVED. THE GIVEN ROWS OF THIS SEAT. 4 by the template 'for every input the law returns true; each argument reads behind the call as it read before'; 0 by the template 'total and deterministic' (their statements: YtblbdepklmlcoaaDoorTotals.lean).
  GIVEN WITH THE SEED: the statements are not yours to turn. If you find one false, say at which input.
  Laid BY PROGRAM, IN A SANDBOX (cutbox-rows.mjs): the forced cells as the released guide's own fill.sh prints them over the translation 745538eefe771fbc… (all of the seat's roots in one cut). By AI agents, Wed Nov 11 2026. No macro, syntax, notation, axiom, sorry.
-/
import Derived.Test.YtblbdepklmlcoaaDoorChecked
import GoSem.Claim
import GoSem.ClaimJoined
import GoSem.ClaimMapViews
import Derived.JoinedTies
import Derived.KernelRfl
namespace Go.Proofs.YtblbdepklmlcoaaDoor
/- THE CELL 'sum', in the pinned program and in every row, IS THE sha256 OF THE DUMP (.gsa) THAT YtblbdepklmlcoaaDoorProg.lean LOADS. Nothing in Lean hashes anything: it is a label: what it is worth is what the hold of that sum in a sandbox is worth. -/
noncomputable def Tryd.pinned : Pinned := { name := "ytblbdepklmlcoaadoor", sum := "745538eefe771fbc7d7b7c689118d9d30131912ab632ac527a67ed19b600466d", checked := Tryd.checked }
namespace Rows
def none {H : Type} : Left H := { results := [], args := [] }

/- WHAT THE LISTED PACKAGE-LEVEL VARIABLES READ AS WHEN THE CALL BEGINS. Each datum BY PROGRAM (the guide's laid-datum.mjs) off the statement by which the dump's own 'gosem.cut.vars' lays the variable. In a bare row this is a premise. The card (YtblbdepklmlcoaaDoorCards.lean) ties it to the program's text. -/
def laid_hasp_logic_yes {H : Type} : DataW H := .agg [.lit (.int .i64 1), .lit (.int .i64 0)]
def laid_hasp_logic_no {H : Type} : DataW H := .agg [.lit (.int .i64 0), .lit (.int .i64 0)]
def laid_hasp_logic_unsure {H : Type} : DataW H := .agg [.lit (.int .i64 2), .lit (.int .i64 0)]

/-- 'hasplaw04.LogicJoins': WHATEVER THE INPUT: true; the input reads as it did. -/
def logicJoinsSpec : ChangeSpec := { name := "logicJoins", fn := fun _ => fun
  | [d1, d2] => { results := [.lit (.bool true)], args := [d1, d2] }
  | _ => none }
def logicJoinsRow : OpenClaim := { program := "ytblbdepklmlcoaadoor", sum := "745538eefe771fbc7d7b7c689118d9d30131912ab632ac527a67ed19b600466d", func := "hasp/hasplaw04.LogicJoins", spec := "logicJoins", unfollowed := true, recurses := true, named := ["hasp/logic.no", "hasp/logic.unsure", "hasp/logic.yes"], apart := false, laid := [("hasp/logic.yes", laid_hasp_logic_yes), ("hasp/logic.no", laid_hasp_logic_no), ("hasp/logic.unsure", laid_hasp_logic_unsure)] }
def LogicJoinsSaid : Prop := logicJoinsRow.holds Tryd.pinned (OpenSpec.ofChange logicJoinsSpec)

/-- ITS FALSE NEIGHBOUR: 'it returns false'. Refute it at one input. -/
def logicJoinsWrong : ChangeSpec := { name := "logicJoins", fn := fun _ => fun
  | [d1, d2] => { results := [.lit (.bool false)], args := [d1, d2] }
  | _ => none }
def LogicJoinsWrongFalsely : Prop := logicJoinsRow.holds Tryd.pinned (OpenSpec.ofChange logicJoinsWrong)

/-- 'hasplaw04.LogicSieves': WHATEVER THE INPUT: true; the input reads as it did. -/
def logicSievesSpec : ChangeSpec := { name := "logicSieves", fn := fun _ => fun
  | [d] => { results := [.lit (.bool true)], args := [d] }
  | _ => none }
def logicSievesRow : OpenClaim := { program := "ytblbdepklmlcoaadoor", sum := "745538eefe771fbc7d7b7c689118d9d30131912ab632ac527a67ed19b600466d", func := "hasp/hasplaw04.LogicSieves", spec := "logicSieves", unfollowed := true, recurses := true, named := ["hasp/logic.no", "hasp/logic.unsure", "hasp/logic.yes"], apart := false, laid := [("hasp/logic.yes", laid_hasp_logic_yes), ("hasp/logic.no", laid_hasp_logic_no), ("hasp/logic.unsure", laid_hasp_logic_unsure)] }
def LogicSievesSaid : Prop := logicSievesRow.holds Tryd.pinned (OpenSpec.ofChange logicSievesSpec)

/-- ITS FALSE NEIGHBOUR: 'it returns false'. Refute it at one input. -/
def logicSievesWrong : ChangeSpec := { name := "logicSieves", fn := fun _ => fun
  | [d] => { results := [.lit (.bool false)], args := [d] }
  | _ => none }
def LogicSievesWrongFalsely : Prop := logicSievesRow.holds Tryd.pinned (OpenSpec.ofChange logicSievesWrong)

/-- 'hasplaw04.LogicTurns': WHATEVER THE INPUT: true; the input reads as it did. -/
def logicTurnsSpec : ChangeSpec := { name := "logicTurns", fn := fun _ => fun
  | [d1, d2, d3] => { results := [.lit (.bool true)], args := [d1, d2, d3] }
  | _ => none }
def logicTurnsRow : OpenClaim := { program := "ytblbdepklmlcoaadoor", sum := "745538eefe771fbc7d7b7c689118d9d30131912ab632ac527a67ed19b600466d", func := "hasp/hasplaw04.LogicTurns", spec := "logicTurns", unfollowed := true, recurses := true, named := ["hasp/logic.no", "hasp/logic.unsure", "hasp/logic.yes"], apart := false, laid := [("hasp/logic.yes", laid_hasp_logic_yes), ("hasp/logic.no", laid_hasp_logic_no), ("hasp/logic.unsure", laid_hasp_logic_unsure)] }
def LogicTurnsSaid : Prop := logicTurnsRow.holds Tryd.pinned (OpenSpec.ofChange logicTurnsSpec)

/-- ITS FALSE NEIGHBOUR: 'it returns false'. Refute it at one input. -/
def logicTurnsWrong : ChangeSpec := { name := "logicTurns", fn := fun _ => fun
  | [d1, d2, d3] => { results := [.lit (.bool false)], args := [d1, d2, d3] }
  | _ => none }
def LogicTurnsWrongFalsely : Prop := logicTurnsRow.holds Tryd.pinned (OpenSpec.ofChange logicTurnsWrong)

/-- 'hasplaw04.LogicOrder': WHATEVER THE INPUT: true; the input reads as it did. -/
def logicOrderSpec : ChangeSpec := { name := "logicOrder", fn := fun _ => fun
  | [d1, d2] => { results := [.lit (.bool true)], args := [d1, d2] }
  | _ => none }
def logicOrderRow : OpenClaim := { program := "ytblbdepklmlcoaadoor", sum := "745538eefe771fbc7d7b7c689118d9d30131912ab632ac527a67ed19b600466d", func := "hasp/hasplaw04.LogicOrder", spec := "logicOrder", unfollowed := true, recurses := true, named := ["hasp/logic.no", "hasp/logic.unsure", "hasp/logic.yes"], apart := false, laid := [("hasp/logic.yes", laid_hasp_logic_yes), ("hasp/logic.no", laid_hasp_logic_no), ("hasp/logic.unsure", laid_hasp_logic_unsure)] }
def LogicOrderSaid : Prop := logicOrderRow.holds Tryd.pinned (OpenSpec.ofChange logicOrderSpec)

/-- ITS FALSE NEIGHBOUR: 'it returns false'. Refute it at one input. -/
def logicOrderWrong : ChangeSpec := { name := "logicOrder", fn := fun _ => fun
  | [d1, d2] => { results := [.lit (.bool false)], args := [d1, d2] }
  | _ => none }
def LogicOrderWrongFalsely : Prop := logicOrderRow.holds Tryd.pinned (OpenSpec.ofChange logicOrderWrong)

/- THE SECOND FORM. 'bulk': how many values and letters a reading holds, each counted each time it is reached (what is shared counts as often as it is met; a slice's spare places count too). A statement '..UptoSaid' is the law's where the arguments, and the package variables that the reading takes, are together of bulk at most 1048576: NARROWER than '..Said'. Prove '..Said' where nothing that the law and all that it calls make is longer than what came in: it says more and counts as full. Else prove '..UptoSaid'. A law counts once. -/
mutual
def uptoBulk {H : Type} : DataW H → Nat
  | .lit (.string bytes) => bytes.length + 1
  | .lit _ => 1
  | .nil => 1
  | .ptr d => uptoBulk d + 1
  | .slice elems spare => uptoBulkAll elems + uptoBulkAll spare + 1
  | .agg parts => uptoBulkAll parts + 1
  | .iface _ d => uptoBulk d + 1
  | .map entries => uptoBulkEntries entries + 1
  | .held _ => 1
def uptoBulkAll {H : Type} : List (DataW H) → Nat
  | [] => 0
  | d :: r => uptoBulk d + uptoBulkAll r
def uptoBulkEntries {H : Type} : List (Lit × DataW H) → Nat
  | [] => 0
  | x :: r => uptoBulkEntry x + uptoBulkEntries r
def uptoBulkEntry {H : Type} : Lit × DataW H → Nat
  | (.string bytes, d) => bytes.length + uptoBulk d + 1
  | (_, d) => uptoBulk d + 1
 end
def uptoSmall : (H : Type) → List (DataW H) → Bool := fun _ ds => decide (uptoBulkAll ds ≤ 1048576)
def OpenSpec.upto (s : _root_.Go.ChangeSpec) : _root_.Go.OpenSpec := { _root_.Go.OpenSpec.ofChange s with cond := some uptoSmall }

/-- 'hasplaw04.LogicJoins', WHERE WHAT IT READS IS OF BULK AT MOST 1048576: true; the input reads as it did. -/
def logicJoinsUptoRow : OpenClaim := { program := "ytblbdepklmlcoaadoor", sum := "745538eefe771fbc7d7b7c689118d9d30131912ab632ac527a67ed19b600466d", func := "hasp/hasplaw04.LogicJoins", spec := "logicJoins", unfollowed := true, recurses := true, named := ["hasp/logic.no", "hasp/logic.unsure", "hasp/logic.yes"], apart := false, laid := [("hasp/logic.yes", laid_hasp_logic_yes), ("hasp/logic.no", laid_hasp_logic_no), ("hasp/logic.unsure", laid_hasp_logic_unsure)], narrowed := true }
def LogicJoinsUptoSaid : Prop := logicJoinsUptoRow.holds Tryd.pinned (OpenSpec.upto logicJoinsSpec)

/-- 'hasplaw04.LogicSieves', WHERE WHAT IT READS IS OF BULK AT MOST 1048576: true; the input reads as it did. -/
def logicSievesUptoRow : OpenClaim := { program := "ytblbdepklmlcoaadoor", sum := "745538eefe771fbc7d7b7c689118d9d30131912ab632ac527a67ed19b600466d", func := "hasp/hasplaw04.LogicSieves", spec := "logicSieves", unfollowed := true, recurses := true, named := ["hasp/logic.no", "hasp/logic.unsure", "hasp/logic.yes"], apart := false, laid := [("hasp/logic.yes", laid_hasp_logic_yes), ("hasp/logic.no", laid_hasp_logic_no), ("hasp/logic.unsure", laid_hasp_logic_unsure)], narrowed := true }
def LogicSievesUptoSaid : Prop := logicSievesUptoRow.holds Tryd.pinned (OpenSpec.upto logicSievesSpec)

/-- 'hasplaw04.LogicTurns', WHERE WHAT IT READS IS OF BULK AT MOST 1048576: true; the input reads as it did. -/
def logicTurnsUptoRow : OpenClaim := { program := "ytblbdepklmlcoaadoor", sum := "745538eefe771fbc7d7b7c689118d9d30131912ab632ac527a67ed19b600466d", func := "hasp/hasplaw04.LogicTurns", spec := "logicTurns", unfollowed := true, recurses := true, named := ["hasp/logic.no", "hasp/logic.unsure", "hasp/logic.yes"], apart := false, laid := [("hasp/logic.yes", laid_hasp_logic_yes), ("hasp/logic.no", laid_hasp_logic_no), ("hasp/logic.unsure", laid_hasp_logic_unsure)], narrowed := true }
def LogicTurnsUptoSaid : Prop := logicTurnsUptoRow.holds Tryd.pinned (OpenSpec.upto logicTurnsSpec)

/-- 'hasplaw04.LogicOrder', WHERE WHAT IT READS IS OF BULK AT MOST 1048576: true; the input reads as it did. -/
def logicOrderUptoRow : OpenClaim := { program := "ytblbdepklmlcoaadoor", sum := "745538eefe771fbc7d7b7c689118d9d30131912ab632ac527a67ed19b600466d", func := "hasp/hasplaw04.LogicOrder", spec := "logicOrder", unfollowed := true, recurses := true, named := ["hasp/logic.no", "hasp/logic.unsure", "hasp/logic.yes"], apart := false, laid := [("hasp/logic.yes", laid_hasp_logic_yes), ("hasp/logic.no", laid_hasp_logic_no), ("hasp/logic.unsure", laid_hasp_logic_unsure)], narrowed := true }
def LogicOrderUptoSaid : Prop := logicOrderUptoRow.holds Tryd.pinned (OpenSpec.upto logicOrderSpec)

end Rows
end Go.Proofs.YtblbdepklmlcoaaDoor
