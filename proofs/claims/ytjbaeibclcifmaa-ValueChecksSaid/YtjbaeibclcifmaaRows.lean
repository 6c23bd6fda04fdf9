/-
  No cell of these rows narrows 'for every input' (looked for: loops, veiled, ifaces, maps, wideKeys, modest, calm, conditions, laid).
  DERIVED. THE GIVEN ROWS OF THIS SEAT. 7 by the template 'for every input the law returns true; each argument reads behind the call as it read before'; 0 by the template 'total and deterministic' (their statements: YtjbaeibclcifmaaTotals.lean).
  GIVEN WITH THE SEED: the statements are not yours to turn. If you find one false, say at which input.
  Laid BY PROGRAM, IN A SANDBOX (cutbox-rows.mjs): the forced cells as the released guide's own fill.sh prints them over the translation 25417ee91ba060cc… (all of the seat's roots in one cut). By AI agents, Wed Nov 11 2026. No macro, syntax, notation, axiom, sorry.
-/
import Derived.Test.YtjbaeibclcifmaaChecked
import GoSem.Claim
import GoSem.ClaimJoined
import GoSem.ClaimMapViews
import Derived.JoinedTies
import Derived.KernelRfl
namespace Go.Proofs.Ytjbaeibclcifmaa
/- THE CELL 'sum', in the pinned program and in every row, IS THE sha256 OF THE DUMP (.gsa) THAT YtjbaeibclcifmaaProg.lean LOADS. Nothing in Lean hashes anything: it is a label: what it is worth is what the hold of that sum in a sandbox is worth. -/
noncomputable def Try.pinned : Pinned := { name := "ytjbaeibclcifmaa", sum := "25417ee91ba060cc118d34d15b6f156a6709319406fef2afc632da87d2bee889", checked := Try.checked }
namespace Rows
def none {H : Type} : Left H := { results := [], args := [] }

/-- 'hasplaw02.ValueNames': WHATEVER THE INPUT: true; the input reads as it did. -/
def valueNamesSpec : ChangeSpec := { name := "valueNames", fn := fun _ => fun
  | [] => { results := [.lit (.bool true)], args := [] }
  | _ => none }
def valueNamesRow : OpenClaim := { program := "ytjbaeibclcifmaa", sum := "25417ee91ba060cc118d34d15b6f156a6709319406fef2afc632da87d2bee889", func := "hasp/hasplaw02.ValueNames", spec := "valueNames", inPlace := ["math.Float64frombits"], unfollowed := true, recurses := true, apart := false }
def ValueNamesSaid : Prop := valueNamesRow.holds Try.pinned (OpenSpec.ofChange valueNamesSpec)

/-- ITS FALSE NEIGHBOUR: 'it returns false'. Refute it at one input. -/
def valueNamesWrong : ChangeSpec := { name := "valueNames", fn := fun _ => fun
  | [] => { results := [.lit (.bool false)], args := [] }
  | _ => none }
def ValueNamesWrongFalsely : Prop := valueNamesRow.holds Try.pinned (OpenSpec.ofChange valueNamesWrong)

/-- 'hasplaw02.ValueChecks': WHATEVER THE INPUT: true; the input reads as it did. -/
def valueChecksSpec : ChangeSpec := { name := "valueChecks", fn := fun _ => fun
  | [d] => { results := [.lit (.bool true)], args := [d] }
  | _ => none }
def valueChecksRow : OpenClaim := { program := "ytjbaeibclcifmaa", sum := "25417ee91ba060cc118d34d15b6f156a6709319406fef2afc632da87d2bee889", func := "hasp/hasplaw02.ValueChecks", spec := "valueChecks", inPlace := ["math.Float64frombits"], unfollowed := true, recurses := true, apart := false }
def ValueChecksSaid : Prop := valueChecksRow.holds Try.pinned (OpenSpec.ofChange valueChecksSpec)

/-- ITS FALSE NEIGHBOUR: 'it returns false'. Refute it at one input. -/
def valueChecksWrong : ChangeSpec := { name := "valueChecks", fn := fun _ => fun
  | [d] => { results := [.lit (.bool false)], args := [d] }
  | _ => none }
def ValueChecksWrongFalsely : Prop := valueChecksRow.holds Try.pinned (OpenSpec.ofChange valueChecksWrong)

/-- 'hasplaw02.ValueOrders': WHATEVER THE INPUT: true; the input reads as it did. -/
def valueOrdersSpec : ChangeSpec := { name := "valueOrders", fn := fun _ => fun
  | [d1, d2, d3] => { results := [.lit (.bool true)], args := [d1, d2, d3] }
  | _ => none }
def valueOrdersRow : OpenClaim := { program := "ytjbaeibclcifmaa", sum := "25417ee91ba060cc118d34d15b6f156a6709319406fef2afc632da87d2bee889", func := "hasp/hasplaw02.ValueOrders", spec := "valueOrders", inPlace := ["math.Float64frombits"], unfollowed := true, recurses := true, apart := false }
def ValueOrdersSaid : Prop := valueOrdersRow.holds Try.pinned (OpenSpec.ofChange valueOrdersSpec)

/-- ITS FALSE NEIGHBOUR: 'it returns false'. Refute it at one input. -/
def valueOrdersWrong : ChangeSpec := { name := "valueOrders", fn := fun _ => fun
  | [d1, d2, d3] => { results := [.lit (.bool false)], args := [d1, d2, d3] }
  | _ => none }
def ValueOrdersWrongFalsely : Prop := valueOrdersRow.holds Try.pinned (OpenSpec.ofChange valueOrdersWrong)

/-- 'hasplaw02.ValueRows': WHATEVER THE INPUT: true; the input reads as it did. -/
def valueRowsSpec : ChangeSpec := { name := "valueRows", fn := fun _ => fun
  | [d1, d2] => { results := [.lit (.bool true)], args := [d1, d2] }
  | _ => none }
def valueRowsRow : OpenClaim := { program := "ytjbaeibclcifmaa", sum := "25417ee91ba060cc118d34d15b6f156a6709319406fef2afc632da87d2bee889", func := "hasp/hasplaw02.ValueRows", spec := "valueRows", inPlace := ["math.Float64frombits"], unfollowed := true, recurses := true, apart := false }
def ValueRowsSaid : Prop := valueRowsRow.holds Try.pinned (OpenSpec.ofChange valueRowsSpec)

/-- ITS FALSE NEIGHBOUR: 'it returns false'. Refute it at one input. -/
def valueRowsWrong : ChangeSpec := { name := "valueRows", fn := fun _ => fun
  | [d1, d2] => { results := [.lit (.bool false)], args := [d1, d2] }
  | _ => none }
def ValueRowsWrongFalsely : Prop := valueRowsRow.holds Try.pinned (OpenSpec.ofChange valueRowsWrong)

/-- 'hasplaw02.ValueTruths': WHATEVER THE INPUT: true; the input reads as it did. -/
def valueTruthsSpec : ChangeSpec := { name := "valueTruths", fn := fun _ => fun
  | [d1, d2] => { results := [.lit (.bool true)], args := [d1, d2] }
  | _ => none }
def valueTruthsRow : OpenClaim := { program := "ytjbaeibclcifmaa", sum := "25417ee91ba060cc118d34d15b6f156a6709319406fef2afc632da87d2bee889", func := "hasp/hasplaw02.ValueTruths", spec := "valueTruths", inPlace := ["math.Float64frombits"], unfollowed := true, recurses := true, apart := false }
def ValueTruthsSaid : Prop := valueTruthsRow.holds Try.pinned (OpenSpec.ofChange valueTruthsSpec)

/-- ITS FALSE NEIGHBOUR: 'it returns false'. Refute it at one input. -/
def valueTruthsWrong : ChangeSpec := { name := "valueTruths", fn := fun _ => fun
  | [d1, d2] => { results := [.lit (.bool false)], args := [d1, d2] }
  | _ => none }
def ValueTruthsWrongFalsely : Prop := valueTruthsRow.holds Try.pinned (OpenSpec.ofChange valueTruthsWrong)

/-- 'hasplaw02.ValueOpposites': WHATEVER THE INPUT: true; the input reads as it did. -/
def valueOppositesSpec : ChangeSpec := { name := "valueOpposites", fn := fun _ => fun
  | [d1, d2] => { results := [.lit (.bool true)], args := [d1, d2] }
  | _ => none }
def valueOppositesRow : OpenClaim := { program := "ytjbaeibclcifmaa", sum := "25417ee91ba060cc118d34d15b6f156a6709319406fef2afc632da87d2bee889", func := "hasp/hasplaw02.ValueOpposites", spec := "valueOpposites", inPlace := ["math.Float64frombits"], unfollowed := true, recurses := true, apart := false }
def ValueOppositesSaid : Prop := valueOppositesRow.holds Try.pinned (OpenSpec.ofChange valueOppositesSpec)

/-- ITS FALSE NEIGHBOUR: 'it returns false'. Refute it at one input. -/
def valueOppositesWrong : ChangeSpec := { name := "valueOpposites", fn := fun _ => fun
  | [d1, d2] => { results := [.lit (.bool false)], args := [d1, d2] }
  | _ => none }
def ValueOppositesWrongFalsely : Prop := valueOppositesRow.holds Try.pinned (OpenSpec.ofChange valueOppositesWrong)

/-- 'hasplaw02.ValueChain': WHATEVER THE INPUT: true; the input reads as it did. -/
def valueChainSpec : ChangeSpec := { name := "valueChain", fn := fun _ => fun
  | [d1, d2, d3] => { results := [.lit (.bool true)], args := [d1, d2, d3] }
  | _ => none }
def valueChainRow : OpenClaim := { program := "ytjbaeibclcifmaa", sum := "25417ee91ba060cc118d34d15b6f156a6709319406fef2afc632da87d2bee889", func := "hasp/hasplaw02.ValueChain", spec := "valueChain", inPlace := ["math.Float64frombits"], unfollowed := true, recurses := true, apart := false }
def ValueChainSaid : Prop := valueChainRow.holds Try.pinned (OpenSpec.ofChange valueChainSpec)

/-- ITS FALSE NEIGHBOUR: 'it returns false'. Refute it at one input. -/
def valueChainWrong : ChangeSpec := { name := "valueChain", fn := fun _ => fun
  | [d1, d2, d3] => { results := [.lit (.bool false)], args := [d1, d2, d3] }
  | _ => none }
def ValueChainWrongFalsely : Prop := valueChainRow.holds Try.pinned (OpenSpec.ofChange valueChainWrong)

/- THE SECOND FORM. 'bulk': how many values and letters a reading holds, each counted each time it is reached (what is shared counts as often as it is met; a slice's spare places count too). A statement '..UptoSaid' is the law's where the arguments, and the package variables that the reading takes, are together of bulk at most 1048576: NARROWER than '..Said'. Prove '..Said' where nothing that the law and all that it calls make is longer than what came in: it says more and counts as full. Else prove '..UptoSaid'. A law counts once. -/
mutual
def uptoBulk {H : Type} : DataW H → Nat
  | .lit (.string bytes) => bytes.length + 1
  | .lit _ => 1
  | .nil => 1
  | .ptr d => uptoBulk d + 1
  | .slice elems spare => uptoBulkAll elems + uptoBulkAll spare + 1
  | .agg parts => uptoBulkAll parts + 1
  | .iface _ d => uptoBulk d + 1
  | .map entries => uptoBulkEntries entries + 1
  | .held _ => 1
def uptoBulkAll {H : Type} : List (DataW H) → Nat
  | [] => 0
  | d :: r => uptoBulk d + uptoBulkAll r
def uptoBulkEntries {H : Type} : List (Lit × DataW H) → Nat
  | [] => 0
  | x :: r => uptoBulkEntry x + uptoBulkEntries r
def uptoBulkEntry {H : Type} : Lit × DataW H → Nat
  | (.string bytes, d) => bytes.length + uptoBulk d + 1
  | (_, d) => uptoBulk d + 1
 end
def uptoSmall : (H : Type) → List (DataW H) → Bool := fun _ ds => decide (uptoBulkAll ds ≤ 1048576)
def OpenSpec.upto (s : _root_.Go.ChangeSpec) : _root_.Go.OpenSpec := { _root_.Go.OpenSpec.ofChange s with cond := some uptoSmall }

/-- 'hasplaw02.ValueNames', WHERE WHAT IT READS IS OF BULK AT MOST 1048576: true; the input reads as it did. -/
def valueNamesUptoRow : OpenClaim := { program := "ytjbaeibclcifmaa", sum := "25417ee91ba060cc118d34d15b6f156a6709319406fef2afc632da87d2bee889", func := "hasp/hasplaw02.ValueNames", spec := "valueNames", inPlace := ["math.Float64frombits"], unfollowed := true, recurses := true, apart := false, narrowed := true }
def ValueNamesUptoSaid : Prop := valueNamesUptoRow.holds Try.pinned (OpenSpec.upto valueNamesSpec)

/-- 'hasplaw02.ValueChecks', WHERE WHAT IT READS IS OF BULK AT MOST 1048576: true; the input reads as it did. -/
def valueChecksUptoRow : OpenClaim := { program := "ytjbaeibclcifmaa", sum := "25417ee91ba060cc118d34d15b6f156a6709319406fef2afc632da87d2bee889", func := "hasp/hasplaw02.ValueChecks", spec := "valueChecks", inPlace := ["math.Float64frombits"], unfollowed := true, recurses := true, apart := false, narrowed := true }
def ValueChecksUptoSaid : Prop := valueChecksUptoRow.holds Try.pinned (OpenSpec.upto valueChecksSpec)

/-- 'hasplaw02.ValueOrders', WHERE WHAT IT READS IS OF BULK AT MOST 1048576: true; the input reads as it did. -/
def valueOrdersUptoRow : OpenClaim := { program := "ytjbaeibclcifmaa", sum := "25417ee91ba060cc118d34d15b6f156a6709319406fef2afc632da87d2bee889", func := "hasp/hasplaw02.ValueOrders", spec := "valueOrders", inPlace := ["math.Float64frombits"], unfollowed := true, recurses := true, apart := false, narrowed := true }
def ValueOrdersUptoSaid : Prop := valueOrdersUptoRow.holds Try.pinned (OpenSpec.upto valueOrdersSpec)

/-- 'hasplaw02.ValueRows', WHERE WHAT IT READS IS OF BULK AT MOST 1048576: true; the input reads as it did. -/
def valueRowsUptoRow : OpenClaim := { program := "ytjbaeibclcifmaa", sum := "25417ee91ba060cc118d34d15b6f156a6709319406fef2afc632da87d2bee889", func := "hasp/hasplaw02.ValueRows", spec := "valueRows", inPlace := ["math.Float64frombits"], unfollowed := true, recurses := true, apart := false, narrowed := true }
def ValueRowsUptoSaid : Prop := valueRowsUptoRow.holds Try.pinned (OpenSpec.upto valueRowsSpec)

/-- 'hasplaw02.ValueTruths', WHERE WHAT IT READS IS OF BULK AT MOST 1048576: true; the input reads as it did. -/
def valueTruthsUptoRow : OpenClaim := { program := "ytjbaeibclcifmaa", sum := "25417ee91ba060cc118d34d15b6f156a6709319406fef2afc632da87d2bee889", func := "hasp/hasplaw02.ValueTruths", spec := "valueTruths", inPlace := ["math.Float64frombits"], unfollowed := true, recurses := true, apart := false, narrowed := true }
def ValueTruthsUptoSaid : Prop := valueTruthsUptoRow.holds Try.pinned (OpenSpec.upto valueTruthsSpec)

/-- 'hasplaw02.ValueOpposites', WHERE WHAT IT READS IS OF BULK AT MOST 1048576: true; the input reads as it did. -/
def valueOppositesUptoRow : OpenClaim := { program := "ytjbaeibclcifmaa", sum := "25417ee91ba060cc118d34d15b6f156a6709319406fef2afc632da87d2bee889", func := "hasp/hasplaw02.ValueOpposites", spec := "valueOpposites", inPlace := ["math.Float64frombits"], unfollowed := true, recurses := true, apart := false, narrowed := true }
def ValueOppositesUptoSaid : Prop := valueOppositesUptoRow.holds Try.pinned (OpenSpec.upto valueOppositesSpec)

/-- 'hasplaw02.ValueChain', WHERE WHAT IT READS IS OF BULK AT MOST 1048576: true; the input reads as it did. -/
def valueChainUptoRow : OpenClaim := { program := "ytjbaeibclcifmaa", sum := "25417ee91ba060cc118d34d15b6f156a6709319406fef2afc632da87d2bee889", func := "hasp/hasplaw02.ValueChain", spec := "valueChain", inPlace := ["math.Float64frombits"], unfollowed := true, recurses := true, apart := false, narrowed := true }
def ValueChainUptoSaid : Prop := valueChainUptoRow.holds Try.pinned (OpenSpec.upto valueChainSpec)

end Rows
end Go.Proofs.Ytjbaeibclcifmaa
