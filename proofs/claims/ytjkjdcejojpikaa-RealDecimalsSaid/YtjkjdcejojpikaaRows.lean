/-
  No cell of these rows narrows 'for every input' (looked for: loops, veiled, ifaces, maps, wideKeys, modest, calm, conditions, laid).
  DERIVED. THE GIVEN ROWS OF THIS SEAT. 8 by the template 'for every input the law returns true; each argument reads behind the call as it read before'; 0 by the template 'total and deterministic' (their statements: YtjkjdcejojpikaaTotals.lean).
  GIVEN WITH THE SEED: the statements are not yours to turn. If you find one false, say at which input.
  Laid BY PROGRAM, IN A SANDBOX (cutbox-rows.mjs): the forced cells as the released guide's own fill.sh prints them over the translation 3bb2e770e7b818da… (all of the seat's roots in one cut). By AI agents, Wed Nov 11 2026. No macro, syntax, notation, axiom, sorry.
-/
import Derived.Test.YtjkjdcejojpikaaChecked
import GoSem.Claim
import GoSem.ClaimJoined
import GoSem.ClaimMapViews
import Derived.JoinedTies
import Derived.KernelRfl
namespace Go.Proofs.Ytjkjdcejojpikaa
/- THE CELL 'sum', in the pinned program and in every row, IS THE sha256 OF THE DUMP (.gsa) THAT YtjkjdcejojpikaaProg.lean LOADS. Nothing in Lean hashes anything: it is a label: what it is worth is what the hold of that sum in a sandbox is worth. -/
noncomputable def Try.pinned : Pinned := { name := "ytjkjdcejojpikaa", sum := "3bb2e770e7b818dac009831eb764b4c8b1318d50c863ac5db0bd5ce7c317b51c", checked := Try.checked }
namespace Rows
def none {H : Type} : Left H := { results := [], args := [] }

/-- 'hasplaw01.RealNames': WHATEVER THE INPUT: true; the input reads as it did. -/
def realNamesSpec : ChangeSpec := { name := "realNames", fn := fun _ => fun
  | [] => { results := [.lit (.bool true)], args := [] }
  | _ => none }
def realNamesRow : OpenClaim := { program := "ytjkjdcejojpikaa", sum := "3bb2e770e7b818dac009831eb764b4c8b1318d50c863ac5db0bd5ce7c317b51c", func := "hasp/hasplaw01.RealNames", spec := "realNames", inPlace := ["math.Float64bits", "math.Float64frombits", "math.archTrunc"], apart := false }
def RealNamesSaid : Prop := realNamesRow.holds Try.pinned (OpenSpec.ofChange realNamesSpec)

/-- ITS FALSE NEIGHBOUR: 'it returns false'. Refute it at one input. -/
def realNamesWrong : ChangeSpec := { name := "realNames", fn := fun _ => fun
  | [] => { results := [.lit (.bool false)], args := [] }
  | _ => none }
def RealNamesWrongFalsely : Prop := realNamesRow.holds Try.pinned (OpenSpec.ofChange realNamesWrong)

/-- 'hasplaw01.RealOrders': WHATEVER THE INPUT: true; the input reads as it did. -/
def realOrdersSpec : ChangeSpec := { name := "realOrders", fn := fun _ => fun
  | [d1, d2] => { results := [.lit (.bool true)], args := [d1, d2] }
  | _ => none }
def realOrdersRow : OpenClaim := { program := "ytjkjdcejojpikaa", sum := "3bb2e770e7b818dac009831eb764b4c8b1318d50c863ac5db0bd5ce7c317b51c", func := "hasp/hasplaw01.RealOrders", spec := "realOrders", inPlace := ["math.Float64bits", "math.Float64frombits", "math.archTrunc"], apart := false }
def RealOrdersSaid : Prop := realOrdersRow.holds Try.pinned (OpenSpec.ofChange realOrdersSpec)

/-- ITS FALSE NEIGHBOUR: 'it returns false'. Refute it at one input. -/
def realOrdersWrong : ChangeSpec := { name := "realOrders", fn := fun _ => fun
  | [d1, d2] => { results := [.lit (.bool false)], args := [d1, d2] }
  | _ => none }
def RealOrdersWrongFalsely : Prop := realOrdersRow.holds Try.pinned (OpenSpec.ofChange realOrdersWrong)

/-- 'hasplaw01.RealChain': WHATEVER THE INPUT: true; the input reads as it did. -/
def realChainSpec : ChangeSpec := { name := "realChain", fn := fun _ => fun
  | [d1, d2, d3] => { results := [.lit (.bool true)], args := [d1, d2, d3] }
  | _ => none }
def realChainRow : OpenClaim := { program := "ytjkjdcejojpikaa", sum := "3bb2e770e7b818dac009831eb764b4c8b1318d50c863ac5db0bd5ce7c317b51c", func := "hasp/hasplaw01.RealChain", spec := "realChain", inPlace := ["math.Float64bits", "math.Float64frombits", "math.archTrunc"], apart := false }
def RealChainSaid : Prop := realChainRow.holds Try.pinned (OpenSpec.ofChange realChainSpec)

/-- ITS FALSE NEIGHBOUR: 'it returns false'. Refute it at one input. -/
def realChainWrong : ChangeSpec := { name := "realChain", fn := fun _ => fun
  | [d1, d2, d3] => { results := [.lit (.bool false)], args := [d1, d2, d3] }
  | _ => none }
def RealChainWrongFalsely : Prop := realChainRow.holds Try.pinned (OpenSpec.ofChange realChainWrong)

/-- 'hasplaw01.RealCounts': WHATEVER THE INPUT: true; the input reads as it did. -/
def realCountsSpec : ChangeSpec := { name := "realCounts", fn := fun _ => fun
  | [d1, d2] => { results := [.lit (.bool true)], args := [d1, d2] }
  | _ => none }
def realCountsRow : OpenClaim := { program := "ytjkjdcejojpikaa", sum := "3bb2e770e7b818dac009831eb764b4c8b1318d50c863ac5db0bd5ce7c317b51c", func := "hasp/hasplaw01.RealCounts", spec := "realCounts", inPlace := ["math.Float64bits", "math.Float64frombits", "math.archTrunc"], apart := false }
def RealCountsSaid : Prop := realCountsRow.holds Try.pinned (OpenSpec.ofChange realCountsSpec)

/-- ITS FALSE NEIGHBOUR: 'it returns false'. Refute it at one input. -/
def realCountsWrong : ChangeSpec := { name := "realCounts", fn := fun _ => fun
  | [d1, d2] => { results := [.lit (.bool false)], args := [d1, d2] }
  | _ => none }
def RealCountsWrongFalsely : Prop := realCountsRow.holds Try.pinned (OpenSpec.ofChange realCountsWrong)

/-- 'hasplaw01.RealLaws': WHATEVER THE INPUT: true; the input reads as it did. -/
def realLawsSpec : ChangeSpec := { name := "realLaws", fn := fun _ => fun
  | [d1, d2] => { results := [.lit (.bool true)], args := [d1, d2] }
  | _ => none }
def realLawsRow : OpenClaim := { program := "ytjkjdcejojpikaa", sum := "3bb2e770e7b818dac009831eb764b4c8b1318d50c863ac5db0bd5ce7c317b51c", func := "hasp/hasplaw01.RealLaws", spec := "realLaws", inPlace := ["math.Float64bits", "math.Float64frombits", "math.archTrunc"], apart := false }
def RealLawsSaid : Prop := realLawsRow.holds Try.pinned (OpenSpec.ofChange realLawsSpec)

/-- ITS FALSE NEIGHBOUR: 'it returns false'. Refute it at one input. -/
def realLawsWrong : ChangeSpec := { name := "realLaws", fn := fun _ => fun
  | [d1, d2] => { results := [.lit (.bool false)], args := [d1, d2] }
  | _ => none }
def RealLawsWrongFalsely : Prop := realLawsRow.holds Try.pinned (OpenSpec.ofChange realLawsWrong)

/-- 'hasplaw01.RealWhole': WHATEVER THE INPUT: true; the input reads as it did. -/
def realWholeSpec : ChangeSpec := { name := "realWhole", fn := fun _ => fun
  | [d1, d2] => { results := [.lit (.bool true)], args := [d1, d2] }
  | _ => none }
def realWholeRow : OpenClaim := { program := "ytjkjdcejojpikaa", sum := "3bb2e770e7b818dac009831eb764b4c8b1318d50c863ac5db0bd5ce7c317b51c", func := "hasp/hasplaw01.RealWhole", spec := "realWhole", inPlace := ["math.Float64bits", "math.Float64frombits", "math.archTrunc"], apart := false }
def RealWholeSaid : Prop := realWholeRow.holds Try.pinned (OpenSpec.ofChange realWholeSpec)

/-- ITS FALSE NEIGHBOUR: 'it returns false'. Refute it at one input. -/
def realWholeWrong : ChangeSpec := { name := "realWhole", fn := fun _ => fun
  | [d1, d2] => { results := [.lit (.bool false)], args := [d1, d2] }
  | _ => none }
def RealWholeWrongFalsely : Prop := realWholeRow.holds Try.pinned (OpenSpec.ofChange realWholeWrong)

/-- 'hasplaw01.RealDecimals': WHATEVER THE INPUT: true; the input reads as it did. -/
def realDecimalsSpec : ChangeSpec := { name := "realDecimals", fn := fun _ => fun
  | [d1, d2] => { results := [.lit (.bool true)], args := [d1, d2] }
  | _ => none }
def realDecimalsRow : OpenClaim := { program := "ytjkjdcejojpikaa", sum := "3bb2e770e7b818dac009831eb764b4c8b1318d50c863ac5db0bd5ce7c317b51c", func := "hasp/hasplaw01.RealDecimals", spec := "realDecimals", inPlace := ["math.Float64bits", "math.Float64frombits", "math.archTrunc"], apart := false }
def RealDecimalsSaid : Prop := realDecimalsRow.holds Try.pinned (OpenSpec.ofChange realDecimalsSpec)

/-- ITS FALSE NEIGHBOUR: 'it returns false'. Refute it at one input. -/
def realDecimalsWrong : ChangeSpec := { name := "realDecimals", fn := fun _ => fun
  | [d1, d2] => { results := [.lit (.bool false)], args := [d1, d2] }
  | _ => none }
def RealDecimalsWrongFalsely : Prop := realDecimalsRow.holds Try.pinned (OpenSpec.ofChange realDecimalsWrong)

/-- 'hasplaw01.RealScale': WHATEVER THE INPUT: true; the input reads as it did. -/
def realScaleSpec : ChangeSpec := { name := "realScale", fn := fun _ => fun
  | [d1, d2] => { results := [.lit (.bool true)], args := [d1, d2] }
  | _ => none }
def realScaleRow : OpenClaim := { program := "ytjkjdcejojpikaa", sum := "3bb2e770e7b818dac009831eb764b4c8b1318d50c863ac5db0bd5ce7c317b51c", func := "hasp/hasplaw01.RealScale", spec := "realScale", inPlace := ["math.Float64bits", "math.Float64frombits", "math.archTrunc"], apart := false }
def RealScaleSaid : Prop := realScaleRow.holds Try.pinned (OpenSpec.ofChange realScaleSpec)

/-- ITS FALSE NEIGHBOUR: 'it returns false'. Refute it at one input. -/
def realScaleWrong : ChangeSpec := { name := "realScale", fn := fun _ => fun
  | [d1, d2] => { results := [.lit (.bool false)], args := [d1, d2] }
  | _ => none }
def RealScaleWrongFalsely : Prop := realScaleRow.holds Try.pinned (OpenSpec.ofChange realScaleWrong)

/- THE SECOND FORM. 'bulk': how many values and letters a reading holds, each counted each time it is reached (what is shared counts as often as it is met; a slice's spare places count too). A statement '..UptoSaid' is the law's where the arguments, and the package variables that the reading takes, are together of bulk at most 1048576: NARROWER than '..Said'. Prove '..Said' where nothing that the law and all that it calls make is longer than what came in: it says more and counts as full. Else prove '..UptoSaid'. A law counts once. -/
mutual
def uptoBulk {H : Type} : DataW H → Nat
  | .lit (.string bytes) => bytes.length + 1
  | .lit _ => 1
  | .nil => 1
  | .ptr d => uptoBulk d + 1
  | .slice elems spare => uptoBulkAll elems + uptoBulkAll spare + 1
  | .agg parts => uptoBulkAll parts + 1
  | .iface _ d => uptoBulk d + 1
  | .map entries => uptoBulkEntries entries + 1
  | .held _ => 1
def uptoBulkAll {H : Type} : List (DataW H) → Nat
  | [] => 0
  | d :: r => uptoBulk d + uptoBulkAll r
def uptoBulkEntries {H : Type} : List (Lit × DataW H) → Nat
  | [] => 0
  | x :: r => uptoBulkEntry x + uptoBulkEntries r
def uptoBulkEntry {H : Type} : Lit × DataW H → Nat
  | (.string bytes, d) => bytes.length + uptoBulk d + 1
  | (_, d) => uptoBulk d + 1
 end
def uptoSmall : (H : Type) → List (DataW H) → Bool := fun _ ds => decide (uptoBulkAll ds ≤ 1048576)
def OpenSpec.upto (s : _root_.Go.ChangeSpec) : _root_.Go.OpenSpec := { _root_.Go.OpenSpec.ofChange s with cond := some uptoSmall }

/-- 'hasplaw01.RealNames', WHERE WHAT IT READS IS OF BULK AT MOST 1048576: true; the input reads as it did. -/
def realNamesUptoRow : OpenClaim := { program := "ytjkjdcejojpikaa", sum := "3bb2e770e7b818dac009831eb764b4c8b1318d50c863ac5db0bd5ce7c317b51c", func := "hasp/hasplaw01.RealNames", spec := "realNames", inPlace := ["math.Float64bits", "math.Float64frombits", "math.archTrunc"], apart := false, narrowed := true }
def RealNamesUptoSaid : Prop := realNamesUptoRow.holds Try.pinned (OpenSpec.upto realNamesSpec)

/-- 'hasplaw01.RealOrders', WHERE WHAT IT READS IS OF BULK AT MOST 1048576: true; the input reads as it did. -/
def realOrdersUptoRow : OpenClaim := { program := "ytjkjdcejojpikaa", sum := "3bb2e770e7b818dac009831eb764b4c8b1318d50c863ac5db0bd5ce7c317b51c", func := "hasp/hasplaw01.RealOrders", spec := "realOrders", inPlace := ["math.Float64bits", "math.Float64frombits", "math.archTrunc"], apart := false, narrowed := true }
def RealOrdersUptoSaid : Prop := realOrdersUptoRow.holds Try.pinned (OpenSpec.upto realOrdersSpec)

/-- 'hasplaw01.RealChain', WHERE WHAT IT READS IS OF BULK AT MOST 1048576: true; the input reads as it did. -/
def realChainUptoRow : OpenClaim := { program := "ytjkjdcejojpikaa", sum := "3bb2e770e7b818dac009831eb764b4c8b1318d50c863ac5db0bd5ce7c317b51c", func := "hasp/hasplaw01.RealChain", spec := "realChain", inPlace := ["math.Float64bits", "math.Float64frombits", "math.archTrunc"], apart := false, narrowed := true }
def RealChainUptoSaid : Prop := realChainUptoRow.holds Try.pinned (OpenSpec.upto realChainSpec)

/-- 'hasplaw01.RealCounts', WHERE WHAT IT READS IS OF BULK AT MOST 1048576: true; the input reads as it did. -/
def realCountsUptoRow : OpenClaim := { program := "ytjkjdcejojpikaa", sum := "3bb2e770e7b818dac009831eb764b4c8b1318d50c863ac5db0bd5ce7c317b51c", func := "hasp/hasplaw01.RealCounts", spec := "realCounts", inPlace := ["math.Float64bits", "math.Float64frombits", "math.archTrunc"], apart := false, narrowed := true }
def RealCountsUptoSaid : Prop := realCountsUptoRow.holds Try.pinned (OpenSpec.upto realCountsSpec)

/-- 'hasplaw01.RealLaws', WHERE WHAT IT READS IS OF BULK AT MOST 1048576: true; the input reads as it did. -/
def realLawsUptoRow : OpenClaim := { program := "ytjkjdcejojpikaa", sum := "3bb2e770e7b818dac009831eb764b4c8b1318d50c863ac5db0bd5ce7c317b51c", func := "hasp/hasplaw01.RealLaws", spec := "realLaws", inPlace := ["math.Float64bits", "math.Float64frombits", "math.archTrunc"], apart := false, narrowed := true }
def RealLawsUptoSaid : Prop := realLawsUptoRow.holds Try.pinned (OpenSpec.upto realLawsSpec)

/-- 'hasplaw01.RealWhole', WHERE WHAT IT READS IS OF BULK AT MOST 1048576: true; the input reads as it did. -/
def realWholeUptoRow : OpenClaim := { program := "ytjkjdcejojpikaa", sum := "3bb2e770e7b818dac009831eb764b4c8b1318d50c863ac5db0bd5ce7c317b51c", func := "hasp/hasplaw01.RealWhole", spec := "realWhole", inPlace := ["math.Float64bits", "math.Float64frombits", "math.archTrunc"], apart := false, narrowed := true }
def RealWholeUptoSaid : Prop := realWholeUptoRow.holds Try.pinned (OpenSpec.upto realWholeSpec)

/-- 'hasplaw01.RealDecimals', WHERE WHAT IT READS IS OF BULK AT MOST 1048576: true; the input reads as it did. -/
def realDecimalsUptoRow : OpenClaim := { program := "ytjkjdcejojpikaa", sum := "3bb2e770e7b818dac009831eb764b4c8b1318d50c863ac5db0bd5ce7c317b51c", func := "hasp/hasplaw01.RealDecimals", spec := "realDecimals", inPlace := ["math.Float64bits", "math.Float64frombits", "math.archTrunc"], apart := false, narrowed := true }
def RealDecimalsUptoSaid : Prop := realDecimalsUptoRow.holds Try.pinned (OpenSpec.upto realDecimalsSpec)

/-- 'hasplaw01.RealScale', WHERE WHAT IT READS IS OF BULK AT MOST 1048576: true; the input reads as it did. -/
def realScaleUptoRow : OpenClaim := { program := "ytjkjdcejojpikaa", sum := "3bb2e770e7b818dac009831eb764b4c8b1318d50c863ac5db0bd5ce7c317b51c", func := "hasp/hasplaw01.RealScale", spec := "realScale", inPlace := ["math.Float64bits", "math.Float64frombits", "math.archTrunc"], apart := false, narrowed := true }
def RealScaleUptoSaid : Prop := realScaleUptoRow.holds Try.pinned (OpenSpec.upto realScaleSpec)

end Rows
end Go.Proofs.Ytjkjdcejojpikaa
