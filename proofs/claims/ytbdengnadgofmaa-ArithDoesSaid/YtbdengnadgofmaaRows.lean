/-
  No cell of these rows narrows 'for every input' (looked for: loops, veiled, ifaces, maps, wideKeys, modest, calm, conditions, laid).
  DERIVED. THE GIVEN ROWS OF THIS SEAT. 6 by the template 'for every input the law returns true; each argument reads behind the call as it read before'; 0 by the template 'total and deterministic' (their statements: YtbdengnadgofmaaTotals.lean).
  GIVEN WITH THE SEED: the statements are not yours to turn. If you find one false, say at which input.
  Laid BY PROGRAM, IN A SANDBOX (cutbox-rows.mjs): the forced cells as the released guide's own fill.sh prints them over the translation ab2c829e87c30b7c… (all of the seat's roots in one cut). By AI agents, Wed Nov 11 2026. No macro, syntax, notation, axiom, sorry.
-/
import Derived.Test.YtbdengnadgofmaaChecked
import GoSem.Claim
import GoSem.ClaimJoined
import GoSem.ClaimMapViews
import Derived.JoinedTies
import Derived.KernelRfl
namespace Go.Proofs.Ytbdengnadgofmaa
/- THE CELL 'sum', in the pinned program and in every row, IS THE sha256 OF THE DUMP (.gsa) THAT YtbdengnadgofmaaProg.lean LOADS. Nothing in Lean hashes anything: it is a label: what it is worth is what the hold of that sum in a sandbox is worth. -/
noncomputable def Try.pinned : Pinned := { name := "ytbdengnadgofmaa", sum := "ab2c829e87c30b7c2bad115a90667af0ae723abbdb8f53a7c8b7dda3231035af", checked := Try.checked }
namespace Rows
def none {H : Type} : Left H := { results := [], args := [] }

/-- 'hasplaw03.ArithNames': WHATEVER THE INPUT: true; the input reads as it did. -/
def arithNamesSpec : ChangeSpec := { name := "arithNames", fn := fun _ => fun
  | [] => { results := [.lit (.bool true)], args := [] }
  | _ => none }
def arithNamesRow : OpenClaim := { program := "ytbdengnadgofmaa", sum := "ab2c829e87c30b7c2bad115a90667af0ae723abbdb8f53a7c8b7dda3231035af", func := "hasp/hasplaw03.ArithNames", spec := "arithNames", inPlace := ["math.Float64frombits", "math.archTrunc", "math.Float64bits"], apart := false }
def ArithNamesSaid : Prop := arithNamesRow.holds Try.pinned (OpenSpec.ofChange arithNamesSpec)

/-- ITS FALSE NEIGHBOUR: 'it returns false'. Refute it at one input. -/
def arithNamesWrong : ChangeSpec := { name := "arithNames", fn := fun _ => fun
  | [] => { results := [.lit (.bool false)], args := [] }
  | _ => none }
def ArithNamesWrongFalsely : Prop := arithNamesRow.holds Try.pinned (OpenSpec.ofChange arithNamesWrong)

/-- 'hasplaw03.ArithDoes': WHATEVER THE INPUT: true; the input reads as it did. -/
def arithDoesSpec : ChangeSpec := { name := "arithDoes", fn := fun _ => fun
  | [d1, d2] => { results := [.lit (.bool true)], args := [d1, d2] }
  | _ => none }
def arithDoesRow : OpenClaim := { program := "ytbdengnadgofmaa", sum := "ab2c829e87c30b7c2bad115a90667af0ae723abbdb8f53a7c8b7dda3231035af", func := "hasp/hasplaw03.ArithDoes", spec := "arithDoes", inPlace := ["math.Float64frombits", "math.archTrunc", "math.Float64bits"], recurses := true, apart := false }
def ArithDoesSaid : Prop := arithDoesRow.holds Try.pinned (OpenSpec.ofChange arithDoesSpec)

/-- ITS FALSE NEIGHBOUR: 'it returns false'. Refute it at one input. -/
def arithDoesWrong : ChangeSpec := { name := "arithDoes", fn := fun _ => fun
  | [d1, d2] => { results := [.lit (.bool false)], args := [d1, d2] }
  | _ => none }
def ArithDoesWrongFalsely : Prop := arithDoesRow.holds Try.pinned (OpenSpec.ofChange arithDoesWrong)

/-- 'hasplaw03.ArithTypes': WHATEVER THE INPUT: true; the input reads as it did. -/
def arithTypesSpec : ChangeSpec := { name := "arithTypes", fn := fun _ => fun
  | [d1, d2] => { results := [.lit (.bool true)], args := [d1, d2] }
  | _ => none }
def arithTypesRow : OpenClaim := { program := "ytbdengnadgofmaa", sum := "ab2c829e87c30b7c2bad115a90667af0ae723abbdb8f53a7c8b7dda3231035af", func := "hasp/hasplaw03.ArithTypes", spec := "arithTypes", inPlace := ["math.Float64frombits", "math.archTrunc", "math.Float64bits"], apart := false }
def ArithTypesSaid : Prop := arithTypesRow.holds Try.pinned (OpenSpec.ofChange arithTypesSpec)

/-- ITS FALSE NEIGHBOUR: 'it returns false'. Refute it at one input. -/
def arithTypesWrong : ChangeSpec := { name := "arithTypes", fn := fun _ => fun
  | [d1, d2] => { results := [.lit (.bool false)], args := [d1, d2] }
  | _ => none }
def ArithTypesWrongFalsely : Prop := arithTypesRow.holds Try.pinned (OpenSpec.ofChange arithTypesWrong)

/-- 'hasplaw03.ArithSound': WHATEVER THE INPUT: true; the input reads as it did. -/
def arithSoundSpec : ChangeSpec := { name := "arithSound", fn := fun _ => fun
  | [d1, d2] => { results := [.lit (.bool true)], args := [d1, d2] }
  | _ => none }
def arithSoundRow : OpenClaim := { program := "ytbdengnadgofmaa", sum := "ab2c829e87c30b7c2bad115a90667af0ae723abbdb8f53a7c8b7dda3231035af", func := "hasp/hasplaw03.ArithSound", spec := "arithSound", inPlace := ["math.Float64frombits", "math.archTrunc", "math.Float64bits"], apart := false }
def ArithSoundSaid : Prop := arithSoundRow.holds Try.pinned (OpenSpec.ofChange arithSoundSpec)

/-- ITS FALSE NEIGHBOUR: 'it returns false'. Refute it at one input. -/
def arithSoundWrong : ChangeSpec := { name := "arithSound", fn := fun _ => fun
  | [d1, d2] => { results := [.lit (.bool false)], args := [d1, d2] }
  | _ => none }
def ArithSoundWrongFalsely : Prop := arithSoundRow.holds Try.pinned (OpenSpec.ofChange arithSoundWrong)

/-- 'hasplaw03.ArithWhole': WHATEVER THE INPUT: true; the input reads as it did. -/
def arithWholeSpec : ChangeSpec := { name := "arithWhole", fn := fun _ => fun
  | [d1, d2] => { results := [.lit (.bool true)], args := [d1, d2] }
  | _ => none }
def arithWholeRow : OpenClaim := { program := "ytbdengnadgofmaa", sum := "ab2c829e87c30b7c2bad115a90667af0ae723abbdb8f53a7c8b7dda3231035af", func := "hasp/hasplaw03.ArithWhole", spec := "arithWhole", inPlace := ["math.Float64frombits", "math.archTrunc", "math.Float64bits"], apart := false }
def ArithWholeSaid : Prop := arithWholeRow.holds Try.pinned (OpenSpec.ofChange arithWholeSpec)

/-- ITS FALSE NEIGHBOUR: 'it returns false'. Refute it at one input. -/
def arithWholeWrong : ChangeSpec := { name := "arithWhole", fn := fun _ => fun
  | [d1, d2] => { results := [.lit (.bool false)], args := [d1, d2] }
  | _ => none }
def ArithWholeWrongFalsely : Prop := arithWholeRow.holds Try.pinned (OpenSpec.ofChange arithWholeWrong)

/-- 'hasplaw03.ArithOrder': WHATEVER THE INPUT: true; the input reads as it did. -/
def arithOrderSpec : ChangeSpec := { name := "arithOrder", fn := fun _ => fun
  | [d1, d2, d3] => { results := [.lit (.bool true)], args := [d1, d2, d3] }
  | _ => none }
def arithOrderRow : OpenClaim := { program := "ytbdengnadgofmaa", sum := "ab2c829e87c30b7c2bad115a90667af0ae723abbdb8f53a7c8b7dda3231035af", func := "hasp/hasplaw03.ArithOrder", spec := "arithOrder", inPlace := ["math.Float64frombits", "math.archTrunc", "math.Float64bits"], apart := false }
def ArithOrderSaid : Prop := arithOrderRow.holds Try.pinned (OpenSpec.ofChange arithOrderSpec)

/-- ITS FALSE NEIGHBOUR: 'it returns false'. Refute it at one input. -/
def arithOrderWrong : ChangeSpec := { name := "arithOrder", fn := fun _ => fun
  | [d1, d2, d3] => { results := [.lit (.bool false)], args := [d1, d2, d3] }
  | _ => none }
def ArithOrderWrongFalsely : Prop := arithOrderRow.holds Try.pinned (OpenSpec.ofChange arithOrderWrong)

/- THE SECOND FORM. 'bulk': how many values and letters a reading holds, each counted each time it is reached (what is shared counts as often as it is met; a slice's spare places count too). A statement '..UptoSaid' is the law's where the arguments, and the package variables that the reading takes, are together of bulk at most 1048576: NARROWER than '..Said'. Prove '..Said' where nothing that the law and all that it calls make is longer than what came in: it says more and counts as full. Else prove '..UptoSaid'. A law counts once. -/
mutual
def uptoBulk {H : Type} : DataW H → Nat
  | .lit (.string bytes) => bytes.length + 1
  | .lit _ => 1
  | .nil => 1
  | .ptr d => uptoBulk d + 1
  | .slice elems spare => uptoBulkAll elems + uptoBulkAll spare + 1
  | .agg parts => uptoBulkAll parts + 1
  | .iface _ d => uptoBulk d + 1
  | .map entries => uptoBulkEntries entries + 1
  | .held _ => 1
def uptoBulkAll {H : Type} : List (DataW H) → Nat
  | [] => 0
  | d :: r => uptoBulk d + uptoBulkAll r
def uptoBulkEntries {H : Type} : List (Lit × DataW H) → Nat
  | [] => 0
  | x :: r => uptoBulkEntry x + uptoBulkEntries r
def uptoBulkEntry {H : Type} : Lit × DataW H → Nat
  | (.string bytes, d) => bytes.length + uptoBulk d + 1
  | (_, d) => uptoBulk d + 1
 end
def uptoSmall : (H : Type) → List (DataW H) → Bool := fun _ ds => decide (uptoBulkAll ds ≤ 1048576)
def OpenSpec.upto (s : _root_.Go.ChangeSpec) : _root_.Go.OpenSpec := { _root_.Go.OpenSpec.ofChange s with cond := some uptoSmall }

/-- 'hasplaw03.ArithNames', WHERE WHAT IT READS IS OF BULK AT MOST 1048576: true; the input reads as it did. -/
def arithNamesUptoRow : OpenClaim := { program := "ytbdengnadgofmaa", sum := "ab2c829e87c30b7c2bad115a90667af0ae723abbdb8f53a7c8b7dda3231035af", func := "hasp/hasplaw03.ArithNames", spec := "arithNames", inPlace := ["math.Float64frombits", "math.archTrunc", "math.Float64bits"], apart := false, narrowed := true }
def ArithNamesUptoSaid : Prop := arithNamesUptoRow.holds Try.pinned (OpenSpec.upto arithNamesSpec)

/-- 'hasplaw03.ArithDoes', WHERE WHAT IT READS IS OF BULK AT MOST 1048576: true; the input reads as it did. -/
def arithDoesUptoRow : OpenClaim := { program := "ytbdengnadgofmaa", sum := "ab2c829e87c30b7c2bad115a90667af0ae723abbdb8f53a7c8b7dda3231035af", func := "hasp/hasplaw03.ArithDoes", spec := "arithDoes", inPlace := ["math.Float64frombits", "math.archTrunc", "math.Float64bits"], recurses := true, apart := false, narrowed := true }
def ArithDoesUptoSaid : Prop := arithDoesUptoRow.holds Try.pinned (OpenSpec.upto arithDoesSpec)

/-- 'hasplaw03.ArithTypes', WHERE WHAT IT READS IS OF BULK AT MOST 1048576: true; the input reads as it did. -/
def arithTypesUptoRow : OpenClaim := { program := "ytbdengnadgofmaa", sum := "ab2c829e87c30b7c2bad115a90667af0ae723abbdb8f53a7c8b7dda3231035af", func := "hasp/hasplaw03.ArithTypes", spec := "arithTypes", inPlace := ["math.Float64frombits", "math.archTrunc", "math.Float64bits"], apart := false, narrowed := true }
def ArithTypesUptoSaid : Prop := arithTypesUptoRow.holds Try.pinned (OpenSpec.upto arithTypesSpec)

/-- 'hasplaw03.ArithSound', WHERE WHAT IT READS IS OF BULK AT MOST 1048576: true; the input reads as it did. -/
def arithSoundUptoRow : OpenClaim := { program := "ytbdengnadgofmaa", sum := "ab2c829e87c30b7c2bad115a90667af0ae723abbdb8f53a7c8b7dda3231035af", func := "hasp/hasplaw03.ArithSound", spec := "arithSound", inPlace := ["math.Float64frombits", "math.archTrunc", "math.Float64bits"], apart := false, narrowed := true }
def ArithSoundUptoSaid : Prop := arithSoundUptoRow.holds Try.pinned (OpenSpec.upto arithSoundSpec)

/-- 'hasplaw03.ArithWhole', WHERE WHAT IT READS IS OF BULK AT MOST 1048576: true; the input reads as it did. -/
def arithWholeUptoRow : OpenClaim := { program := "ytbdengnadgofmaa", sum := "ab2c829e87c30b7c2bad115a90667af0ae723abbdb8f53a7c8b7dda3231035af", func := "hasp/hasplaw03.ArithWhole", spec := "arithWhole", inPlace := ["math.Float64frombits", "math.archTrunc", "math.Float64bits"], apart := false, narrowed := true }
def ArithWholeUptoSaid : Prop := arithWholeUptoRow.holds Try.pinned (OpenSpec.upto arithWholeSpec)

/-- 'hasplaw03.ArithOrder', WHERE WHAT IT READS IS OF BULK AT MOST 1048576: true; the input reads as it did. -/
def arithOrderUptoRow : OpenClaim := { program := "ytbdengnadgofmaa", sum := "ab2c829e87c30b7c2bad115a90667af0ae723abbdb8f53a7c8b7dda3231035af", func := "hasp/hasplaw03.ArithOrder", spec := "arithOrder", inPlace := ["math.Float64frombits", "math.archTrunc", "math.Float64bits"], apart := false, narrowed := true }
def ArithOrderUptoSaid : Prop := arithOrderUptoRow.holds Try.pinned (OpenSpec.upto arithOrderSpec)

end Rows
end Go.Proofs.Ytbdengnadgofmaa
