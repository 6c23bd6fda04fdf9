/-
  No cell of these rows narrows 'for every input' (looked for: loops, veiled, ifaces, maps, wideKeys, modest, calm, conditions, laid).
  DERIVED. THE GIVEN ROWS OF THIS SEAT. 5 by the template 'for every input the law returns true; each argument reads behind the call as it read before'; 0 by the template 'total and deterministic' (their statements: YtnjobnkkpfaigaaTotals.lean).
  GIVEN WITH THE SEED: the statements are not yours to turn. If you find one false, say at which input.
  Laid BY PROGRAM, IN A SANDBOX (cutbox-rows.mjs): the forced cells as the released guide's own fill.sh prints them over the translation e911f3f4a021b1b4… (all of the seat's roots in one cut). By AI agents, Wed Nov 11 2026. No macro, syntax, notation, axiom, sorry.
-/
import Derived.Test.YtnjobnkkpfaigaaChecked
import GoSem.Claim
import GoSem.ClaimJoined
import GoSem.ClaimMapViews
import Derived.JoinedTies
import Derived.KernelRfl
namespace Go.Proofs.Ytnjobnkkpfaigaa
/- THE CELL 'sum', in the pinned program and in every row, IS THE sha256 OF THE DUMP (.gsa) THAT YtnjobnkkpfaigaaProg.lean LOADS. Nothing in Lean hashes anything: it is a label: what it is worth is what the hold of that sum in a sandbox is worth. -/
noncomputable def Try.pinned : Pinned := { name := "ytnjobnkkpfaigaa", sum := "e911f3f4a021b1b4b227fa77407af00aacf2d560c590e859cfaa73ab01bd58bc", checked := Try.checked }
namespace Rows
def none {H : Type} : Left H := { results := [], args := [] }

/-- 'hasplaw06.RowsEncodes': WHATEVER THE INPUT: true; the input reads as it did. -/
def rowsEncodesSpec : ChangeSpec := { name := "rowsEncodes", fn := fun _ => fun
  | [d1, d2] => { results := [.lit (.bool true)], args := [d1, d2] }
  | _ => none }
def rowsEncodesRow : OpenClaim := { program := "ytnjobnkkpfaigaa", sum := "e911f3f4a021b1b4b227fa77407af00aacf2d560c590e859cfaa73ab01bd58bc", func := "hasp/hasplaw06.RowsEncodes", spec := "rowsEncodes", inPlace := ["math.Float64frombits"], unfollowed := true, recurses := true, apart := false }
def RowsEncodesSaid : Prop := rowsEncodesRow.holds Try.pinned (OpenSpec.ofChange rowsEncodesSpec)

/-- ITS FALSE NEIGHBOUR: 'it returns false'. Refute it at one input. -/
def rowsEncodesWrong : ChangeSpec := { name := "rowsEncodes", fn := fun _ => fun
  | [d1, d2] => { results := [.lit (.bool false)], args := [d1, d2] }
  | _ => none }
def RowsEncodesWrongFalsely : Prop := rowsEncodesRow.holds Try.pinned (OpenSpec.ofChange rowsEncodesWrong)

/-- 'hasplaw06.RowsDecodes': WHATEVER THE INPUT: true; the input reads as it did. -/
def rowsDecodesSpec : ChangeSpec := { name := "rowsDecodes", fn := fun _ => fun
  | [d1, d2] => { results := [.lit (.bool true)], args := [d1, d2] }
  | _ => none }
def rowsDecodesRow : OpenClaim := { program := "ytnjobnkkpfaigaa", sum := "e911f3f4a021b1b4b227fa77407af00aacf2d560c590e859cfaa73ab01bd58bc", func := "hasp/hasplaw06.RowsDecodes", spec := "rowsDecodes", inPlace := ["math.Float64frombits"], unfollowed := true, recurses := true, apart := false }
def RowsDecodesSaid : Prop := rowsDecodesRow.holds Try.pinned (OpenSpec.ofChange rowsDecodesSpec)

/-- ITS FALSE NEIGHBOUR: 'it returns false'. Refute it at one input. -/
def rowsDecodesWrong : ChangeSpec := { name := "rowsDecodes", fn := fun _ => fun
  | [d1, d2] => { results := [.lit (.bool false)], args := [d1, d2] }
  | _ => none }
def RowsDecodesWrongFalsely : Prop := rowsDecodesRow.holds Try.pinned (OpenSpec.ofChange rowsDecodesWrong)

/-- 'hasplaw06.RowsThere': WHATEVER THE INPUT: true; the input reads as it did. -/
def rowsThereSpec : ChangeSpec := { name := "rowsThere", fn := fun _ => fun
  | [d1, d2, d3] => { results := [.lit (.bool true)], args := [d1, d2, d3] }
  | _ => none }
def rowsThereRow : OpenClaim := { program := "ytnjobnkkpfaigaa", sum := "e911f3f4a021b1b4b227fa77407af00aacf2d560c590e859cfaa73ab01bd58bc", func := "hasp/hasplaw06.RowsThere", spec := "rowsThere", inPlace := ["math.Float64frombits"], unfollowed := true, recurses := true, apart := false }
def RowsThereSaid : Prop := rowsThereRow.holds Try.pinned (OpenSpec.ofChange rowsThereSpec)

/-- ITS FALSE NEIGHBOUR: 'it returns false'. Refute it at one input. -/
def rowsThereWrong : ChangeSpec := { name := "rowsThere", fn := fun _ => fun
  | [d1, d2, d3] => { results := [.lit (.bool false)], args := [d1, d2, d3] }
  | _ => none }
def RowsThereWrongFalsely : Prop := rowsThereRow.holds Try.pinned (OpenSpec.ofChange rowsThereWrong)

/-- 'hasplaw06.RowsBack': WHATEVER THE INPUT: true; the input reads as it did. -/
def rowsBackSpec : ChangeSpec := { name := "rowsBack", fn := fun _ => fun
  | [d1, d2] => { results := [.lit (.bool true)], args := [d1, d2] }
  | _ => none }
def rowsBackRow : OpenClaim := { program := "ytnjobnkkpfaigaa", sum := "e911f3f4a021b1b4b227fa77407af00aacf2d560c590e859cfaa73ab01bd58bc", func := "hasp/hasplaw06.RowsBack", spec := "rowsBack", inPlace := ["math.Float64frombits"], unfollowed := true, recurses := true, apart := false }
def RowsBackSaid : Prop := rowsBackRow.holds Try.pinned (OpenSpec.ofChange rowsBackSpec)

/-- ITS FALSE NEIGHBOUR: 'it returns false'. Refute it at one input. -/
def rowsBackWrong : ChangeSpec := { name := "rowsBack", fn := fun _ => fun
  | [d1, d2] => { results := [.lit (.bool false)], args := [d1, d2] }
  | _ => none }
def RowsBackWrongFalsely : Prop := rowsBackRow.holds Try.pinned (OpenSpec.ofChange rowsBackWrong)

/-- 'hasplaw06.RowsNulls': WHATEVER THE INPUT: true; the input reads as it did. -/
def rowsNullsSpec : ChangeSpec := { name := "rowsNulls", fn := fun _ => fun
  | [d] => { results := [.lit (.bool true)], args := [d] }
  | _ => none }
def rowsNullsRow : OpenClaim := { program := "ytnjobnkkpfaigaa", sum := "e911f3f4a021b1b4b227fa77407af00aacf2d560c590e859cfaa73ab01bd58bc", func := "hasp/hasplaw06.RowsNulls", spec := "rowsNulls", inPlace := ["math.Float64frombits"], unfollowed := true, recurses := true, apart := false }
def RowsNullsSaid : Prop := rowsNullsRow.holds Try.pinned (OpenSpec.ofChange rowsNullsSpec)

/-- ITS FALSE NEIGHBOUR: 'it returns false'. Refute it at one input. -/
def rowsNullsWrong : ChangeSpec := { name := "rowsNulls", fn := fun _ => fun
  | [d] => { results := [.lit (.bool false)], args := [d] }
  | _ => none }
def RowsNullsWrongFalsely : Prop := rowsNullsRow.holds Try.pinned (OpenSpec.ofChange rowsNullsWrong)

/- THE SECOND FORM. 'bulk': how many values and letters a reading holds, each counted each time it is reached (what is shared counts as often as it is met; a slice's spare places count too). A statement '..UptoSaid' is the law's where the arguments, and the package variables that the reading takes, are together of bulk at most 1048576: NARROWER than '..Said'. Prove '..Said' where nothing that the law and all that it calls make is longer than what came in: it says more and counts as full. Else prove '..UptoSaid'. A law counts once. -/
mutual
def uptoBulk {H : Type} : DataW H → Nat
  | .lit (.string bytes) => bytes.length + 1
  | .lit _ => 1
  | .nil => 1
  | .ptr d => uptoBulk d + 1
  | .slice elems spare => uptoBulkAll elems + uptoBulkAll spare + 1
  | .agg parts => uptoBulkAll parts + 1
  | .iface _ d => uptoBulk d + 1
  | .map entries => uptoBulkEntries entries + 1
  | .held _ => 1
def uptoBulkAll {H : Type} : List (DataW H) → Nat
  | [] => 0
  | d :: r => uptoBulk d + uptoBulkAll r
def uptoBulkEntries {H : Type} : List (Lit × DataW H) → Nat
  | [] => 0
  | x :: r => uptoBulkEntry x + uptoBulkEntries r
def uptoBulkEntry {H : Type} : Lit × DataW H → Nat
  | (.string bytes, d) => bytes.length + uptoBulk d + 1
  | (_, d) => uptoBulk d + 1
 end
def uptoSmall : (H : Type) → List (DataW H) → Bool := fun _ ds => decide (uptoBulkAll ds ≤ 1048576)
def OpenSpec.upto (s : _root_.Go.ChangeSpec) : _root_.Go.OpenSpec := { _root_.Go.OpenSpec.ofChange s with cond := some uptoSmall }

/-- 'hasplaw06.RowsEncodes', WHERE WHAT IT READS IS OF BULK AT MOST 1048576: true; the input reads as it did. -/
def rowsEncodesUptoRow : OpenClaim := { program := "ytnjobnkkpfaigaa", sum := "e911f3f4a021b1b4b227fa77407af00aacf2d560c590e859cfaa73ab01bd58bc", func := "hasp/hasplaw06.RowsEncodes", spec := "rowsEncodes", inPlace := ["math.Float64frombits"], unfollowed := true, recurses := true, apart := false, narrowed := true }
def RowsEncodesUptoSaid : Prop := rowsEncodesUptoRow.holds Try.pinned (OpenSpec.upto rowsEncodesSpec)

/-- 'hasplaw06.RowsDecodes', WHERE WHAT IT READS IS OF BULK AT MOST 1048576: true; the input reads as it did. -/
def rowsDecodesUptoRow : OpenClaim := { program := "ytnjobnkkpfaigaa", sum := "e911f3f4a021b1b4b227fa77407af00aacf2d560c590e859cfaa73ab01bd58bc", func := "hasp/hasplaw06.RowsDecodes", spec := "rowsDecodes", inPlace := ["math.Float64frombits"], unfollowed := true, recurses := true, apart := false, narrowed := true }
def RowsDecodesUptoSaid : Prop := rowsDecodesUptoRow.holds Try.pinned (OpenSpec.upto rowsDecodesSpec)

/-- 'hasplaw06.RowsThere', WHERE WHAT IT READS IS OF BULK AT MOST 1048576: true; the input reads as it did. -/
def rowsThereUptoRow : OpenClaim := { program := "ytnjobnkkpfaigaa", sum := "e911f3f4a021b1b4b227fa77407af00aacf2d560c590e859cfaa73ab01bd58bc", func := "hasp/hasplaw06.RowsThere", spec := "rowsThere", inPlace := ["math.Float64frombits"], unfollowed := true, recurses := true, apart := false, narrowed := true }
def RowsThereUptoSaid : Prop := rowsThereUptoRow.holds Try.pinned (OpenSpec.upto rowsThereSpec)

/-- 'hasplaw06.RowsBack', WHERE WHAT IT READS IS OF BULK AT MOST 1048576: true; the input reads as it did. -/
def rowsBackUptoRow : OpenClaim := { program := "ytnjobnkkpfaigaa", sum := "e911f3f4a021b1b4b227fa77407af00aacf2d560c590e859cfaa73ab01bd58bc", func := "hasp/hasplaw06.RowsBack", spec := "rowsBack", inPlace := ["math.Float64frombits"], unfollowed := true, recurses := true, apart := false, narrowed := true }
def RowsBackUptoSaid : Prop := rowsBackUptoRow.holds Try.pinned (OpenSpec.upto rowsBackSpec)

/-- 'hasplaw06.RowsNulls', WHERE WHAT IT READS IS OF BULK AT MOST 1048576: true; the input reads as it did. -/
def rowsNullsUptoRow : OpenClaim := { program := "ytnjobnkkpfaigaa", sum := "e911f3f4a021b1b4b227fa77407af00aacf2d560c590e859cfaa73ab01bd58bc", func := "hasp/hasplaw06.RowsNulls", spec := "rowsNulls", inPlace := ["math.Float64frombits"], unfollowed := true, recurses := true, apart := false, narrowed := true }
def RowsNullsUptoSaid : Prop := rowsNullsUptoRow.holds Try.pinned (OpenSpec.upto rowsNullsSpec)

end Rows
end Go.Proofs.Ytnjobnkkpfaigaa
