/-
  NARROWER THAN 'FOR EVERY INPUT', by the rows' own cells (each row's printed sentence says how): KeysEncodes: laid · KeysDecodes: laid · KeysThere: laid · KeysBack: laid · KeysOrders: laid · KeysBehind: laid · KeysJoin: laid.
  DERIVED. THE GIVEN ROWS OF THIS SEAT. 7 by the template 'for every input the law returns true; each argument reads behind the call as it read before'; 0 by the template 'total and deterministic' (their statements: YthoemenchimggaaDoorTotals.lean).
  GIVEN WITH THE SEED: the statements are not yours to turn. If you find one false, say at which input.
  Laid BY PROGRAM, IN A SANDBOX (cutbox-rows.mjs): the forced cells as the released guide's own fill.sh prints them over the translation e0c4e244ad5c6916… (all of the seat's roots in one cut). By AI agents, Wed Nov 11 2026. No macro, syntax, notation, axiom, sorry.
-/
import Derived.Test.YthoemenchimggaaDoorChecked
import GoSem.PinnedTables
import GoSem.Claim
import GoSem.ClaimJoined
import GoSem.ClaimMapViews
import Derived.JoinedTies
import Derived.KernelRfl
namespace Go.Proofs.YthoemenchimggaaDoor
/- THE CELL 'sum', in the pinned program and in every row, IS THE sha256 OF THE DUMP (.gsa) THAT YthoemenchimggaaDoorProg.lean LOADS. Nothing in Lean hashes anything: it is a label: what it is worth is what the hold of that sum in a sandbox is worth. -/
noncomputable def Tryd.pinned : Pinned := { name := "ythoemenchimggaadoor", sum := "e0c4e244ad5c6916871f074d0a646ef924983f2462942eca20e09cfd0f0d8fe5", checked := Tryd.checked }
namespace Rows
def none {H : Type} : Left H := { results := [], args := [] }

/- WHAT THE LISTED PACKAGE-LEVEL VARIABLES READ AS WHEN THE CALL BEGINS. Each datum BY PROGRAM (the guide's laid-datum.mjs) off the statement by which the dump's own 'gosem.cut.vars' lays the variable. In a bare row this is a premise. The card (YthoemenchimggaaDoorCards.lean) ties it to the program's text. -/
def laid_unicode_utf8_acceptRanges {H : Type} : DataW H := .agg [.agg [.lit (.int .u8 128), .lit (.int .u8 191)], .agg [.lit (.int .u8 160), .lit (.int .u8 191)], .agg [.lit (.int .u8 128), .lit (.int .u8 159)], .agg [.lit (.int .u8 144), .lit (.int .u8 191)], .agg [.lit (.int .u8 128), .lit (.int .u8 143)], .agg [.lit (.int .u8 0), .lit (.int .u8 0)], .agg [.lit (.int .u8 0), .lit (.int .u8 0)], .agg [.lit (.int .u8 0), .lit (.int .u8 0)], .agg [.lit (.int .u8 0), .lit (.int .u8 0)], .agg [.lit (.int .u8 0), .lit (.int .u8 0)], .agg [.lit (.int .u8 0), .lit (.int .u8 0)], .agg [.lit (.int .u8 0), .lit (.int .u8 0)], .agg [.lit (.int .u8 0), .lit (.int .u8 0)], .agg [.lit (.int .u8 0), .lit (.int .u8 0)], .agg [.lit (.int .u8 0), .lit (.int .u8 0)], .agg [.lit (.int .u8 0), .lit (.int .u8 0)]]
/-- One of Go's own tables, pinned by name: the form's constant. -/
def laid_unicode_utf8_first : DataW Unit := Go.Pinned.utf8First

/-- 'hasplaw05.KeysEncodes': WHATEVER THE INPUT: true; the input reads as it did. -/
def keysEncodesSpec : ChangeSpec := { name := "keysEncodes", fn := fun _ => fun
  | [d] => { results := [.lit (.bool true)], args := [d] }
  | _ => none }
def keysEncodesRow : OpenClaim := { program := "ythoemenchimggaadoor", sum := "e0c4e244ad5c6916871f074d0a646ef924983f2462942eca20e09cfd0f0d8fe5", func := "hasp/hasplaw05.KeysEncodes", spec := "keysEncodes", inPlace := ["internal/bytealg.Count", "internal/bytealg.IndexByte", "internal/bytealg.Index", "math.Float64frombits"], unfollowed := true, recurses := true, named := ["internal/bytealg.MaxLen", "unicode/utf8.first", "unicode/utf8.acceptRanges"], apart := false, laid := [("unicode/utf8.acceptRanges", laid_unicode_utf8_acceptRanges), ("unicode/utf8.first", laid_unicode_utf8_first)] }
def KeysEncodesSaid : Prop := keysEncodesRow.holds Tryd.pinned (OpenSpec.ofChange keysEncodesSpec)

/-- ITS FALSE NEIGHBOUR: 'it returns false'. Refute it at one input. -/
def keysEncodesWrong : ChangeSpec := { name := "keysEncodes", fn := fun _ => fun
  | [d] => { results := [.lit (.bool false)], args := [d] }
  | _ => none }
def KeysEncodesWrongFalsely : Prop := keysEncodesRow.holds Tryd.pinned (OpenSpec.ofChange keysEncodesWrong)

/-- 'hasplaw05.KeysDecodes': WHATEVER THE INPUT: true; the input reads as it did. -/
def keysDecodesSpec : ChangeSpec := { name := "keysDecodes", fn := fun _ => fun
  | [d] => { results := [.lit (.bool true)], args := [d] }
  | _ => none }
def keysDecodesRow : OpenClaim := { program := "ythoemenchimggaadoor", sum := "e0c4e244ad5c6916871f074d0a646ef924983f2462942eca20e09cfd0f0d8fe5", func := "hasp/hasplaw05.KeysDecodes", spec := "keysDecodes", inPlace := ["internal/bytealg.Count", "internal/bytealg.IndexByte", "internal/bytealg.Index", "math.Float64frombits"], unfollowed := true, recurses := true, named := ["internal/bytealg.MaxLen", "unicode/utf8.first", "unicode/utf8.acceptRanges"], apart := false, laid := [("unicode/utf8.acceptRanges", laid_unicode_utf8_acceptRanges), ("unicode/utf8.first", laid_unicode_utf8_first)] }
def KeysDecodesSaid : Prop := keysDecodesRow.holds Tryd.pinned (OpenSpec.ofChange keysDecodesSpec)

/-- ITS FALSE NEIGHBOUR: 'it returns false'. Refute it at one input. -/
def keysDecodesWrong : ChangeSpec := { name := "keysDecodes", fn := fun _ => fun
  | [d] => { results := [.lit (.bool false)], args := [d] }
  | _ => none }
def KeysDecodesWrongFalsely : Prop := keysDecodesRow.holds Tryd.pinned (OpenSpec.ofChange keysDecodesWrong)

/-- 'hasplaw05.KeysThere': WHATEVER THE INPUT: true; the input reads as it did. -/
def keysThereSpec : ChangeSpec := { name := "keysThere", fn := fun _ => fun
  | [d] => { results := [.lit (.bool true)], args := [d] }
  | _ => none }
def keysThereRow : OpenClaim := { program := "ythoemenchimggaadoor", sum := "e0c4e244ad5c6916871f074d0a646ef924983f2462942eca20e09cfd0f0d8fe5", func := "hasp/hasplaw05.KeysThere", spec := "keysThere", inPlace := ["internal/bytealg.Count", "internal/bytealg.IndexByte", "internal/bytealg.Index", "math.Float64frombits"], unfollowed := true, recurses := true, named := ["internal/bytealg.MaxLen", "unicode/utf8.first", "unicode/utf8.acceptRanges"], apart := false, laid := [("unicode/utf8.acceptRanges", laid_unicode_utf8_acceptRanges), ("unicode/utf8.first", laid_unicode_utf8_first)] }
def KeysThereSaid : Prop := keysThereRow.holds Tryd.pinned (OpenSpec.ofChange keysThereSpec)

/-- ITS FALSE NEIGHBOUR: 'it returns false'. Refute it at one input. -/
def keysThereWrong : ChangeSpec := { name := "keysThere", fn := fun _ => fun
  | [d] => { results := [.lit (.bool false)], args := [d] }
  | _ => none }
def KeysThereWrongFalsely : Prop := keysThereRow.holds Tryd.pinned (OpenSpec.ofChange keysThereWrong)

/-- 'hasplaw05.KeysBack': WHATEVER THE INPUT: true; the input reads as it did. -/
def keysBackSpec : ChangeSpec := { name := "keysBack", fn := fun _ => fun
  | [d] => { results := [.lit (.bool true)], args := [d] }
  | _ => none }
def keysBackRow : OpenClaim := { program := "ythoemenchimggaadoor", sum := "e0c4e244ad5c6916871f074d0a646ef924983f2462942eca20e09cfd0f0d8fe5", func := "hasp/hasplaw05.KeysBack", spec := "keysBack", inPlace := ["internal/bytealg.Count", "internal/bytealg.IndexByte", "internal/bytealg.Index", "math.Float64frombits"], unfollowed := true, recurses := true, named := ["internal/bytealg.MaxLen", "unicode/utf8.first", "unicode/utf8.acceptRanges"], apart := false, laid := [("unicode/utf8.acceptRanges", laid_unicode_utf8_acceptRanges), ("unicode/utf8.first", laid_unicode_utf8_first)] }
def KeysBackSaid : Prop := keysBackRow.holds Tryd.pinned (OpenSpec.ofChange keysBackSpec)

/-- ITS FALSE NEIGHBOUR: 'it returns false'. Refute it at one input. -/
def keysBackWrong : ChangeSpec := { name := "keysBack", fn := fun _ => fun
  | [d] => { results := [.lit (.bool false)], args := [d] }
  | _ => none }
def KeysBackWrongFalsely : Prop := keysBackRow.holds Tryd.pinned (OpenSpec.ofChange keysBackWrong)

/-- 'hasplaw05.KeysOrders': WHATEVER THE INPUT: true; the input reads as it did. -/
def keysOrdersSpec : ChangeSpec := { name := "keysOrders", fn := fun _ => fun
  | [d1, d2] => { results := [.lit (.bool true)], args := [d1, d2] }
  | _ => none }
def keysOrdersRow : OpenClaim := { program := "ythoemenchimggaadoor", sum := "e0c4e244ad5c6916871f074d0a646ef924983f2462942eca20e09cfd0f0d8fe5", func := "hasp/hasplaw05.KeysOrders", spec := "keysOrders", inPlace := ["internal/bytealg.Count", "internal/bytealg.IndexByte", "internal/bytealg.Index", "math.Float64frombits"], unfollowed := true, recurses := true, named := ["internal/bytealg.MaxLen", "unicode/utf8.first", "unicode/utf8.acceptRanges"], apart := false, laid := [("unicode/utf8.acceptRanges", laid_unicode_utf8_acceptRanges), ("unicode/utf8.first", laid_unicode_utf8_first)] }
def KeysOrdersSaid : Prop := keysOrdersRow.holds Tryd.pinned (OpenSpec.ofChange keysOrdersSpec)

/-- ITS FALSE NEIGHBOUR: 'it returns false'. Refute it at one input. -/
def keysOrdersWrong : ChangeSpec := { name := "keysOrders", fn := fun _ => fun
  | [d1, d2] => { results := [.lit (.bool false)], args := [d1, d2] }
  | _ => none }
def KeysOrdersWrongFalsely : Prop := keysOrdersRow.holds Tryd.pinned (OpenSpec.ofChange keysOrdersWrong)

/-- 'hasplaw05.KeysBehind': WHATEVER THE INPUT: true; the input reads as it did. -/
def keysBehindSpec : ChangeSpec := { name := "keysBehind", fn := fun _ => fun
  | [d1, d2, d3] => { results := [.lit (.bool true)], args := [d1, d2, d3] }
  | _ => none }
def keysBehindRow : OpenClaim := { program := "ythoemenchimggaadoor", sum := "e0c4e244ad5c6916871f074d0a646ef924983f2462942eca20e09cfd0f0d8fe5", func := "hasp/hasplaw05.KeysBehind", spec := "keysBehind", inPlace := ["internal/bytealg.Count", "internal/bytealg.IndexByte", "internal/bytealg.Index", "math.Float64frombits"], unfollowed := true, recurses := true, named := ["internal/bytealg.MaxLen", "unicode/utf8.first", "unicode/utf8.acceptRanges"], apart := false, laid := [("unicode/utf8.acceptRanges", laid_unicode_utf8_acceptRanges), ("unicode/utf8.first", laid_unicode_utf8_first)] }
def KeysBehindSaid : Prop := keysBehindRow.holds Tryd.pinned (OpenSpec.ofChange keysBehindSpec)

/-- ITS FALSE NEIGHBOUR: 'it returns false'. Refute it at one input. -/
def keysBehindWrong : ChangeSpec := { name := "keysBehind", fn := fun _ => fun
  | [d1, d2, d3] => { results := [.lit (.bool false)], args := [d1, d2, d3] }
  | _ => none }
def KeysBehindWrongFalsely : Prop := keysBehindRow.holds Tryd.pinned (OpenSpec.ofChange keysBehindWrong)

/-- 'hasplaw05.KeysJoin': WHATEVER THE INPUT: true; the input reads as it did. -/
def keysJoinSpec : ChangeSpec := { name := "keysJoin", fn := fun _ => fun
  | [d1, d2] => { results := [.lit (.bool true)], args := [d1, d2] }
  | _ => none }
def keysJoinRow : OpenClaim := { program := "ythoemenchimggaadoor", sum := "e0c4e244ad5c6916871f074d0a646ef924983f2462942eca20e09cfd0f0d8fe5", func := "hasp/hasplaw05.KeysJoin", spec := "keysJoin", inPlace := ["internal/bytealg.Count", "internal/bytealg.IndexByte", "internal/bytealg.Index", "math.Float64frombits"], unfollowed := true, recurses := true, named := ["internal/bytealg.MaxLen", "unicode/utf8.first", "unicode/utf8.acceptRanges"], apart := false, laid := [("unicode/utf8.acceptRanges", laid_unicode_utf8_acceptRanges), ("unicode/utf8.first", laid_unicode_utf8_first)] }
def KeysJoinSaid : Prop := keysJoinRow.holds Tryd.pinned (OpenSpec.ofChange keysJoinSpec)

/-- ITS FALSE NEIGHBOUR: 'it returns false'. Refute it at one input. -/
def keysJoinWrong : ChangeSpec := { name := "keysJoin", fn := fun _ => fun
  | [d1, d2] => { results := [.lit (.bool false)], args := [d1, d2] }
  | _ => none }
def KeysJoinWrongFalsely : Prop := keysJoinRow.holds Tryd.pinned (OpenSpec.ofChange keysJoinWrong)

/- THE SECOND FORM. 'bulk': how many values and letters a reading holds, each counted each time it is reached (what is shared counts as often as it is met; a slice's spare places count too). A statement '..UptoSaid' is the law's where the arguments, and the package variables that the reading takes, are together of bulk at most 1048576: NARROWER than '..Said'. Prove '..Said' where nothing that the law and all that it calls make is longer than what came in: it says more and counts as full. Else prove '..UptoSaid'. A law counts once. -/
mutual
def uptoBulk {H : Type} : DataW H → Nat
  | .lit (.string bytes) => bytes.length + 1
  | .lit _ => 1
  | .nil => 1
  | .ptr d => uptoBulk d + 1
  | .slice elems spare => uptoBulkAll elems + uptoBulkAll spare + 1
  | .agg parts => uptoBulkAll parts + 1
  | .iface _ d => uptoBulk d + 1
  | .map entries => uptoBulkEntries entries + 1
  | .held _ => 1
def uptoBulkAll {H : Type} : List (DataW H) → Nat
  | [] => 0
  | d :: r => uptoBulk d + uptoBulkAll r
def uptoBulkEntries {H : Type} : List (Lit × DataW H) → Nat
  | [] => 0
  | x :: r => uptoBulkEntry x + uptoBulkEntries r
def uptoBulkEntry {H : Type} : Lit × DataW H → Nat
  | (.string bytes, d) => bytes.length + uptoBulk d + 1
  | (_, d) => uptoBulk d + 1
 end
def uptoSmall : (H : Type) → List (DataW H) → Bool := fun _ ds => decide (uptoBulkAll ds ≤ 1048576)
def OpenSpec.upto (s : _root_.Go.ChangeSpec) : _root_.Go.OpenSpec := { _root_.Go.OpenSpec.ofChange s with cond := some uptoSmall }

/-- 'hasplaw05.KeysEncodes', WHERE WHAT IT READS IS OF BULK AT MOST 1048576: true; the input reads as it did. -/
def keysEncodesUptoRow : OpenClaim := { program := "ythoemenchimggaadoor", sum := "e0c4e244ad5c6916871f074d0a646ef924983f2462942eca20e09cfd0f0d8fe5", func := "hasp/hasplaw05.KeysEncodes", spec := "keysEncodes", inPlace := ["internal/bytealg.Count", "internal/bytealg.IndexByte", "internal/bytealg.Index", "math.Float64frombits"], unfollowed := true, recurses := true, named := ["internal/bytealg.MaxLen", "unicode/utf8.first", "unicode/utf8.acceptRanges"], apart := false, laid := [("unicode/utf8.acceptRanges", laid_unicode_utf8_acceptRanges), ("unicode/utf8.first", laid_unicode_utf8_first)], narrowed := true }
def KeysEncodesUptoSaid : Prop := keysEncodesUptoRow.holds Tryd.pinned (OpenSpec.upto keysEncodesSpec)

/-- 'hasplaw05.KeysDecodes', WHERE WHAT IT READS IS OF BULK AT MOST 1048576: true; the input reads as it did. -/
def keysDecodesUptoRow : OpenClaim := { program := "ythoemenchimggaadoor", sum := "e0c4e244ad5c6916871f074d0a646ef924983f2462942eca20e09cfd0f0d8fe5", func := "hasp/hasplaw05.KeysDecodes", spec := "keysDecodes", inPlace := ["internal/bytealg.Count", "internal/bytealg.IndexByte", "internal/bytealg.Index", "math.Float64frombits"], unfollowed := true, recurses := true, named := ["internal/bytealg.MaxLen", "unicode/utf8.first", "unicode/utf8.acceptRanges"], apart := false, laid := [("unicode/utf8.acceptRanges", laid_unicode_utf8_acceptRanges), ("unicode/utf8.first", laid_unicode_utf8_first)], narrowed := true }
def KeysDecodesUptoSaid : Prop := keysDecodesUptoRow.holds Tryd.pinned (OpenSpec.upto keysDecodesSpec)

/-- 'hasplaw05.KeysThere', WHERE WHAT IT READS IS OF BULK AT MOST 1048576: true; the input reads as it did. -/
def keysThereUptoRow : OpenClaim := { program := "ythoemenchimggaadoor", sum := "e0c4e244ad5c6916871f074d0a646ef924983f2462942eca20e09cfd0f0d8fe5", func := "hasp/hasplaw05.KeysThere", spec := "keysThere", inPlace := ["internal/bytealg.Count", "internal/bytealg.IndexByte", "internal/bytealg.Index", "math.Float64frombits"], unfollowed := true, recurses := true, named := ["internal/bytealg.MaxLen", "unicode/utf8.first", "unicode/utf8.acceptRanges"], apart := false, laid := [("unicode/utf8.acceptRanges", laid_unicode_utf8_acceptRanges), ("unicode/utf8.first", laid_unicode_utf8_first)], narrowed := true }
def KeysThereUptoSaid : Prop := keysThereUptoRow.holds Tryd.pinned (OpenSpec.upto keysThereSpec)

/-- 'hasplaw05.KeysBack', WHERE WHAT IT READS IS OF BULK AT MOST 1048576: true; the input reads as it did. -/
def keysBackUptoRow : OpenClaim := { program := "ythoemenchimggaadoor", sum := "e0c4e244ad5c6916871f074d0a646ef924983f2462942eca20e09cfd0f0d8fe5", func := "hasp/hasplaw05.KeysBack", spec := "keysBack", inPlace := ["internal/bytealg.Count", "internal/bytealg.IndexByte", "internal/bytealg.Index", "math.Float64frombits"], unfollowed := true, recurses := true, named := ["internal/bytealg.MaxLen", "unicode/utf8.first", "unicode/utf8.acceptRanges"], apart := false, laid := [("unicode/utf8.acceptRanges", laid_unicode_utf8_acceptRanges), ("unicode/utf8.first", laid_unicode_utf8_first)], narrowed := true }
def KeysBackUptoSaid : Prop := keysBackUptoRow.holds Tryd.pinned (OpenSpec.upto keysBackSpec)

/-- 'hasplaw05.KeysOrders', WHERE WHAT IT READS IS OF BULK AT MOST 1048576: true; the input reads as it did. -/
def keysOrdersUptoRow : OpenClaim := { program := "ythoemenchimggaadoor", sum := "e0c4e244ad5c6916871f074d0a646ef924983f2462942eca20e09cfd0f0d8fe5", func := "hasp/hasplaw05.KeysOrders", spec := "keysOrders", inPlace := ["internal/bytealg.Count", "internal/bytealg.IndexByte", "internal/bytealg.Index", "math.Float64frombits"], unfollowed := true, recurses := true, named := ["internal/bytealg.MaxLen", "unicode/utf8.first", "unicode/utf8.acceptRanges"], apart := false, laid := [("unicode/utf8.acceptRanges", laid_unicode_utf8_acceptRanges), ("unicode/utf8.first", laid_unicode_utf8_first)], narrowed := true }
def KeysOrdersUptoSaid : Prop := keysOrdersUptoRow.holds Tryd.pinned (OpenSpec.upto keysOrdersSpec)

/-- 'hasplaw05.KeysBehind', WHERE WHAT IT READS IS OF BULK AT MOST 1048576: true; the input reads as it did. -/
def keysBehindUptoRow : OpenClaim := { program := "ythoemenchimggaadoor", sum := "e0c4e244ad5c6916871f074d0a646ef924983f2462942eca20e09cfd0f0d8fe5", func := "hasp/hasplaw05.KeysBehind", spec := "keysBehind", inPlace := ["internal/bytealg.Count", "internal/bytealg.IndexByte", "internal/bytealg.Index", "math.Float64frombits"], unfollowed := true, recurses := true, named := ["internal/bytealg.MaxLen", "unicode/utf8.first", "unicode/utf8.acceptRanges"], apart := false, laid := [("unicode/utf8.acceptRanges", laid_unicode_utf8_acceptRanges), ("unicode/utf8.first", laid_unicode_utf8_first)], narrowed := true }
def KeysBehindUptoSaid : Prop := keysBehindUptoRow.holds Tryd.pinned (OpenSpec.upto keysBehindSpec)

/-- 'hasplaw05.KeysJoin', WHERE WHAT IT READS IS OF BULK AT MOST 1048576: true; the input reads as it did. -/
def keysJoinUptoRow : OpenClaim := { program := "ythoemenchimggaadoor", sum := "e0c4e244ad5c6916871f074d0a646ef924983f2462942eca20e09cfd0f0d8fe5", func := "hasp/hasplaw05.KeysJoin", spec := "keysJoin", inPlace := ["internal/bytealg.Count", "internal/bytealg.IndexByte", "internal/bytealg.Index", "math.Float64frombits"], unfollowed := true, recurses := true, named := ["internal/bytealg.MaxLen", "unicode/utf8.first", "unicode/utf8.acceptRanges"], apart := false, laid := [("unicode/utf8.acceptRanges", laid_unicode_utf8_acceptRanges), ("unicode/utf8.first", laid_unicode_utf8_first)], narrowed := true }
def KeysJoinUptoSaid : Prop := keysJoinUptoRow.holds Tryd.pinned (OpenSpec.upto keysJoinSpec)

end Rows
end Go.Proofs.YthoemenchimggaaDoor
