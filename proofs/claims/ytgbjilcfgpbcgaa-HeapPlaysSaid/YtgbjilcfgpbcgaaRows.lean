/-
  No cell of these rows narrows 'for every input' (looked for: loops, veiled, ifaces, maps, wideKeys, modest, calm, conditions, laid).
  DERIVED. THE GIVEN ROWS OF THIS SEAT. 4 by the template 'for every input the law returns true; each argument reads behind the call as it read before'; 0 by the template 'total and deterministic' (their statements: YtgbjilcfgpbcgaaTotals.lean).
  GIVEN WITH THE SEED: the statements are not yours to turn. If you find one false, say at which input.
  Laid BY PROGRAM, IN A SANDBOX (cutbox-rows.mjs): the forced cells as the released guide's own fill.sh prints them over the translation fd959ddf38249c40… (all of the seat's roots in one cut). By AI agents, Wed Nov 11 2026. No macro, syntax, notation, axiom, sorry.
-/
import Derived.Test.YtgbjilcfgpbcgaaChecked
import GoSem.Claim
import GoSem.ClaimJoined
import GoSem.ClaimMapViews
import Derived.JoinedTies
import Derived.KernelRfl
namespace Go.Proofs.Ytgbjilcfgpbcgaa
/- THE CELL 'sum', in the pinned program and in every row, IS THE sha256 OF THE DUMP (.gsa) THAT YtgbjilcfgpbcgaaProg.lean LOADS. Nothing in Lean hashes anything: it is a label: what it is worth is what the hold of that sum in a sandbox is worth. -/
noncomputable def Try.pinned : Pinned := { name := "ytgbjilcfgpbcgaa", sum := "fd959ddf38249c40fc077af1a586db96387383482bc75dc6958a1c0016036fdd", checked := Try.checked }
namespace Rows
def none {H : Type} : Left H := { results := [], args := [] }

/-- 'hasplaw08.HeapWalks': WHATEVER THE INPUT: true; the input reads as it did. -/
def heapWalksSpec : ChangeSpec := { name := "heapWalks", fn := fun _ => fun
  | [d1, d2] => { results := [.lit (.bool true)], args := [d1, d2] }
  | _ => none }
def heapWalksRow : OpenClaim := { program := "ytgbjilcfgpbcgaa", sum := "fd959ddf38249c40fc077af1a586db96387383482bc75dc6958a1c0016036fdd", func := "hasp/hasplaw08.HeapWalks", spec := "heapWalks", inPlace := ["slices.overlaps[int]"], apart := false }
def HeapWalksSaid : Prop := heapWalksRow.holds Try.pinned (OpenSpec.ofChange heapWalksSpec)

/-- ITS FALSE NEIGHBOUR: 'it returns false'. Refute it at one input. -/
def heapWalksWrong : ChangeSpec := { name := "heapWalks", fn := fun _ => fun
  | [d1, d2] => { results := [.lit (.bool false)], args := [d1, d2] }
  | _ => none }
def HeapWalksWrongFalsely : Prop := heapWalksRow.holds Try.pinned (OpenSpec.ofChange heapWalksWrong)

/-- 'hasplaw08.HeapOnce': WHATEVER THE INPUT: true; the input reads as it did. -/
def heapOnceSpec : ChangeSpec := { name := "heapOnce", fn := fun _ => fun
  | [d] => { results := [.lit (.bool true)], args := [d] }
  | _ => none }
def heapOnceRow : OpenClaim := { program := "ytgbjilcfgpbcgaa", sum := "fd959ddf38249c40fc077af1a586db96387383482bc75dc6958a1c0016036fdd", func := "hasp/hasplaw08.HeapOnce", spec := "heapOnce", inPlace := ["slices.overlaps[int]"], apart := false }
def HeapOnceSaid : Prop := heapOnceRow.holds Try.pinned (OpenSpec.ofChange heapOnceSpec)

/-- ITS FALSE NEIGHBOUR: 'it returns false'. Refute it at one input. -/
def heapOnceWrong : ChangeSpec := { name := "heapOnce", fn := fun _ => fun
  | [d] => { results := [.lit (.bool false)], args := [d] }
  | _ => none }
def HeapOnceWrongFalsely : Prop := heapOnceRow.holds Try.pinned (OpenSpec.ofChange heapOnceWrong)

/-- 'hasplaw08.HeapPlays': WHATEVER THE INPUT: true; the input reads as it did. -/
def heapPlaysSpec : ChangeSpec := { name := "heapPlays", fn := fun _ => fun
  | [d] => { results := [.lit (.bool true)], args := [d] }
  | _ => none }
def heapPlaysRow : OpenClaim := { program := "ytgbjilcfgpbcgaa", sum := "fd959ddf38249c40fc077af1a586db96387383482bc75dc6958a1c0016036fdd", func := "hasp/hasplaw08.HeapPlays", spec := "heapPlays", inPlace := ["slices.overlaps[int]"], apart := false }
def HeapPlaysSaid : Prop := heapPlaysRow.holds Try.pinned (OpenSpec.ofChange heapPlaysSpec)

/-- ITS FALSE NEIGHBOUR: 'it returns false'. Refute it at one input. -/
def heapPlaysWrong : ChangeSpec := { name := "heapPlays", fn := fun _ => fun
  | [d] => { results := [.lit (.bool false)], args := [d] }
  | _ => none }
def HeapPlaysWrongFalsely : Prop := heapPlaysRow.holds Try.pinned (OpenSpec.ofChange heapPlaysWrong)

/-- 'hasplaw08.HeapBacks': WHATEVER THE INPUT: true; the input reads as it did. -/
def heapBacksSpec : ChangeSpec := { name := "heapBacks", fn := fun _ => fun
  | [d1, d2] => { results := [.lit (.bool true)], args := [d1, d2] }
  | _ => none }
def heapBacksRow : OpenClaim := { program := "ytgbjilcfgpbcgaa", sum := "fd959ddf38249c40fc077af1a586db96387383482bc75dc6958a1c0016036fdd", func := "hasp/hasplaw08.HeapBacks", spec := "heapBacks", inPlace := ["slices.overlaps[int]"], apart := false }
def HeapBacksSaid : Prop := heapBacksRow.holds Try.pinned (OpenSpec.ofChange heapBacksSpec)

/-- ITS FALSE NEIGHBOUR: 'it returns false'. Refute it at one input. -/
def heapBacksWrong : ChangeSpec := { name := "heapBacks", fn := fun _ => fun
  | [d1, d2] => { results := [.lit (.bool false)], args := [d1, d2] }
  | _ => none }
def HeapBacksWrongFalsely : Prop := heapBacksRow.holds Try.pinned (OpenSpec.ofChange heapBacksWrong)

/- THE SECOND FORM. 'bulk': how many values and letters a reading holds, each counted each time it is reached (what is shared counts as often as it is met; a slice's spare places count too). A statement '..UptoSaid' is the law's where the arguments, and the package variables that the reading takes, are together of bulk at most 1048576: NARROWER than '..Said'. Prove '..Said' where nothing that the law and all that it calls make is longer than what came in: it says more and counts as full. Else prove '..UptoSaid'. A law counts once. -/
mutual
def uptoBulk {H : Type} : DataW H → Nat
  | .lit (.string bytes) => bytes.length + 1
  | .lit _ => 1
  | .nil => 1
  | .ptr d => uptoBulk d + 1
  | .slice elems spare => uptoBulkAll elems + uptoBulkAll spare + 1
  | .agg parts => uptoBulkAll parts + 1
  | .iface _ d => uptoBulk d + 1
  | .map entries => uptoBulkEntries entries + 1
  | .held _ => 1
def uptoBulkAll {H : Type} : List (DataW H) → Nat
  | [] => 0
  | d :: r => uptoBulk d + uptoBulkAll r
def uptoBulkEntries {H : Type} : List (Lit × DataW H) → Nat
  | [] => 0
  | x :: r => uptoBulkEntry x + uptoBulkEntries r
def uptoBulkEntry {H : Type} : Lit × DataW H → Nat
  | (.string bytes, d) => bytes.length + uptoBulk d + 1
  | (_, d) => uptoBulk d + 1
 end
def uptoSmall : (H : Type) → List (DataW H) → Bool := fun _ ds => decide (uptoBulkAll ds ≤ 1048576)
def OpenSpec.upto (s : _root_.Go.ChangeSpec) : _root_.Go.OpenSpec := { _root_.Go.OpenSpec.ofChange s with cond := some uptoSmall }

/-- 'hasplaw08.HeapWalks', WHERE WHAT IT READS IS OF BULK AT MOST 1048576: true; the input reads as it did. -/
def heapWalksUptoRow : OpenClaim := { program := "ytgbjilcfgpbcgaa", sum := "fd959ddf38249c40fc077af1a586db96387383482bc75dc6958a1c0016036fdd", func := "hasp/hasplaw08.HeapWalks", spec := "heapWalks", inPlace := ["slices.overlaps[int]"], apart := false, narrowed := true }
def HeapWalksUptoSaid : Prop := heapWalksUptoRow.holds Try.pinned (OpenSpec.upto heapWalksSpec)

/-- 'hasplaw08.HeapOnce', WHERE WHAT IT READS IS OF BULK AT MOST 1048576: true; the input reads as it did. -/
def heapOnceUptoRow : OpenClaim := { program := "ytgbjilcfgpbcgaa", sum := "fd959ddf38249c40fc077af1a586db96387383482bc75dc6958a1c0016036fdd", func := "hasp/hasplaw08.HeapOnce", spec := "heapOnce", inPlace := ["slices.overlaps[int]"], apart := false, narrowed := true }
def HeapOnceUptoSaid : Prop := heapOnceUptoRow.holds Try.pinned (OpenSpec.upto heapOnceSpec)

/-- 'hasplaw08.HeapPlays', WHERE WHAT IT READS IS OF BULK AT MOST 1048576: true; the input reads as it did. -/
def heapPlaysUptoRow : OpenClaim := { program := "ytgbjilcfgpbcgaa", sum := "fd959ddf38249c40fc077af1a586db96387383482bc75dc6958a1c0016036fdd", func := "hasp/hasplaw08.HeapPlays", spec := "heapPlays", inPlace := ["slices.overlaps[int]"], apart := false, narrowed := true }
def HeapPlaysUptoSaid : Prop := heapPlaysUptoRow.holds Try.pinned (OpenSpec.upto heapPlaysSpec)

/-- 'hasplaw08.HeapBacks', WHERE WHAT IT READS IS OF BULK AT MOST 1048576: true; the input reads as it did. -/
def heapBacksUptoRow : OpenClaim := { program := "ytgbjilcfgpbcgaa", sum := "fd959ddf38249c40fc077af1a586db96387383482bc75dc6958a1c0016036fdd", func := "hasp/hasplaw08.HeapBacks", spec := "heapBacks", inPlace := ["slices.overlaps[int]"], apart := false, narrowed := true }
def HeapBacksUptoSaid : Prop := heapBacksUptoRow.holds Try.pinned (OpenSpec.upto heapBacksSpec)

end Rows
end Go.Proofs.Ytgbjilcfgpbcgaa
