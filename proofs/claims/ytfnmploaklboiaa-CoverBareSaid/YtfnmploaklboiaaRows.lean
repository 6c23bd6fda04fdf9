/-
  NARROWER THAN 'FOR EVERY INPUT', by the rows' own cells (each row's printed sentence says how): CoverChecks: loops · CoverStronger: loops · CoverBare: loops.
  DERIVED. THE GIVEN ROWS OF THIS SEAT. 4 by the template 'for every input the law returns true; each argument reads behind the call as it read before'; 0 by the template 'total and deterministic' (their statements: YtfnmploaklboiaaTotals.lean).
  GIVEN WITH THE SEED: the statements are not yours to turn. If you find one false, say at which input.
  Laid BY PROGRAM, IN A SANDBOX (cutbox-rows.mjs): the forced cells as the released guide's own fill.sh prints them over the translation 882a54665adf7180… (all of the seat's roots in one cut). By AI agents, Wed Nov 11 2026. No macro, syntax, notation, axiom, sorry.
-/
import Derived.Test.YtfnmploaklboiaaChecked
import GoSem.Claim
import GoSem.ClaimJoined
import GoSem.ClaimMapViews
import Derived.JoinedTies
import Derived.KernelRfl
namespace Go.Proofs.Ytfnmploaklboiaa
/- THE CELL 'sum', in the pinned program and in every row, IS THE sha256 OF THE DUMP (.gsa) THAT YtfnmploaklboiaaProg.lean LOADS. Nothing in Lean hashes anything: it is a label: what it is worth is what the hold of that sum in a sandbox is worth. -/
noncomputable def Try.pinned : Pinned := { name := "ytfnmploaklboiaa", sum := "882a54665adf7180ab2fcad56d60eb4c656bdf19e362e7e2463403f223a03ebf", checked := Try.checked }
namespace Rows
def none {H : Type} : Left H := { results := [], args := [] }

/-- 'hasplaw22.CoverNames': WHATEVER THE INPUT: true; the input reads as it did. -/
def coverNamesSpec : ChangeSpec := { name := "coverNames", fn := fun _ => fun
  | [] => { results := [.lit (.bool true)], args := [] }
  | _ => none }
def coverNamesRow : OpenClaim := { program := "ytfnmploaklboiaa", sum := "882a54665adf7180ab2fcad56d60eb4c656bdf19e362e7e2463403f223a03ebf", func := "hasp/hasplaw22.CoverNames", spec := "coverNames", unfollowed := true, recurses := true, apart := false }
def CoverNamesSaid : Prop := coverNamesRow.holds Try.pinned (OpenSpec.ofChange coverNamesSpec)

/-- ITS FALSE NEIGHBOUR: 'it returns false'. Refute it at one input. -/
def coverNamesWrong : ChangeSpec := { name := "coverNames", fn := fun _ => fun
  | [] => { results := [.lit (.bool false)], args := [] }
  | _ => none }
def CoverNamesWrongFalsely : Prop := coverNamesRow.holds Try.pinned (OpenSpec.ofChange coverNamesWrong)

/-- 'hasplaw22.CoverChecks': WHATEVER THE INPUT: true; the input reads as it did. -/
def coverChecksSpec : ChangeSpec := { name := "coverChecks", fn := fun _ => fun
  | [d] => { results := [.lit (.bool true)], args := [d] }
  | _ => none }
def coverChecksRow : OpenClaim := { program := "ytfnmploaklboiaa", sum := "882a54665adf7180ab2fcad56d60eb4c656bdf19e362e7e2463403f223a03ebf", func := "hasp/hasplaw22.CoverChecks", spec := "coverChecks", unfollowed := true, recurses := true, loops := true, apart := false }
def CoverChecksSaid : Prop := coverChecksRow.holds Try.pinned (OpenSpec.ofChange coverChecksSpec)

/-- ITS FALSE NEIGHBOUR: 'it returns false'. Refute it at one input. -/
def coverChecksWrong : ChangeSpec := { name := "coverChecks", fn := fun _ => fun
  | [d] => { results := [.lit (.bool false)], args := [d] }
  | _ => none }
def CoverChecksWrongFalsely : Prop := coverChecksRow.holds Try.pinned (OpenSpec.ofChange coverChecksWrong)

/-- 'hasplaw22.CoverStronger': WHATEVER THE INPUT: true; the input reads as it did. -/
def coverStrongerSpec : ChangeSpec := { name := "coverStronger", fn := fun _ => fun
  | [d1, d2, d3] => { results := [.lit (.bool true)], args := [d1, d2, d3] }
  | _ => none }
def coverStrongerRow : OpenClaim := { program := "ytfnmploaklboiaa", sum := "882a54665adf7180ab2fcad56d60eb4c656bdf19e362e7e2463403f223a03ebf", func := "hasp/hasplaw22.CoverStronger", spec := "coverStronger", unfollowed := true, recurses := true, loops := true, apart := false }
def CoverStrongerSaid : Prop := coverStrongerRow.holds Try.pinned (OpenSpec.ofChange coverStrongerSpec)

/-- ITS FALSE NEIGHBOUR: 'it returns false'. Refute it at one input. -/
def coverStrongerWrong : ChangeSpec := { name := "coverStronger", fn := fun _ => fun
  | [d1, d2, d3] => { results := [.lit (.bool false)], args := [d1, d2, d3] }
  | _ => none }
def CoverStrongerWrongFalsely : Prop := coverStrongerRow.holds Try.pinned (OpenSpec.ofChange coverStrongerWrong)

/-- 'hasplaw22.CoverBare': WHATEVER THE INPUT: true; the input reads as it did. -/
def coverBareSpec : ChangeSpec := { name := "coverBare", fn := fun _ => fun
  | [d] => { results := [.lit (.bool true)], args := [d] }
  | _ => none }
def coverBareRow : OpenClaim := { program := "ytfnmploaklboiaa", sum := "882a54665adf7180ab2fcad56d60eb4c656bdf19e362e7e2463403f223a03ebf", func := "hasp/hasplaw22.CoverBare", spec := "coverBare", unfollowed := true, recurses := true, loops := true, apart := false }
def CoverBareSaid : Prop := coverBareRow.holds Try.pinned (OpenSpec.ofChange coverBareSpec)

/-- ITS FALSE NEIGHBOUR: 'it returns false'. Refute it at one input. -/
def coverBareWrong : ChangeSpec := { name := "coverBare", fn := fun _ => fun
  | [d] => { results := [.lit (.bool false)], args := [d] }
  | _ => none }
def CoverBareWrongFalsely : Prop := coverBareRow.holds Try.pinned (OpenSpec.ofChange coverBareWrong)

/- THE SECOND FORM. 'bulk': how many values and letters a reading holds, each counted each time it is reached (what is shared counts as often as it is met; a slice's spare places count too). A statement '..UptoSaid' is the law's where the arguments, and the package variables that the reading takes, are together of bulk at most 1048576: NARROWER than '..Said'. Prove '..Said' where nothing that the law and all that it calls make is longer than what came in: it says more and counts as full. Else prove '..UptoSaid'. A law counts once. -/
mutual
def uptoBulk {H : Type} : DataW H → Nat
  | .lit (.string bytes) => bytes.length + 1
  | .lit _ => 1
  | .nil => 1
  | .ptr d => uptoBulk d + 1
  | .slice elems spare => uptoBulkAll elems + uptoBulkAll spare + 1
  | .agg parts => uptoBulkAll parts + 1
  | .iface _ d => uptoBulk d + 1
  | .map entries => uptoBulkEntries entries + 1
  | .held _ => 1
def uptoBulkAll {H : Type} : List (DataW H) → Nat
  | [] => 0
  | d :: r => uptoBulk d + uptoBulkAll r
def uptoBulkEntries {H : Type} : List (Lit × DataW H) → Nat
  | [] => 0
  | x :: r => uptoBulkEntry x + uptoBulkEntries r
def uptoBulkEntry {H : Type} : Lit × DataW H → Nat
  | (.string bytes, d) => bytes.length + uptoBulk d + 1
  | (_, d) => uptoBulk d + 1
 end
def uptoSmall : (H : Type) → List (DataW H) → Bool := fun _ ds => decide (uptoBulkAll ds ≤ 1048576)
def OpenSpec.upto (s : _root_.Go.ChangeSpec) : _root_.Go.OpenSpec := { _root_.Go.OpenSpec.ofChange s with cond := some uptoSmall }

/-- 'hasplaw22.CoverNames', WHERE WHAT IT READS IS OF BULK AT MOST 1048576: true; the input reads as it did. -/
def coverNamesUptoRow : OpenClaim := { program := "ytfnmploaklboiaa", sum := "882a54665adf7180ab2fcad56d60eb4c656bdf19e362e7e2463403f223a03ebf", func := "hasp/hasplaw22.CoverNames", spec := "coverNames", unfollowed := true, recurses := true, apart := false, narrowed := true }
def CoverNamesUptoSaid : Prop := coverNamesUptoRow.holds Try.pinned (OpenSpec.upto coverNamesSpec)

/-- 'hasplaw22.CoverChecks', WHERE WHAT IT READS IS OF BULK AT MOST 1048576: true; the input reads as it did. -/
def coverChecksUptoRow : OpenClaim := { program := "ytfnmploaklboiaa", sum := "882a54665adf7180ab2fcad56d60eb4c656bdf19e362e7e2463403f223a03ebf", func := "hasp/hasplaw22.CoverChecks", spec := "coverChecks", unfollowed := true, recurses := true, loops := true, apart := false, narrowed := true }
def CoverChecksUptoSaid : Prop := coverChecksUptoRow.holds Try.pinned (OpenSpec.upto coverChecksSpec)

/-- 'hasplaw22.CoverStronger', WHERE WHAT IT READS IS OF BULK AT MOST 1048576: true; the input reads as it did. -/
def coverStrongerUptoRow : OpenClaim := { program := "ytfnmploaklboiaa", sum := "882a54665adf7180ab2fcad56d60eb4c656bdf19e362e7e2463403f223a03ebf", func := "hasp/hasplaw22.CoverStronger", spec := "coverStronger", unfollowed := true, recurses := true, loops := true, apart := false, narrowed := true }
def CoverStrongerUptoSaid : Prop := coverStrongerUptoRow.holds Try.pinned (OpenSpec.upto coverStrongerSpec)

/-- 'hasplaw22.CoverBare', WHERE WHAT IT READS IS OF BULK AT MOST 1048576: true; the input reads as it did. -/
def coverBareUptoRow : OpenClaim := { program := "ytfnmploaklboiaa", sum := "882a54665adf7180ab2fcad56d60eb4c656bdf19e362e7e2463403f223a03ebf", func := "hasp/hasplaw22.CoverBare", spec := "coverBare", unfollowed := true, recurses := true, loops := true, apart := false, narrowed := true }
def CoverBareUptoSaid : Prop := coverBareUptoRow.holds Try.pinned (OpenSpec.upto coverBareSpec)

end Rows
end Go.Proofs.Ytfnmploaklboiaa
