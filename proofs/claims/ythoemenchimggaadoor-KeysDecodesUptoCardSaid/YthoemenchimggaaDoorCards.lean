/-
  DERIVED. GIVEN WITH THE SEED: THE CARDS: each row of YthoemenchimggaaDoorRows.lean that lists a variable, with what it lists TIED to the program's text (the seventh form; the later family's looks); each row that meets fmt, with fmt's text TOLD by the authors' own Lean function (tested against real Go, not proved from fmt's source: count such statements apart). THE CARD IS WHAT COUNTS. Prove the row's statement (the work); the ties are given (YthoemenchimggaaDoorTie.lean); close each card by the builder's one call (the guide's Derived/Test/ToyasCard.lean, 'card_holds'). Laid BY PROGRAM, IN A SANDBOX (cutbox-door.mjs). By AI agents, Wed Nov 11 2026. No macro, syntax, notation, axiom, sorry.
-/
import Derived.Test.YthoemenchimggaaDoorRows
import GoSem.ClaimSeven
namespace Go.Proofs.YthoemenchimggaaDoor
namespace Rows

/-- THE TIED CARD OF 'hasplaw05.KeysEncodes'. -/
def keysEncodesCard : Claim7 := { stood := { row := keysEncodesRow, standIns := [], harness := (true, "545723e72fb4328b2d4deccbff0b5bd97e75904602dd8cf08d5f60fc7490dc1a"), looks := true }, kinds := [], alts := [], laidByText := true, laidKinds := [.data, .pinned], laidTests := true, laidLooks := .later }
def KeysEncodesCardSaid : Prop := Claim7.holds Tryd.pinned (.plain (OpenSpec.ofChange keysEncodesSpec)) keysEncodesCard

/-- THE TIED CARD OF 'hasplaw05.KeysDecodes'. -/
def keysDecodesCard : Claim7 := { stood := { row := keysDecodesRow, standIns := [], harness := (true, "545723e72fb4328b2d4deccbff0b5bd97e75904602dd8cf08d5f60fc7490dc1a"), looks := true }, kinds := [], alts := [], laidByText := true, laidKinds := [.data, .pinned], laidTests := true, laidLooks := .later }
def KeysDecodesCardSaid : Prop := Claim7.holds Tryd.pinned (.plain (OpenSpec.ofChange keysDecodesSpec)) keysDecodesCard

/-- THE TIED CARD OF 'hasplaw05.KeysThere'. -/
def keysThereCard : Claim7 := { stood := { row := keysThereRow, standIns := [], harness := (true, "545723e72fb4328b2d4deccbff0b5bd97e75904602dd8cf08d5f60fc7490dc1a"), looks := true }, kinds := [], alts := [], laidByText := true, laidKinds := [.data, .pinned], laidTests := true, laidLooks := .later }
def KeysThereCardSaid : Prop := Claim7.holds Tryd.pinned (.plain (OpenSpec.ofChange keysThereSpec)) keysThereCard

/-- THE TIED CARD OF 'hasplaw05.KeysBack'. -/
def keysBackCard : Claim7 := { stood := { row := keysBackRow, standIns := [], harness := (true, "545723e72fb4328b2d4deccbff0b5bd97e75904602dd8cf08d5f60fc7490dc1a"), looks := true }, kinds := [], alts := [], laidByText := true, laidKinds := [.data, .pinned], laidTests := true, laidLooks := .later }
def KeysBackCardSaid : Prop := Claim7.holds Tryd.pinned (.plain (OpenSpec.ofChange keysBackSpec)) keysBackCard

/-- THE TIED CARD OF 'hasplaw05.KeysOrders'. -/
def keysOrdersCard : Claim7 := { stood := { row := keysOrdersRow, standIns := [], harness := (true, "545723e72fb4328b2d4deccbff0b5bd97e75904602dd8cf08d5f60fc7490dc1a"), looks := true }, kinds := [], alts := [], laidByText := true, laidKinds := [.data, .pinned], laidTests := true, laidLooks := .later }
def KeysOrdersCardSaid : Prop := Claim7.holds Tryd.pinned (.plain (OpenSpec.ofChange keysOrdersSpec)) keysOrdersCard

/-- THE TIED CARD OF 'hasplaw05.KeysBehind'. -/
def keysBehindCard : Claim7 := { stood := { row := keysBehindRow, standIns := [], harness := (true, "545723e72fb4328b2d4deccbff0b5bd97e75904602dd8cf08d5f60fc7490dc1a"), looks := true }, kinds := [], alts := [], laidByText := true, laidKinds := [.data, .pinned], laidTests := true, laidLooks := .later }
def KeysBehindCardSaid : Prop := Claim7.holds Tryd.pinned (.plain (OpenSpec.ofChange keysBehindSpec)) keysBehindCard

/-- THE TIED CARD OF 'hasplaw05.KeysJoin'. -/
def keysJoinCard : Claim7 := { stood := { row := keysJoinRow, standIns := [], harness := (true, "545723e72fb4328b2d4deccbff0b5bd97e75904602dd8cf08d5f60fc7490dc1a"), looks := true }, kinds := [], alts := [], laidByText := true, laidKinds := [.data, .pinned], laidTests := true, laidLooks := .later }
def KeysJoinCardSaid : Prop := Claim7.holds Tryd.pinned (.plain (OpenSpec.ofChange keysJoinSpec)) keysJoinCard

/-- THE SECOND FORM's CARD OF 'hasplaw05.KeysEncodes'. -/
def keysEncodesUptoCard : Claim7 := { stood := { row := keysEncodesUptoRow, standIns := [], harness := (true, "545723e72fb4328b2d4deccbff0b5bd97e75904602dd8cf08d5f60fc7490dc1a"), looks := true }, kinds := [], alts := [], laidByText := true, laidKinds := [.data, .pinned], laidTests := true, laidLooks := .later }
def KeysEncodesUptoCardSaid : Prop := Claim7.holds Tryd.pinned (.plain (OpenSpec.upto keysEncodesSpec)) keysEncodesUptoCard

/-- THE SECOND FORM's CARD OF 'hasplaw05.KeysDecodes'. -/
def keysDecodesUptoCard : Claim7 := { stood := { row := keysDecodesUptoRow, standIns := [], harness := (true, "545723e72fb4328b2d4deccbff0b5bd97e75904602dd8cf08d5f60fc7490dc1a"), looks := true }, kinds := [], alts := [], laidByText := true, laidKinds := [.data, .pinned], laidTests := true, laidLooks := .later }
def KeysDecodesUptoCardSaid : Prop := Claim7.holds Tryd.pinned (.plain (OpenSpec.upto keysDecodesSpec)) keysDecodesUptoCard

/-- THE SECOND FORM's CARD OF 'hasplaw05.KeysThere'. -/
def keysThereUptoCard : Claim7 := { stood := { row := keysThereUptoRow, standIns := [], harness := (true, "545723e72fb4328b2d4deccbff0b5bd97e75904602dd8cf08d5f60fc7490dc1a"), looks := true }, kinds := [], alts := [], laidByText := true, laidKinds := [.data, .pinned], laidTests := true, laidLooks := .later }
def KeysThereUptoCardSaid : Prop := Claim7.holds Tryd.pinned (.plain (OpenSpec.upto keysThereSpec)) keysThereUptoCard

/-- THE SECOND FORM's CARD OF 'hasplaw05.KeysBack'. -/
def keysBackUptoCard : Claim7 := { stood := { row := keysBackUptoRow, standIns := [], harness := (true, "545723e72fb4328b2d4deccbff0b5bd97e75904602dd8cf08d5f60fc7490dc1a"), looks := true }, kinds := [], alts := [], laidByText := true, laidKinds := [.data, .pinned], laidTests := true, laidLooks := .later }
def KeysBackUptoCardSaid : Prop := Claim7.holds Tryd.pinned (.plain (OpenSpec.upto keysBackSpec)) keysBackUptoCard

/-- THE SECOND FORM's CARD OF 'hasplaw05.KeysOrders'. -/
def keysOrdersUptoCard : Claim7 := { stood := { row := keysOrdersUptoRow, standIns := [], harness := (true, "545723e72fb4328b2d4deccbff0b5bd97e75904602dd8cf08d5f60fc7490dc1a"), looks := true }, kinds := [], alts := [], laidByText := true, laidKinds := [.data, .pinned], laidTests := true, laidLooks := .later }
def KeysOrdersUptoCardSaid : Prop := Claim7.holds Tryd.pinned (.plain (OpenSpec.upto keysOrdersSpec)) keysOrdersUptoCard

/-- THE SECOND FORM's CARD OF 'hasplaw05.KeysBehind'. -/
def keysBehindUptoCard : Claim7 := { stood := { row := keysBehindUptoRow, standIns := [], harness := (true, "545723e72fb4328b2d4deccbff0b5bd97e75904602dd8cf08d5f60fc7490dc1a"), looks := true }, kinds := [], alts := [], laidByText := true, laidKinds := [.data, .pinned], laidTests := true, laidLooks := .later }
def KeysBehindUptoCardSaid : Prop := Claim7.holds Tryd.pinned (.plain (OpenSpec.upto keysBehindSpec)) keysBehindUptoCard

/-- THE SECOND FORM's CARD OF 'hasplaw05.KeysJoin'. -/
def keysJoinUptoCard : Claim7 := { stood := { row := keysJoinUptoRow, standIns := [], harness := (true, "545723e72fb4328b2d4deccbff0b5bd97e75904602dd8cf08d5f60fc7490dc1a"), looks := true }, kinds := [], alts := [], laidByText := true, laidKinds := [.data, .pinned], laidTests := true, laidLooks := .later }
def KeysJoinUptoCardSaid : Prop := Claim7.holds Tryd.pinned (.plain (OpenSpec.upto keysJoinSpec)) keysJoinUptoCard
end Rows
end Go.Proofs.YthoemenchimggaaDoor
