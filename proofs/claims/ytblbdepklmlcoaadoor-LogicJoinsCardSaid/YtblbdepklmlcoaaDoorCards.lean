/-
  DERIVED. GIVEN WITH THE SEED: THE CARDS: each row of YtblbdepklmlcoaaDoorRows.lean that lists a variable, with what it lists TIED to the program's text (the seventh form; the later family's looks); each row that meets fmt, with fmt's text TOLD by the authors' own Lean function (tested against real Go, not proved from fmt's source: count such statements apart). THE CARD IS WHAT COUNTS. Prove the row's statement (the work); the ties are given (YtblbdepklmlcoaaDoorTie.lean); close each card by the builder's one call (the guide's Derived/Test/ToyasCard.lean, 'card_holds'). Laid BY PROGRAM, IN A SANDBOX (cutbox-door.mjs). By AI agents, Wed Nov 11 2026. No macro, syntax, notation, axiom, sorry.
-/
import Derived.Test.YtblbdepklmlcoaaDoorRows
import GoSem.ClaimSeven
namespace Go.Proofs.YtblbdepklmlcoaaDoor
namespace Rows

/-- THE TIED CARD OF 'hasplaw04.LogicJoins'. -/
def logicJoinsCard : Claim7 := { stood := { row := logicJoinsRow, standIns := [], harness := (true, "222d3e5292ea7b8ba05bd8fa899f33f9eb14a4eda6df803713f12f80485f8ff7"), looks := false }, kinds := [], alts := [], laidByText := true, laidKinds := [.data, .data, .data], laidTests := true, laidLooks := .later }
def LogicJoinsCardSaid : Prop := Claim7.holds Tryd.pinned (.plain (OpenSpec.ofChange logicJoinsSpec)) logicJoinsCard

/-- THE TIED CARD OF 'hasplaw04.LogicSieves'. -/
def logicSievesCard : Claim7 := { stood := { row := logicSievesRow, standIns := [], harness := (true, "222d3e5292ea7b8ba05bd8fa899f33f9eb14a4eda6df803713f12f80485f8ff7"), looks := false }, kinds := [], alts := [], laidByText := true, laidKinds := [.data, .data, .data], laidTests := true, laidLooks := .later }
def LogicSievesCardSaid : Prop := Claim7.holds Tryd.pinned (.plain (OpenSpec.ofChange logicSievesSpec)) logicSievesCard

/-- THE TIED CARD OF 'hasplaw04.LogicTurns'. -/
def logicTurnsCard : Claim7 := { stood := { row := logicTurnsRow, standIns := [], harness := (true, "222d3e5292ea7b8ba05bd8fa899f33f9eb14a4eda6df803713f12f80485f8ff7"), looks := false }, kinds := [], alts := [], laidByText := true, laidKinds := [.data, .data, .data], laidTests := true, laidLooks := .later }
def LogicTurnsCardSaid : Prop := Claim7.holds Tryd.pinned (.plain (OpenSpec.ofChange logicTurnsSpec)) logicTurnsCard

/-- THE TIED CARD OF 'hasplaw04.LogicOrder'. -/
def logicOrderCard : Claim7 := { stood := { row := logicOrderRow, standIns := [], harness := (true, "222d3e5292ea7b8ba05bd8fa899f33f9eb14a4eda6df803713f12f80485f8ff7"), looks := false }, kinds := [], alts := [], laidByText := true, laidKinds := [.data, .data, .data], laidTests := true, laidLooks := .later }
def LogicOrderCardSaid : Prop := Claim7.holds Tryd.pinned (.plain (OpenSpec.ofChange logicOrderSpec)) logicOrderCard

/-- THE SECOND FORM's CARD OF 'hasplaw04.LogicJoins'. -/
def logicJoinsUptoCard : Claim7 := { stood := { row := logicJoinsUptoRow, standIns := [], harness := (true, "222d3e5292ea7b8ba05bd8fa899f33f9eb14a4eda6df803713f12f80485f8ff7"), looks := false }, kinds := [], alts := [], laidByText := true, laidKinds := [.data, .data, .data], laidTests := true, laidLooks := .later }
def LogicJoinsUptoCardSaid : Prop := Claim7.holds Tryd.pinned (.plain (OpenSpec.upto logicJoinsSpec)) logicJoinsUptoCard

/-- THE SECOND FORM's CARD OF 'hasplaw04.LogicSieves'. -/
def logicSievesUptoCard : Claim7 := { stood := { row := logicSievesUptoRow, standIns := [], harness := (true, "222d3e5292ea7b8ba05bd8fa899f33f9eb14a4eda6df803713f12f80485f8ff7"), looks := false }, kinds := [], alts := [], laidByText := true, laidKinds := [.data, .data, .data], laidTests := true, laidLooks := .later }
def LogicSievesUptoCardSaid : Prop := Claim7.holds Tryd.pinned (.plain (OpenSpec.upto logicSievesSpec)) logicSievesUptoCard

/-- THE SECOND FORM's CARD OF 'hasplaw04.LogicTurns'. -/
def logicTurnsUptoCard : Claim7 := { stood := { row := logicTurnsUptoRow, standIns := [], harness := (true, "222d3e5292ea7b8ba05bd8fa899f33f9eb14a4eda6df803713f12f80485f8ff7"), looks := false }, kinds := [], alts := [], laidByText := true, laidKinds := [.data, .data, .data], laidTests := true, laidLooks := .later }
def LogicTurnsUptoCardSaid : Prop := Claim7.holds Tryd.pinned (.plain (OpenSpec.upto logicTurnsSpec)) logicTurnsUptoCard

/-- THE SECOND FORM's CARD OF 'hasplaw04.LogicOrder'. -/
def logicOrderUptoCard : Claim7 := { stood := { row := logicOrderUptoRow, standIns := [], harness := (true, "222d3e5292ea7b8ba05bd8fa899f33f9eb14a4eda6df803713f12f80485f8ff7"), looks := false }, kinds := [], alts := [], laidByText := true, laidKinds := [.data, .data, .data], laidTests := true, laidLooks := .later }
def LogicOrderUptoCardSaid : Prop := Claim7.holds Tryd.pinned (.plain (OpenSpec.upto logicOrderSpec)) logicOrderUptoCard
end Rows
end Go.Proofs.YtblbdepklmlcoaaDoor
