/-
  DERIVED. GIVEN WITH THE SEED: THE CARDS: each row of YtindglnpfdlbhaaGreatDoorRows.lean that lists a variable, with what it lists TIED to the program's text (the seventh form; the later family's looks); each row that meets fmt, with fmt's text TOLD by the authors' own Lean function (tested against real Go, not proved from fmt's source: count such statements apart). THE CARD IS WHAT COUNTS. Prove the row's statement (the work); the ties are given (YtindglnpfdlbhaaGreatDoorTie.lean); close each card by the builder's one call (the guide's Derived/Test/ToyasCard.lean, 'card_holds'). Laid BY PROGRAM, IN A SANDBOX (cutbox-door.mjs). By AI agents, Wed Nov 11 2026. No macro, syntax, notation, axiom, sorry.
-/
import Derived.Test.YtindglnpfdlbhaaGreatDoorRows
import GoSem.ClaimSeven
namespace Go.Proofs.YtindglnpfdlbhaaGreatDoor
namespace Rows

/-- THE TIED CARD OF 'klippelaw29.EventValues'. -/
def eventValuesCard : Claim7 := { stood := { row := eventValuesRow, standIns := [], harness := (true, "29e812f51951e50b1c10c9895489fb4ab5ec6d001c3fa19426a621baf81dd382"), looks := true }, kinds := [], alts := [], laidByText := true, laidKinds := [.data, .data, .data, .sentinel, .sentinel], laidTests := true, laidLooks := .later }
def EventValuesCardSaid : Prop := Claim7.holds Tryz.pinned (.plain (OpenSpec.ofChange eventValuesSpec)) eventValuesCard

/-- THE TIED CARD OF 'klippelaw29.EventMoves'. -/
def eventMovesCard : Claim7 := { stood := { row := eventMovesRow, standIns := [], harness := (true, "29e812f51951e50b1c10c9895489fb4ab5ec6d001c3fa19426a621baf81dd382"), looks := true }, kinds := [], alts := [], laidByText := true, laidKinds := [.data, .data, .data, .sentinel, .sentinel], laidTests := true, laidLooks := .later }
def EventMovesCardSaid : Prop := Claim7.holds Tryz.pinned (.plain (OpenSpec.ofChange eventMovesSpec)) eventMovesCard

/-- THE TIED CARD OF 'klippelaw29.EventPlanes'. -/
def eventPlanesCard : Claim7 := { stood := { row := eventPlanesRow, standIns := [], harness := (true, "29e812f51951e50b1c10c9895489fb4ab5ec6d001c3fa19426a621baf81dd382"), looks := true }, kinds := [], alts := [], laidByText := true, laidKinds := [.data, .data, .data, .sentinel, .sentinel], laidTests := true, laidLooks := .later }
def EventPlanesCardSaid : Prop := Claim7.holds Tryz.pinned (.plain (OpenSpec.ofChange eventPlanesSpec)) eventPlanesCard

/-- THE TIED CARD OF 'klippelaw29.EventNumbers'. -/
def eventNumbersCard : Claim7 := { stood := { row := eventNumbersRow, standIns := [], harness := (true, "29e812f51951e50b1c10c9895489fb4ab5ec6d001c3fa19426a621baf81dd382"), looks := true }, kinds := [], alts := [], laidByText := true, laidKinds := [.data, .data, .data, .sentinel, .sentinel], laidTests := true, laidLooks := .later }
def EventNumbersCardSaid : Prop := Claim7.holds Tryz.pinned (.plain (OpenSpec.ofChange eventNumbersSpec)) eventNumbersCard

/-- THE TIED CARD OF 'klippelaw29.EventReturns'. -/
def eventReturnsCard : Claim7 := { stood := { row := eventReturnsRow, standIns := [], harness := (true, "29e812f51951e50b1c10c9895489fb4ab5ec6d001c3fa19426a621baf81dd382"), looks := true }, kinds := [], alts := [], laidByText := true, laidKinds := [.data, .data, .data, .sentinel, .sentinel], laidTests := true, laidLooks := .later }
def EventReturnsCardSaid : Prop := Claim7.holds Tryz.pinned (.plain (OpenSpec.ofChange eventReturnsSpec)) eventReturnsCard

/-- THE TIED CARD OF 'klippelaw29.EventUnknown'. -/
def eventUnknownCard : Claim7 := { stood := { row := eventUnknownRow, standIns := [], harness := (true, "29e812f51951e50b1c10c9895489fb4ab5ec6d001c3fa19426a621baf81dd382"), looks := true }, kinds := [], alts := [], laidByText := true, laidKinds := [.data, .data, .data, .sentinel, .sentinel], laidTests := true, laidLooks := .later }
def EventUnknownCardSaid : Prop := Claim7.holds Tryz.pinned (.plain (OpenSpec.ofChange eventUnknownSpec)) eventUnknownCard

/-- THE TIED CARD OF 'klippelaw29.EventBack'. -/
def eventBackCard : Claim7 := { stood := { row := eventBackRow, standIns := [], harness := (true, "29e812f51951e50b1c10c9895489fb4ab5ec6d001c3fa19426a621baf81dd382"), looks := true }, kinds := [], alts := [], laidByText := true, laidKinds := [.data, .data, .data, .sentinel, .sentinel], laidTests := true, laidLooks := .later }
def EventBackCardSaid : Prop := Claim7.holds Tryz.pinned (.plain (OpenSpec.ofChange eventBackSpec)) eventBackCard

/-- THE TIED CARD OF 'klippelaw29.EventChecks'. -/
def eventChecksCard : Claim7 := { stood := { row := eventChecksRow, standIns := [], harness := (true, "29e812f51951e50b1c10c9895489fb4ab5ec6d001c3fa19426a621baf81dd382"), looks := true }, kinds := [], alts := [], laidByText := true, laidKinds := [.data, .data, .data, .sentinel, .sentinel], laidTests := true, laidLooks := .later }
def EventChecksCardSaid : Prop := Claim7.holds Tryz.pinned (.plain (OpenSpec.ofChange eventChecksSpec)) eventChecksCard

/-- THE SECOND FORM's CARD OF 'klippelaw29.EventValues'. -/
def eventValuesUptoCard : Claim7 := { stood := { row := eventValuesUptoRow, standIns := [], harness := (true, "29e812f51951e50b1c10c9895489fb4ab5ec6d001c3fa19426a621baf81dd382"), looks := true }, kinds := [], alts := [], laidByText := true, laidKinds := [.data, .data, .data, .sentinel, .sentinel], laidTests := true, laidLooks := .later }
def EventValuesUptoCardSaid : Prop := Claim7.holds Tryz.pinned (.plain (OpenSpec.upto eventValuesSpec)) eventValuesUptoCard

/-- THE SECOND FORM's CARD OF 'klippelaw29.EventMoves'. -/
def eventMovesUptoCard : Claim7 := { stood := { row := eventMovesUptoRow, standIns := [], harness := (true, "29e812f51951e50b1c10c9895489fb4ab5ec6d001c3fa19426a621baf81dd382"), looks := true }, kinds := [], alts := [], laidByText := true, laidKinds := [.data, .data, .data, .sentinel, .sentinel], laidTests := true, laidLooks := .later }
def EventMovesUptoCardSaid : Prop := Claim7.holds Tryz.pinned (.plain (OpenSpec.upto eventMovesSpec)) eventMovesUptoCard

/-- THE SECOND FORM's CARD OF 'klippelaw29.EventPlanes'. -/
def eventPlanesUptoCard : Claim7 := { stood := { row := eventPlanesUptoRow, standIns := [], harness := (true, "29e812f51951e50b1c10c9895489fb4ab5ec6d001c3fa19426a621baf81dd382"), looks := true }, kinds := [], alts := [], laidByText := true, laidKinds := [.data, .data, .data, .sentinel, .sentinel], laidTests := true, laidLooks := .later }
def EventPlanesUptoCardSaid : Prop := Claim7.holds Tryz.pinned (.plain (OpenSpec.upto eventPlanesSpec)) eventPlanesUptoCard

/-- THE SECOND FORM's CARD OF 'klippelaw29.EventNumbers'. -/
def eventNumbersUptoCard : Claim7 := { stood := { row := eventNumbersUptoRow, standIns := [], harness := (true, "29e812f51951e50b1c10c9895489fb4ab5ec6d001c3fa19426a621baf81dd382"), looks := true }, kinds := [], alts := [], laidByText := true, laidKinds := [.data, .data, .data, .sentinel, .sentinel], laidTests := true, laidLooks := .later }
def EventNumbersUptoCardSaid : Prop := Claim7.holds Tryz.pinned (.plain (OpenSpec.upto eventNumbersSpec)) eventNumbersUptoCard

/-- THE SECOND FORM's CARD OF 'klippelaw29.EventReturns'. -/
def eventReturnsUptoCard : Claim7 := { stood := { row := eventReturnsUptoRow, standIns := [], harness := (true, "29e812f51951e50b1c10c9895489fb4ab5ec6d001c3fa19426a621baf81dd382"), looks := true }, kinds := [], alts := [], laidByText := true, laidKinds := [.data, .data, .data, .sentinel, .sentinel], laidTests := true, laidLooks := .later }
def EventReturnsUptoCardSaid : Prop := Claim7.holds Tryz.pinned (.plain (OpenSpec.upto eventReturnsSpec)) eventReturnsUptoCard

/-- THE SECOND FORM's CARD OF 'klippelaw29.EventUnknown'. -/
def eventUnknownUptoCard : Claim7 := { stood := { row := eventUnknownUptoRow, standIns := [], harness := (true, "29e812f51951e50b1c10c9895489fb4ab5ec6d001c3fa19426a621baf81dd382"), looks := true }, kinds := [], alts := [], laidByText := true, laidKinds := [.data, .data, .data, .sentinel, .sentinel], laidTests := true, laidLooks := .later }
def EventUnknownUptoCardSaid : Prop := Claim7.holds Tryz.pinned (.plain (OpenSpec.upto eventUnknownSpec)) eventUnknownUptoCard

/-- THE SECOND FORM's CARD OF 'klippelaw29.EventBack'. -/
def eventBackUptoCard : Claim7 := { stood := { row := eventBackUptoRow, standIns := [], harness := (true, "29e812f51951e50b1c10c9895489fb4ab5ec6d001c3fa19426a621baf81dd382"), looks := true }, kinds := [], alts := [], laidByText := true, laidKinds := [.data, .data, .data, .sentinel, .sentinel], laidTests := true, laidLooks := .later }
def EventBackUptoCardSaid : Prop := Claim7.holds Tryz.pinned (.plain (OpenSpec.upto eventBackSpec)) eventBackUptoCard

/-- THE SECOND FORM's CARD OF 'klippelaw29.EventChecks'. -/
def eventChecksUptoCard : Claim7 := { stood := { row := eventChecksUptoRow, standIns := [], harness := (true, "29e812f51951e50b1c10c9895489fb4ab5ec6d001c3fa19426a621baf81dd382"), looks := true }, kinds := [], alts := [], laidByText := true, laidKinds := [.data, .data, .data, .sentinel, .sentinel], laidTests := true, laidLooks := .later }
def EventChecksUptoCardSaid : Prop := Claim7.holds Tryz.pinned (.plain (OpenSpec.upto eventChecksSpec)) eventChecksUptoCard
end Rows
end Go.Proofs.YtindglnpfdlbhaaGreatDoor
