/-
  DERIVED. GIVEN WITH THE SEED: THE CARDS: each row of YtffdedmakncfmaaGreatDoorRows.lean that lists a variable, with what it lists TIED to the program's text (the seventh form; the later family's looks); each row that meets fmt, with fmt's text TOLD by the authors' own Lean function (tested against real Go, not proved from fmt's source: count such statements apart). THE CARD IS WHAT COUNTS. Prove the row's statement (the work); the ties are given (YtffdedmakncfmaaGreatDoorTie.lean); close each card by the builder's one call (the guide's Derived/Test/ToyasCard.lean, 'card_holds'). Laid BY PROGRAM, IN A SANDBOX (cutbox-door.mjs). By AI agents, Wed Nov 11 2026. No macro, syntax, notation, axiom, sorry.
-/
import Derived.Test.YtffdedmakncfmaaGreatDoorRows
import GoSem.ClaimSeven
namespace Go.Proofs.YtffdedmakncfmaaGreatDoor
namespace Rows

/-- THE TIED CARD OF 'klippelaw29.EventMoves'. -/
def eventMovesCard : Claim7 := { stood := { row := eventMovesRow, standIns := [], harness := (true, "0318d65ae98803e99901f72db5e29a71d1d17f289d7c99a9c651880203b8b6ca"), looks := true }, kinds := [], alts := [], laidByText := true, laidKinds := [.data, .data, .data, .sentinel, .sentinel], laidTests := true, laidLooks := .later }
def EventMovesCardSaid : Prop := Claim7.holds Tryz.pinned (.plain (OpenSpec.ofChange eventMovesSpec)) eventMovesCard

/-- THE TIED CARD OF 'klippelaw29.EventUnknown'. -/
def eventUnknownCard : Claim7 := { stood := { row := eventUnknownRow, standIns := [], harness := (true, "0318d65ae98803e99901f72db5e29a71d1d17f289d7c99a9c651880203b8b6ca"), looks := true }, kinds := [], alts := [], laidByText := true, laidKinds := [.data, .data, .data, .sentinel, .sentinel], laidTests := true, laidLooks := .later }
def EventUnknownCardSaid : Prop := Claim7.holds Tryz.pinned (.plain (OpenSpec.ofChange eventUnknownSpec)) eventUnknownCard

/-- THE TIED CARD OF 'klippelaw29.EventBack'. -/
def eventBackCard : Claim7 := { stood := { row := eventBackRow, standIns := [], harness := (true, "0318d65ae98803e99901f72db5e29a71d1d17f289d7c99a9c651880203b8b6ca"), looks := true }, kinds := [], alts := [], laidByText := true, laidKinds := [.data, .data, .data, .sentinel, .sentinel], laidTests := true, laidLooks := .later }
def EventBackCardSaid : Prop := Claim7.holds Tryz.pinned (.plain (OpenSpec.ofChange eventBackSpec)) eventBackCard

/-- THE SECOND FORM's CARD OF 'klippelaw29.EventMoves'. -/
def eventMovesUptoCard : Claim7 := { stood := { row := eventMovesUptoRow, standIns := [], harness := (true, "0318d65ae98803e99901f72db5e29a71d1d17f289d7c99a9c651880203b8b6ca"), looks := true }, kinds := [], alts := [], laidByText := true, laidKinds := [.data, .data, .data, .sentinel, .sentinel], laidTests := true, laidLooks := .later }
def EventMovesUptoCardSaid : Prop := Claim7.holds Tryz.pinned (.plain (OpenSpec.upto eventMovesSpec)) eventMovesUptoCard

/-- THE SECOND FORM's CARD OF 'klippelaw29.EventUnknown'. -/
def eventUnknownUptoCard : Claim7 := { stood := { row := eventUnknownUptoRow, standIns := [], harness := (true, "0318d65ae98803e99901f72db5e29a71d1d17f289d7c99a9c651880203b8b6ca"), looks := true }, kinds := [], alts := [], laidByText := true, laidKinds := [.data, .data, .data, .sentinel, .sentinel], laidTests := true, laidLooks := .later }
def EventUnknownUptoCardSaid : Prop := Claim7.holds Tryz.pinned (.plain (OpenSpec.upto eventUnknownSpec)) eventUnknownUptoCard

/-- THE SECOND FORM's CARD OF 'klippelaw29.EventBack'. -/
def eventBackUptoCard : Claim7 := { stood := { row := eventBackUptoRow, standIns := [], harness := (true, "0318d65ae98803e99901f72db5e29a71d1d17f289d7c99a9c651880203b8b6ca"), looks := true }, kinds := [], alts := [], laidByText := true, laidKinds := [.data, .data, .data, .sentinel, .sentinel], laidTests := true, laidLooks := .later }
def EventBackUptoCardSaid : Prop := Claim7.holds Tryz.pinned (.plain (OpenSpec.upto eventBackSpec)) eventBackUptoCard
end Rows
end Go.Proofs.YtffdedmakncfmaaGreatDoor
