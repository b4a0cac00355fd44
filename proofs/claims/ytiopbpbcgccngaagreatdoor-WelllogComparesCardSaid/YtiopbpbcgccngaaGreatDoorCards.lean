/-
  DERIVED. GIVEN WITH THE SEED: THE CARDS: each row of YtiopbpbcgccngaaGreatDoorRows.lean that lists a variable, with what it lists TIED to the program's text (the seventh form; the later family's looks); each row that meets fmt, with fmt's text TOLD by the authors' own Lean function (tested against real Go, not proved from fmt's source: count such statements apart). THE CARD IS WHAT COUNTS. Prove the row's statement (the work); the ties are given (YtiopbpbcgccngaaGreatDoorTie.lean); close each card by the builder's one call (the guide's Derived/Test/ToyasCard.lean, 'card_holds'). Laid BY PROGRAM, IN A SANDBOX (cutbox-door.mjs). By AI agents, Wed Nov 11 2026. No macro, syntax, notation, axiom, sorry.
-/
import Derived.Test.YtiopbpbcgccngaaGreatDoorRows
import GoSem.ClaimSeven
namespace Go.Proofs.YtiopbpbcgccngaaGreatDoor
namespace Rows

/-- THE TIED CARD OF 'klippelaw43.WelllogTops'. -/
def welllogTopsCard : Claim7 := { stood := { row := welllogTopsRow, standIns := [], harness := (true, "9eab3522df16a5c8b391370e4e0ee0c788f618622901efdfe2d7aa5ac60f9b57"), looks := true }, kinds := [], alts := [], laidByText := true, laidKinds := [.data, .data, .data, .sentinel, .sentinel], laidTests := true, laidLooks := .later }
def WelllogTopsCardSaid : Prop := Claim7.holds Tryz.pinned (.plain (OpenSpec.ofChange welllogTopsSpec)) welllogTopsCard

/-- THE TIED CARD OF 'klippelaw43.WelllogCompares'. -/
def welllogComparesCard : Claim7 := { stood := { row := welllogComparesRow, standIns := [], harness := (true, "9eab3522df16a5c8b391370e4e0ee0c788f618622901efdfe2d7aa5ac60f9b57"), looks := true }, kinds := [], alts := [], laidByText := true, laidKinds := [.data, .data, .data, .sentinel, .sentinel], laidTests := true, laidLooks := .later }
def WelllogComparesCardSaid : Prop := Claim7.holds Tryz.pinned (.plain (OpenSpec.ofChange welllogComparesSpec)) welllogComparesCard

/-- THE TIED CARD OF 'klippelaw43.WelllogUnits'. -/
def welllogUnitsCard : Claim7 := { stood := { row := welllogUnitsRow, standIns := [], harness := (true, "9eab3522df16a5c8b391370e4e0ee0c788f618622901efdfe2d7aa5ac60f9b57"), looks := true }, kinds := [], alts := [], laidByText := true, laidKinds := [.data, .data, .data, .sentinel, .sentinel], laidTests := true, laidLooks := .later }
def WelllogUnitsCardSaid : Prop := Claim7.holds Tryz.pinned (.plain (OpenSpec.ofChange welllogUnitsSpec)) welllogUnitsCard

/-- THE TIED CARD OF 'klippelaw43.WelllogCuts'. -/
def welllogCutsCard : Claim7 := { stood := { row := welllogCutsRow, standIns := [], harness := (true, "9eab3522df16a5c8b391370e4e0ee0c788f618622901efdfe2d7aa5ac60f9b57"), looks := true }, kinds := [], alts := [], laidByText := true, laidKinds := [.data, .data, .data, .sentinel, .sentinel], laidTests := true, laidLooks := .later }
def WelllogCutsCardSaid : Prop := Claim7.holds Tryz.pinned (.plain (OpenSpec.ofChange welllogCutsSpec)) welllogCutsCard

/-- THE TIED CARD OF 'klippelaw43.WelllogChecks'. -/
def welllogChecksCard : Claim7 := { stood := { row := welllogChecksRow, standIns := [], harness := (true, "9eab3522df16a5c8b391370e4e0ee0c788f618622901efdfe2d7aa5ac60f9b57"), looks := true }, kinds := [], alts := [], laidByText := true, laidKinds := [.data, .data, .data, .sentinel, .sentinel], laidTests := true, laidLooks := .later }
def WelllogChecksCardSaid : Prop := Claim7.holds Tryz.pinned (.plain (OpenSpec.ofChange welllogChecksSpec)) welllogChecksCard

/-- THE SECOND FORM's CARD OF 'klippelaw43.WelllogTops'. -/
def welllogTopsUptoCard : Claim7 := { stood := { row := welllogTopsUptoRow, standIns := [], harness := (true, "9eab3522df16a5c8b391370e4e0ee0c788f618622901efdfe2d7aa5ac60f9b57"), looks := true }, kinds := [], alts := [], laidByText := true, laidKinds := [.data, .data, .data, .sentinel, .sentinel], laidTests := true, laidLooks := .later }
def WelllogTopsUptoCardSaid : Prop := Claim7.holds Tryz.pinned (.plain (OpenSpec.upto welllogTopsSpec)) welllogTopsUptoCard

/-- THE SECOND FORM's CARD OF 'klippelaw43.WelllogCompares'. -/
def welllogComparesUptoCard : Claim7 := { stood := { row := welllogComparesUptoRow, standIns := [], harness := (true, "9eab3522df16a5c8b391370e4e0ee0c788f618622901efdfe2d7aa5ac60f9b57"), looks := true }, kinds := [], alts := [], laidByText := true, laidKinds := [.data, .data, .data, .sentinel, .sentinel], laidTests := true, laidLooks := .later }
def WelllogComparesUptoCardSaid : Prop := Claim7.holds Tryz.pinned (.plain (OpenSpec.upto welllogComparesSpec)) welllogComparesUptoCard

/-- THE SECOND FORM's CARD OF 'klippelaw43.WelllogUnits'. -/
def welllogUnitsUptoCard : Claim7 := { stood := { row := welllogUnitsUptoRow, standIns := [], harness := (true, "9eab3522df16a5c8b391370e4e0ee0c788f618622901efdfe2d7aa5ac60f9b57"), looks := true }, kinds := [], alts := [], laidByText := true, laidKinds := [.data, .data, .data, .sentinel, .sentinel], laidTests := true, laidLooks := .later }
def WelllogUnitsUptoCardSaid : Prop := Claim7.holds Tryz.pinned (.plain (OpenSpec.upto welllogUnitsSpec)) welllogUnitsUptoCard

/-- THE SECOND FORM's CARD OF 'klippelaw43.WelllogCuts'. -/
def welllogCutsUptoCard : Claim7 := { stood := { row := welllogCutsUptoRow, standIns := [], harness := (true, "9eab3522df16a5c8b391370e4e0ee0c788f618622901efdfe2d7aa5ac60f9b57"), looks := true }, kinds := [], alts := [], laidByText := true, laidKinds := [.data, .data, .data, .sentinel, .sentinel], laidTests := true, laidLooks := .later }
def WelllogCutsUptoCardSaid : Prop := Claim7.holds Tryz.pinned (.plain (OpenSpec.upto welllogCutsSpec)) welllogCutsUptoCard

/-- THE SECOND FORM's CARD OF 'klippelaw43.WelllogChecks'. -/
def welllogChecksUptoCard : Claim7 := { stood := { row := welllogChecksUptoRow, standIns := [], harness := (true, "9eab3522df16a5c8b391370e4e0ee0c788f618622901efdfe2d7aa5ac60f9b57"), looks := true }, kinds := [], alts := [], laidByText := true, laidKinds := [.data, .data, .data, .sentinel, .sentinel], laidTests := true, laidLooks := .later }
def WelllogChecksUptoCardSaid : Prop := Claim7.holds Tryz.pinned (.plain (OpenSpec.upto welllogChecksSpec)) welllogChecksUptoCard
end Rows
end Go.Proofs.YtiopbpbcgccngaaGreatDoor
