/-
  DERIVED. GIVEN WITH THE SEED: THE CARDS: each row of YthpgbelancmpjaaGreatDoorRows.lean that lists a variable, with what it lists TIED to the program's text (the seventh form; the later family's looks); each row that meets fmt, with fmt's text TOLD by the authors' own Lean function (tested against real Go, not proved from fmt's source: count such statements apart). THE CARD IS WHAT COUNTS. Prove the row's statement (the work); the ties are given (YthpgbelancmpjaaGreatDoorTie.lean); close each card by the builder's one call (the guide's Derived/Test/ToyasCard.lean, 'card_holds'). Laid BY PROGRAM, IN A SANDBOX (cutbox-door.mjs). By AI agents, Wed Nov 11 2026. No macro, syntax, notation, axiom, sorry.
-/
import Derived.Test.YthpgbelancmpjaaGreatDoorRows
import GoSem.ClaimSeven
namespace Go.Proofs.YthpgbelancmpjaaGreatDoor
namespace Rows

/-- THE TIED CARD OF 'klippelaw29.EventPlanes'. -/
def eventPlanesCard : Claim7 := { stood := { row := eventPlanesRow, standIns := [], harness := (true, "74a34921920eb3870d68da733564cd9dee90ad52aeb7b3408c8480495735d049"), looks := true }, kinds := [], alts := [], laidByText := true, laidKinds := [.data, .data, .data, .sentinel, .sentinel], laidTests := true, laidLooks := .later }
def EventPlanesCardSaid : Prop := Claim7.holds Tryz.pinned (.plain (OpenSpec.ofChange eventPlanesSpec)) eventPlanesCard

/-- THE TIED CARD OF 'klippelaw29.EventNumbers'. -/
def eventNumbersCard : Claim7 := { stood := { row := eventNumbersRow, standIns := [], harness := (true, "74a34921920eb3870d68da733564cd9dee90ad52aeb7b3408c8480495735d049"), looks := true }, kinds := [], alts := [], laidByText := true, laidKinds := [.data, .data, .data, .sentinel, .sentinel], laidTests := true, laidLooks := .later }
def EventNumbersCardSaid : Prop := Claim7.holds Tryz.pinned (.plain (OpenSpec.ofChange eventNumbersSpec)) eventNumbersCard

/-- THE TIED CARD OF 'klippelaw29.EventReturns'. -/
def eventReturnsCard : Claim7 := { stood := { row := eventReturnsRow, standIns := [], harness := (true, "74a34921920eb3870d68da733564cd9dee90ad52aeb7b3408c8480495735d049"), looks := true }, kinds := [], alts := [], laidByText := true, laidKinds := [.data, .data, .data, .sentinel, .sentinel], laidTests := true, laidLooks := .later }
def EventReturnsCardSaid : Prop := Claim7.holds Tryz.pinned (.plain (OpenSpec.ofChange eventReturnsSpec)) eventReturnsCard

/-- THE TIED CARD OF 'klippelaw29.EventChecks'. -/
def eventChecksCard : Claim7 := { stood := { row := eventChecksRow, standIns := [], harness := (true, "74a34921920eb3870d68da733564cd9dee90ad52aeb7b3408c8480495735d049"), looks := true }, kinds := [], alts := [], laidByText := true, laidKinds := [.data, .data, .data, .sentinel, .sentinel], laidTests := true, laidLooks := .later }
def EventChecksCardSaid : Prop := Claim7.holds Tryz.pinned (.plain (OpenSpec.ofChange eventChecksSpec)) eventChecksCard

/-- THE SECOND FORM's CARD OF 'klippelaw29.EventPlanes'. -/
def eventPlanesUptoCard : Claim7 := { stood := { row := eventPlanesUptoRow, standIns := [], harness := (true, "74a34921920eb3870d68da733564cd9dee90ad52aeb7b3408c8480495735d049"), looks := true }, kinds := [], alts := [], laidByText := true, laidKinds := [.data, .data, .data, .sentinel, .sentinel], laidTests := true, laidLooks := .later }
def EventPlanesUptoCardSaid : Prop := Claim7.holds Tryz.pinned (.plain (OpenSpec.upto eventPlanesSpec)) eventPlanesUptoCard

/-- THE SECOND FORM's CARD OF 'klippelaw29.EventNumbers'. -/
def eventNumbersUptoCard : Claim7 := { stood := { row := eventNumbersUptoRow, standIns := [], harness := (true, "74a34921920eb3870d68da733564cd9dee90ad52aeb7b3408c8480495735d049"), looks := true }, kinds := [], alts := [], laidByText := true, laidKinds := [.data, .data, .data, .sentinel, .sentinel], laidTests := true, laidLooks := .later }
def EventNumbersUptoCardSaid : Prop := Claim7.holds Tryz.pinned (.plain (OpenSpec.upto eventNumbersSpec)) eventNumbersUptoCard

/-- THE SECOND FORM's CARD OF 'klippelaw29.EventReturns'. -/
def eventReturnsUptoCard : Claim7 := { stood := { row := eventReturnsUptoRow, standIns := [], harness := (true, "74a34921920eb3870d68da733564cd9dee90ad52aeb7b3408c8480495735d049"), looks := true }, kinds := [], alts := [], laidByText := true, laidKinds := [.data, .data, .data, .sentinel, .sentinel], laidTests := true, laidLooks := .later }
def EventReturnsUptoCardSaid : Prop := Claim7.holds Tryz.pinned (.plain (OpenSpec.upto eventReturnsSpec)) eventReturnsUptoCard

/-- THE SECOND FORM's CARD OF 'klippelaw29.EventChecks'. -/
def eventChecksUptoCard : Claim7 := { stood := { row := eventChecksUptoRow, standIns := [], harness := (true, "74a34921920eb3870d68da733564cd9dee90ad52aeb7b3408c8480495735d049"), looks := true }, kinds := [], alts := [], laidByText := true, laidKinds := [.data, .data, .data, .sentinel, .sentinel], laidTests := true, laidLooks := .later }
def EventChecksUptoCardSaid : Prop := Claim7.holds Tryz.pinned (.plain (OpenSpec.upto eventChecksSpec)) eventChecksUptoCard
end Rows
end Go.Proofs.YthpgbelancmpjaaGreatDoor
