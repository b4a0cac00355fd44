/-
  DERIVED. GIVEN WITH THE SEED: THE CARDS: each row of YtahfjdgeebjiaaaGreatDoorRows.lean that lists a variable, with what it lists TIED to the program's text (the seventh form; the later family's looks); each row that meets fmt, with fmt's text TOLD by the authors' own Lean function (tested against real Go, not proved from fmt's source: count such statements apart). THE CARD IS WHAT COUNTS. Prove the row's statement (the work); the ties are given (YtahfjdgeebjiaaaGreatDoorTie.lean); close each card by the builder's one call (the guide's Derived/Test/ToyasCard.lean, 'card_holds'). Laid BY PROGRAM, IN A SANDBOX (cutbox-door.mjs). By AI agents, Wed Nov 11 2026. No macro, syntax, notation, axiom, sorry.
-/
import Derived.Test.YtahfjdgeebjiaaaGreatDoorRows
import GoSem.ClaimSeven
namespace Go.Proofs.YtahfjdgeebjiaaaGreatDoor
namespace Rows

/-- THE TIED CARD OF 'klippelaw30.HistoryRanks'. -/
def historyRanksCard : Claim7 := { stood := { row := historyRanksRow, standIns := [], harness := (true, "d976ce6e159c9476462327590d89ddbd84ea140f394d5bdcde75f261a6add298"), looks := true }, kinds := [], alts := [], laidByText := true, laidKinds := [.data, .data, .data, .sentinel, .sentinel], laidTests := true, laidLooks := .later }
def HistoryRanksCardSaid : Prop := Claim7.holds Tryz.pinned (.plain (OpenSpec.ofChange historyRanksSpec)) historyRanksCard

/-- THE TIED CARD OF 'klippelaw30.HistoryRelations'. -/
def historyRelationsCard : Claim7 := { stood := { row := historyRelationsRow, standIns := [], harness := (true, "d976ce6e159c9476462327590d89ddbd84ea140f394d5bdcde75f261a6add298"), looks := true }, kinds := [], alts := [], laidByText := true, laidKinds := [.data, .data, .data, .sentinel, .sentinel], laidTests := true, laidLooks := .later }
def HistoryRelationsCardSaid : Prop := Claim7.holds Tryz.pinned (.plain (OpenSpec.ofChange historyRelationsSpec)) historyRelationsCard

/-- THE TIED CARD OF 'klippelaw36.ContactRelations'. -/
def contactRelationsCard : Claim7 := { stood := { row := contactRelationsRow, standIns := [], harness := (true, "d976ce6e159c9476462327590d89ddbd84ea140f394d5bdcde75f261a6add298"), looks := true }, kinds := [], alts := [], laidByText := true, laidKinds := [.data, .data, .data, .sentinel, .sentinel], laidTests := true, laidLooks := .later }
def ContactRelationsCardSaid : Prop := Claim7.holds Tryz.pinned (.plain (OpenSpec.ofChange contactRelationsSpec)) contactRelationsCard

/-- THE SECOND FORM's CARD OF 'klippelaw30.HistoryRanks'. -/
def historyRanksUptoCard : Claim7 := { stood := { row := historyRanksUptoRow, standIns := [], harness := (true, "d976ce6e159c9476462327590d89ddbd84ea140f394d5bdcde75f261a6add298"), looks := true }, kinds := [], alts := [], laidByText := true, laidKinds := [.data, .data, .data, .sentinel, .sentinel], laidTests := true, laidLooks := .later }
def HistoryRanksUptoCardSaid : Prop := Claim7.holds Tryz.pinned (.plain (OpenSpec.upto historyRanksSpec)) historyRanksUptoCard

/-- THE SECOND FORM's CARD OF 'klippelaw30.HistoryRelations'. -/
def historyRelationsUptoCard : Claim7 := { stood := { row := historyRelationsUptoRow, standIns := [], harness := (true, "d976ce6e159c9476462327590d89ddbd84ea140f394d5bdcde75f261a6add298"), looks := true }, kinds := [], alts := [], laidByText := true, laidKinds := [.data, .data, .data, .sentinel, .sentinel], laidTests := true, laidLooks := .later }
def HistoryRelationsUptoCardSaid : Prop := Claim7.holds Tryz.pinned (.plain (OpenSpec.upto historyRelationsSpec)) historyRelationsUptoCard

/-- THE SECOND FORM's CARD OF 'klippelaw36.ContactRelations'. -/
def contactRelationsUptoCard : Claim7 := { stood := { row := contactRelationsUptoRow, standIns := [], harness := (true, "d976ce6e159c9476462327590d89ddbd84ea140f394d5bdcde75f261a6add298"), looks := true }, kinds := [], alts := [], laidByText := true, laidKinds := [.data, .data, .data, .sentinel, .sentinel], laidTests := true, laidLooks := .later }
def ContactRelationsUptoCardSaid : Prop := Claim7.holds Tryz.pinned (.plain (OpenSpec.upto contactRelationsSpec)) contactRelationsUptoCard
end Rows
end Go.Proofs.YtahfjdgeebjiaaaGreatDoor
