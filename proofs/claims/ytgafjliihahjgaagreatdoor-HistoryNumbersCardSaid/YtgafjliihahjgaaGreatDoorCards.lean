/-
  DERIVED. GIVEN WITH THE SEED: THE CARDS: each row of YtgafjliihahjgaaGreatDoorRows.lean that lists a variable, with what it lists TIED to the program's text (the seventh form; the later family's looks); each row that meets fmt, with fmt's text TOLD by the authors' own Lean function (tested against real Go, not proved from fmt's source: count such statements apart). THE CARD IS WHAT COUNTS. Prove the row's statement (the work); the ties are given (YtgafjliihahjgaaGreatDoorTie.lean); close each card by the builder's one call (the guide's Derived/Test/ToyasCard.lean, 'card_holds'). Laid BY PROGRAM, IN A SANDBOX (cutbox-door.mjs). By AI agents, Wed Nov 11 2026. No macro, syntax, notation, axiom, sorry.
-/
import Derived.Test.YtgafjliihahjgaaGreatDoorRows
import GoSem.ClaimSeven
namespace Go.Proofs.YtgafjliihahjgaaGreatDoor
namespace Rows

/-- THE TIED CARD OF 'klippelaw30.HistoryNumbers'. -/
def historyNumbersCard : Claim7 := { stood := { row := historyNumbersRow, standIns := [], harness := (true, "38f41fdbcb41c24cbc49437be12605b477909db92ecfa6392cc0b6bdb1584288"), looks := true }, kinds := [], alts := [], laidByText := true, laidKinds := [.data, .data, .data, .sentinel, .sentinel], laidTests := true, laidLooks := .later }
def HistoryNumbersCardSaid : Prop := Claim7.holds Tryz.pinned (.plain (OpenSpec.ofChange historyNumbersSpec)) historyNumbersCard

/-- THE TIED CARD OF 'klippelaw30.HistoryReturns'. -/
def historyReturnsCard : Claim7 := { stood := { row := historyReturnsRow, standIns := [], harness := (true, "38f41fdbcb41c24cbc49437be12605b477909db92ecfa6392cc0b6bdb1584288"), looks := true }, kinds := [], alts := [], laidByText := true, laidKinds := [.data, .data, .data, .sentinel, .sentinel], laidTests := true, laidLooks := .later }
def HistoryReturnsCardSaid : Prop := Claim7.holds Tryz.pinned (.plain (OpenSpec.ofChange historyReturnsSpec)) historyReturnsCard

/-- THE TIED CARD OF 'klippelaw30.HistoryMoves'. -/
def historyMovesCard : Claim7 := { stood := { row := historyMovesRow, standIns := [], harness := (true, "38f41fdbcb41c24cbc49437be12605b477909db92ecfa6392cc0b6bdb1584288"), looks := true }, kinds := [], alts := [], laidByText := true, laidKinds := [.data, .data, .data, .sentinel, .sentinel], laidTests := true, laidLooks := .later }
def HistoryMovesCardSaid : Prop := Claim7.holds Tryz.pinned (.plain (OpenSpec.ofChange historyMovesSpec)) historyMovesCard

/-- THE TIED CARD OF 'klippelaw30.HistoryFollows'. -/
def historyFollowsCard : Claim7 := { stood := { row := historyFollowsRow, standIns := [], harness := (true, "38f41fdbcb41c24cbc49437be12605b477909db92ecfa6392cc0b6bdb1584288"), looks := true }, kinds := [], alts := [], laidByText := true, laidKinds := [.data, .data, .data, .sentinel, .sentinel], laidTests := true, laidLooks := .later }
def HistoryFollowsCardSaid : Prop := Claim7.holds Tryz.pinned (.plain (OpenSpec.ofChange historyFollowsSpec)) historyFollowsCard

/-- THE SECOND FORM's CARD OF 'klippelaw30.HistoryNumbers'. -/
def historyNumbersUptoCard : Claim7 := { stood := { row := historyNumbersUptoRow, standIns := [], harness := (true, "38f41fdbcb41c24cbc49437be12605b477909db92ecfa6392cc0b6bdb1584288"), looks := true }, kinds := [], alts := [], laidByText := true, laidKinds := [.data, .data, .data, .sentinel, .sentinel], laidTests := true, laidLooks := .later }
def HistoryNumbersUptoCardSaid : Prop := Claim7.holds Tryz.pinned (.plain (OpenSpec.upto historyNumbersSpec)) historyNumbersUptoCard

/-- THE SECOND FORM's CARD OF 'klippelaw30.HistoryReturns'. -/
def historyReturnsUptoCard : Claim7 := { stood := { row := historyReturnsUptoRow, standIns := [], harness := (true, "38f41fdbcb41c24cbc49437be12605b477909db92ecfa6392cc0b6bdb1584288"), looks := true }, kinds := [], alts := [], laidByText := true, laidKinds := [.data, .data, .data, .sentinel, .sentinel], laidTests := true, laidLooks := .later }
def HistoryReturnsUptoCardSaid : Prop := Claim7.holds Tryz.pinned (.plain (OpenSpec.upto historyReturnsSpec)) historyReturnsUptoCard

/-- THE SECOND FORM's CARD OF 'klippelaw30.HistoryMoves'. -/
def historyMovesUptoCard : Claim7 := { stood := { row := historyMovesUptoRow, standIns := [], harness := (true, "38f41fdbcb41c24cbc49437be12605b477909db92ecfa6392cc0b6bdb1584288"), looks := true }, kinds := [], alts := [], laidByText := true, laidKinds := [.data, .data, .data, .sentinel, .sentinel], laidTests := true, laidLooks := .later }
def HistoryMovesUptoCardSaid : Prop := Claim7.holds Tryz.pinned (.plain (OpenSpec.upto historyMovesSpec)) historyMovesUptoCard

/-- THE SECOND FORM's CARD OF 'klippelaw30.HistoryFollows'. -/
def historyFollowsUptoCard : Claim7 := { stood := { row := historyFollowsUptoRow, standIns := [], harness := (true, "38f41fdbcb41c24cbc49437be12605b477909db92ecfa6392cc0b6bdb1584288"), looks := true }, kinds := [], alts := [], laidByText := true, laidKinds := [.data, .data, .data, .sentinel, .sentinel], laidTests := true, laidLooks := .later }
def HistoryFollowsUptoCardSaid : Prop := Claim7.holds Tryz.pinned (.plain (OpenSpec.upto historyFollowsSpec)) historyFollowsUptoCard
end Rows
end Go.Proofs.YtgafjliihahjgaaGreatDoor
