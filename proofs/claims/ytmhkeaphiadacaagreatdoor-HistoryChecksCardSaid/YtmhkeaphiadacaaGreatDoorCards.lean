/-
  DERIVED. GIVEN WITH THE SEED: THE CARDS: each row of YtmhkeaphiadacaaGreatDoorRows.lean that lists a variable, with what it lists TIED to the program's text (the seventh form; the later family's looks); each row that meets fmt, with fmt's text TOLD by the authors' own Lean function (tested against real Go, not proved from fmt's source: count such statements apart). THE CARD IS WHAT COUNTS. Prove the row's statement (the work); the ties are given (YtmhkeaphiadacaaGreatDoorTie.lean); close each card by the builder's one call (the guide's Derived/Test/ToyasCard.lean, 'card_holds'). Laid BY PROGRAM, IN A SANDBOX (cutbox-door.mjs). By AI agents, Wed Nov 11 2026. No macro, syntax, notation, axiom, sorry.
-/
import Derived.Test.YtmhkeaphiadacaaGreatDoorRows
import GoSem.ClaimSeven
namespace Go.Proofs.YtmhkeaphiadacaaGreatDoor
namespace Rows

/-- THE TIED CARD OF 'klippelaw30.HistoryAppends'. -/
def historyAppendsCard : Claim7 := { stood := { row := historyAppendsRow, standIns := [], harness := (true, "8549f6b540d19dce2b05e151ad42359cca4584b7cff8ae03f110ab6664c1dacf"), looks := true }, kinds := [], alts := [], laidByText := true, laidKinds := [.data, .data, .data, .sentinel, .sentinel], laidTests := true, laidLooks := .later }
def HistoryAppendsCardSaid : Prop := Claim7.holds Tryz.pinned (.plain (OpenSpec.ofChange historyAppendsSpec)) historyAppendsCard

/-- THE TIED CARD OF 'klippelaw30.HistoryParts'. -/
def historyPartsCard : Claim7 := { stood := { row := historyPartsRow, standIns := [], harness := (true, "8549f6b540d19dce2b05e151ad42359cca4584b7cff8ae03f110ab6664c1dacf"), looks := true }, kinds := [], alts := [], laidByText := true, laidKinds := [.data, .data, .data, .sentinel, .sentinel], laidTests := true, laidLooks := .later }
def HistoryPartsCardSaid : Prop := Claim7.holds Tryz.pinned (.plain (OpenSpec.ofChange historyPartsSpec)) historyPartsCard

/-- THE TIED CARD OF 'klippelaw30.HistoryChecks'. -/
def historyChecksCard : Claim7 := { stood := { row := historyChecksRow, standIns := [], harness := (true, "8549f6b540d19dce2b05e151ad42359cca4584b7cff8ae03f110ab6664c1dacf"), looks := true }, kinds := [], alts := [], laidByText := true, laidKinds := [.data, .data, .data, .sentinel, .sentinel], laidTests := true, laidLooks := .later }
def HistoryChecksCardSaid : Prop := Claim7.holds Tryz.pinned (.plain (OpenSpec.ofChange historyChecksSpec)) historyChecksCard

/-- THE SECOND FORM's CARD OF 'klippelaw30.HistoryAppends'. -/
def historyAppendsUptoCard : Claim7 := { stood := { row := historyAppendsUptoRow, standIns := [], harness := (true, "8549f6b540d19dce2b05e151ad42359cca4584b7cff8ae03f110ab6664c1dacf"), looks := true }, kinds := [], alts := [], laidByText := true, laidKinds := [.data, .data, .data, .sentinel, .sentinel], laidTests := true, laidLooks := .later }
def HistoryAppendsUptoCardSaid : Prop := Claim7.holds Tryz.pinned (.plain (OpenSpec.upto historyAppendsSpec)) historyAppendsUptoCard

/-- THE SECOND FORM's CARD OF 'klippelaw30.HistoryParts'. -/
def historyPartsUptoCard : Claim7 := { stood := { row := historyPartsUptoRow, standIns := [], harness := (true, "8549f6b540d19dce2b05e151ad42359cca4584b7cff8ae03f110ab6664c1dacf"), looks := true }, kinds := [], alts := [], laidByText := true, laidKinds := [.data, .data, .data, .sentinel, .sentinel], laidTests := true, laidLooks := .later }
def HistoryPartsUptoCardSaid : Prop := Claim7.holds Tryz.pinned (.plain (OpenSpec.upto historyPartsSpec)) historyPartsUptoCard

/-- THE SECOND FORM's CARD OF 'klippelaw30.HistoryChecks'. -/
def historyChecksUptoCard : Claim7 := { stood := { row := historyChecksUptoRow, standIns := [], harness := (true, "8549f6b540d19dce2b05e151ad42359cca4584b7cff8ae03f110ab6664c1dacf"), looks := true }, kinds := [], alts := [], laidByText := true, laidKinds := [.data, .data, .data, .sentinel, .sentinel], laidTests := true, laidLooks := .later }
def HistoryChecksUptoCardSaid : Prop := Claim7.holds Tryz.pinned (.plain (OpenSpec.upto historyChecksSpec)) historyChecksUptoCard
end Rows
end Go.Proofs.YtmhkeaphiadacaaGreatDoor
