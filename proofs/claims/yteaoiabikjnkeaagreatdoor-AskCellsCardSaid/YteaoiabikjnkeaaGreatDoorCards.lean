/-
  DERIVED. GIVEN WITH THE SEED: THE CARDS: each row of YteaoiabikjnkeaaGreatDoorRows.lean that lists a variable, with what it lists TIED to the program's text (the seventh form; the later family's looks); each row that meets fmt, with fmt's text TOLD by the authors' own Lean function (tested against real Go, not proved from fmt's source: count such statements apart). THE CARD IS WHAT COUNTS. Prove the row's statement (the work); the ties are given (YteaoiabikjnkeaaGreatDoorTie.lean); close each card by the builder's one call (the guide's Derived/Test/ToyasCard.lean, 'card_holds'). Laid BY PROGRAM, IN A SANDBOX (cutbox-door.mjs). By AI agents, Wed Nov 11 2026. No macro, syntax, notation, axiom, sorry.
-/
import Derived.Test.YteaoiabikjnkeaaGreatDoorRows
import GoSem.ClaimSeven
namespace Go.Proofs.YteaoiabikjnkeaaGreatDoor
namespace Rows

/-- THE TIED CARD OF 'roundsmanlaw21.AskDist'. -/
def askDistCard : Claim7 := { stood := { row := askDistRow, standIns := [], harness := (true, "50a2035def9af4675d1cabe8bb01769292a43cd0b3e8ccc53597c94666fbfc99"), looks := true }, kinds := [], alts := [], laidByText := true, laidKinds := [.handle], laidTests := true, laidLooks := .later }
def AskDistCardSaid : Prop := Claim7.holds Tryz.pinned (.plain (OpenSpec.ofChange askDistSpec)) askDistCard

/-- THE TIED CARD OF 'roundsmanlaw21.AskPrices'. -/
def askPricesCard : Claim7 := { stood := { row := askPricesRow, standIns := [], harness := (true, "50a2035def9af4675d1cabe8bb01769292a43cd0b3e8ccc53597c94666fbfc99"), looks := true }, kinds := [], alts := [], laidByText := true, laidKinds := [.handle], laidTests := true, laidLooks := .later }
def AskPricesCardSaid : Prop := Claim7.holds Tryz.pinned (.plain (OpenSpec.ofChange askPricesSpec)) askPricesCard

/-- THE TIED CARD OF 'roundsmanlaw21.AskCells'. -/
def askCellsCard : Claim7 := { stood := { row := askCellsRow, standIns := [], harness := (true, "50a2035def9af4675d1cabe8bb01769292a43cd0b3e8ccc53597c94666fbfc99"), looks := true }, kinds := [], alts := [], laidByText := true, laidKinds := [.handle], laidTests := true, laidLooks := .later }
def AskCellsCardSaid : Prop := Claim7.holds Tryz.pinned (.plain (OpenSpec.ofChange askCellsSpec)) askCellsCard

/-- THE TIED CARD OF 'roundsmanlaw23.ManyRows'. -/
def manyRowsCard : Claim7 := { stood := { row := manyRowsRow, standIns := [], harness := (true, "50a2035def9af4675d1cabe8bb01769292a43cd0b3e8ccc53597c94666fbfc99"), looks := true }, kinds := [], alts := [], laidByText := true, laidKinds := [.handle], laidTests := true, laidLooks := .later }
def ManyRowsCardSaid : Prop := Claim7.holds Tryz.pinned (.plain (OpenSpec.ofChange manyRowsSpec)) manyRowsCard

/-- THE TIED CARD OF 'roundsmanlaw23.ManyMost'. -/
def manyMostCard : Claim7 := { stood := { row := manyMostRow, standIns := [], harness := (true, "50a2035def9af4675d1cabe8bb01769292a43cd0b3e8ccc53597c94666fbfc99"), looks := true }, kinds := [], alts := [], laidByText := true, laidKinds := [.handle], laidTests := true, laidLooks := .later }
def ManyMostCardSaid : Prop := Claim7.holds Tryz.pinned (.plain (OpenSpec.ofChange manyMostSpec)) manyMostCard

/-- THE TIED CARD OF 'roundsmanlaw21.AskLevels'. -/
def askLevelsCard : Claim7 := { stood := { row := askLevelsRow, standIns := [], harness := (true, "50a2035def9af4675d1cabe8bb01769292a43cd0b3e8ccc53597c94666fbfc99"), looks := true }, kinds := [], alts := [], laidByText := true, laidKinds := [.handle], laidTests := true, laidLooks := .later }
def AskLevelsCardSaid : Prop := Claim7.holds Tryz.pinned (.plain (OpenSpec.ofChange askLevelsSpec)) askLevelsCard

/-- THE TIED CARD OF 'roundsmanlaw21.AskChanged'. -/
def askChangedCard : Claim7 := { stood := { row := askChangedRow, standIns := [], harness := (true, "50a2035def9af4675d1cabe8bb01769292a43cd0b3e8ccc53597c94666fbfc99"), looks := true }, kinds := [], alts := [], laidByText := true, laidKinds := [.handle], laidTests := true, laidLooks := .later }
def AskChangedCardSaid : Prop := Claim7.holds Tryz.pinned (.plain (OpenSpec.ofChange askChangedSpec)) askChangedCard

/-- THE TIED CARD OF 'roundsmanlaw23.ManyEach'. -/
def manyEachCard : Claim7 := { stood := { row := manyEachRow, standIns := [], harness := (true, "50a2035def9af4675d1cabe8bb01769292a43cd0b3e8ccc53597c94666fbfc99"), looks := true }, kinds := [], alts := [], laidByText := true, laidKinds := [.handle], laidTests := true, laidLooks := .later }
def ManyEachCardSaid : Prop := Claim7.holds Tryz.pinned (.plain (OpenSpec.ofChange manyEachSpec)) manyEachCard

/-- THE TIED CARD OF 'roundsmanlaw22.PathLeaps'. -/
def pathLeapsCard : Claim7 := { stood := { row := pathLeapsRow, standIns := [], harness := (true, "50a2035def9af4675d1cabe8bb01769292a43cd0b3e8ccc53597c94666fbfc99"), looks := true }, kinds := [], alts := [], laidByText := true, laidKinds := [.handle], laidTests := true, laidLooks := .later }
def PathLeapsCardSaid : Prop := Claim7.holds Tryz.pinned (.plain (OpenSpec.ofChange pathLeapsSpec)) pathLeapsCard

/-- THE TIED CARD OF 'roundsmanlaw22.PathEntries'. -/
def pathEntriesCard : Claim7 := { stood := { row := pathEntriesRow, standIns := [], harness := (true, "50a2035def9af4675d1cabe8bb01769292a43cd0b3e8ccc53597c94666fbfc99"), looks := true }, kinds := [], alts := [], laidByText := true, laidKinds := [.handle], laidTests := true, laidLooks := .later }
def PathEntriesCardSaid : Prop := Claim7.holds Tryz.pinned (.plain (OpenSpec.ofChange pathEntriesSpec)) pathEntriesCard

/-- THE TIED CARD OF 'roundsmanlaw22.PathParts'. -/
def pathPartsCard : Claim7 := { stood := { row := pathPartsRow, standIns := [], harness := (true, "50a2035def9af4675d1cabe8bb01769292a43cd0b3e8ccc53597c94666fbfc99"), looks := true }, kinds := [], alts := [], laidByText := true, laidKinds := [.handle], laidTests := true, laidLooks := .later }
def PathPartsCardSaid : Prop := Claim7.holds Tryz.pinned (.plain (OpenSpec.ofChange pathPartsSpec)) pathPartsCard

/-- THE TIED CARD OF 'roundsmanlaw22.PathShut'. -/
def pathShutCard : Claim7 := { stood := { row := pathShutRow, standIns := [], harness := (true, "50a2035def9af4675d1cabe8bb01769292a43cd0b3e8ccc53597c94666fbfc99"), looks := true }, kinds := [], alts := [], laidByText := true, laidKinds := [.handle], laidTests := true, laidLooks := .later }
def PathShutCardSaid : Prop := Claim7.holds Tryz.pinned (.plain (OpenSpec.ofChange pathShutSpec)) pathShutCard

/-- THE SECOND FORM's CARD OF 'roundsmanlaw21.AskDist'. -/
def askDistUptoCard : Claim7 := { stood := { row := askDistUptoRow, standIns := [], harness := (true, "50a2035def9af4675d1cabe8bb01769292a43cd0b3e8ccc53597c94666fbfc99"), looks := true }, kinds := [], alts := [], laidByText := true, laidKinds := [.handle], laidTests := true, laidLooks := .later }
def AskDistUptoCardSaid : Prop := Claim7.holds Tryz.pinned (.plain (OpenSpec.upto askDistSpec)) askDistUptoCard

/-- THE SECOND FORM's CARD OF 'roundsmanlaw21.AskPrices'. -/
def askPricesUptoCard : Claim7 := { stood := { row := askPricesUptoRow, standIns := [], harness := (true, "50a2035def9af4675d1cabe8bb01769292a43cd0b3e8ccc53597c94666fbfc99"), looks := true }, kinds := [], alts := [], laidByText := true, laidKinds := [.handle], laidTests := true, laidLooks := .later }
def AskPricesUptoCardSaid : Prop := Claim7.holds Tryz.pinned (.plain (OpenSpec.upto askPricesSpec)) askPricesUptoCard

/-- THE SECOND FORM's CARD OF 'roundsmanlaw21.AskCells'. -/
def askCellsUptoCard : Claim7 := { stood := { row := askCellsUptoRow, standIns := [], harness := (true, "50a2035def9af4675d1cabe8bb01769292a43cd0b3e8ccc53597c94666fbfc99"), looks := true }, kinds := [], alts := [], laidByText := true, laidKinds := [.handle], laidTests := true, laidLooks := .later }
def AskCellsUptoCardSaid : Prop := Claim7.holds Tryz.pinned (.plain (OpenSpec.upto askCellsSpec)) askCellsUptoCard

/-- THE SECOND FORM's CARD OF 'roundsmanlaw23.ManyRows'. -/
def manyRowsUptoCard : Claim7 := { stood := { row := manyRowsUptoRow, standIns := [], harness := (true, "50a2035def9af4675d1cabe8bb01769292a43cd0b3e8ccc53597c94666fbfc99"), looks := true }, kinds := [], alts := [], laidByText := true, laidKinds := [.handle], laidTests := true, laidLooks := .later }
def ManyRowsUptoCardSaid : Prop := Claim7.holds Tryz.pinned (.plain (OpenSpec.upto manyRowsSpec)) manyRowsUptoCard

/-- THE SECOND FORM's CARD OF 'roundsmanlaw23.ManyMost'. -/
def manyMostUptoCard : Claim7 := { stood := { row := manyMostUptoRow, standIns := [], harness := (true, "50a2035def9af4675d1cabe8bb01769292a43cd0b3e8ccc53597c94666fbfc99"), looks := true }, kinds := [], alts := [], laidByText := true, laidKinds := [.handle], laidTests := true, laidLooks := .later }
def ManyMostUptoCardSaid : Prop := Claim7.holds Tryz.pinned (.plain (OpenSpec.upto manyMostSpec)) manyMostUptoCard

/-- THE SECOND FORM's CARD OF 'roundsmanlaw21.AskLevels'. -/
def askLevelsUptoCard : Claim7 := { stood := { row := askLevelsUptoRow, standIns := [], harness := (true, "50a2035def9af4675d1cabe8bb01769292a43cd0b3e8ccc53597c94666fbfc99"), looks := true }, kinds := [], alts := [], laidByText := true, laidKinds := [.handle], laidTests := true, laidLooks := .later }
def AskLevelsUptoCardSaid : Prop := Claim7.holds Tryz.pinned (.plain (OpenSpec.upto askLevelsSpec)) askLevelsUptoCard

/-- THE SECOND FORM's CARD OF 'roundsmanlaw21.AskChanged'. -/
def askChangedUptoCard : Claim7 := { stood := { row := askChangedUptoRow, standIns := [], harness := (true, "50a2035def9af4675d1cabe8bb01769292a43cd0b3e8ccc53597c94666fbfc99"), looks := true }, kinds := [], alts := [], laidByText := true, laidKinds := [.handle], laidTests := true, laidLooks := .later }
def AskChangedUptoCardSaid : Prop := Claim7.holds Tryz.pinned (.plain (OpenSpec.upto askChangedSpec)) askChangedUptoCard

/-- THE SECOND FORM's CARD OF 'roundsmanlaw23.ManyEach'. -/
def manyEachUptoCard : Claim7 := { stood := { row := manyEachUptoRow, standIns := [], harness := (true, "50a2035def9af4675d1cabe8bb01769292a43cd0b3e8ccc53597c94666fbfc99"), looks := true }, kinds := [], alts := [], laidByText := true, laidKinds := [.handle], laidTests := true, laidLooks := .later }
def ManyEachUptoCardSaid : Prop := Claim7.holds Tryz.pinned (.plain (OpenSpec.upto manyEachSpec)) manyEachUptoCard

/-- THE SECOND FORM's CARD OF 'roundsmanlaw22.PathLeaps'. -/
def pathLeapsUptoCard : Claim7 := { stood := { row := pathLeapsUptoRow, standIns := [], harness := (true, "50a2035def9af4675d1cabe8bb01769292a43cd0b3e8ccc53597c94666fbfc99"), looks := true }, kinds := [], alts := [], laidByText := true, laidKinds := [.handle], laidTests := true, laidLooks := .later }
def PathLeapsUptoCardSaid : Prop := Claim7.holds Tryz.pinned (.plain (OpenSpec.upto pathLeapsSpec)) pathLeapsUptoCard

/-- THE SECOND FORM's CARD OF 'roundsmanlaw22.PathEntries'. -/
def pathEntriesUptoCard : Claim7 := { stood := { row := pathEntriesUptoRow, standIns := [], harness := (true, "50a2035def9af4675d1cabe8bb01769292a43cd0b3e8ccc53597c94666fbfc99"), looks := true }, kinds := [], alts := [], laidByText := true, laidKinds := [.handle], laidTests := true, laidLooks := .later }
def PathEntriesUptoCardSaid : Prop := Claim7.holds Tryz.pinned (.plain (OpenSpec.upto pathEntriesSpec)) pathEntriesUptoCard

/-- THE SECOND FORM's CARD OF 'roundsmanlaw22.PathParts'. -/
def pathPartsUptoCard : Claim7 := { stood := { row := pathPartsUptoRow, standIns := [], harness := (true, "50a2035def9af4675d1cabe8bb01769292a43cd0b3e8ccc53597c94666fbfc99"), looks := true }, kinds := [], alts := [], laidByText := true, laidKinds := [.handle], laidTests := true, laidLooks := .later }
def PathPartsUptoCardSaid : Prop := Claim7.holds Tryz.pinned (.plain (OpenSpec.upto pathPartsSpec)) pathPartsUptoCard

/-- THE SECOND FORM's CARD OF 'roundsmanlaw22.PathShut'. -/
def pathShutUptoCard : Claim7 := { stood := { row := pathShutUptoRow, standIns := [], harness := (true, "50a2035def9af4675d1cabe8bb01769292a43cd0b3e8ccc53597c94666fbfc99"), looks := true }, kinds := [], alts := [], laidByText := true, laidKinds := [.handle], laidTests := true, laidLooks := .later }
def PathShutUptoCardSaid : Prop := Claim7.holds Tryz.pinned (.plain (OpenSpec.upto pathShutSpec)) pathShutUptoCard
end Rows
end Go.Proofs.YteaoiabikjnkeaaGreatDoor
