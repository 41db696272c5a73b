/-
  DERIVED. GIVEN WITH THE SEED: THE CARDS: each row of YtdheeddnkdhfeaaGreatDoorRows.lean that lists a variable, with what it lists TIED to the program's text (the seventh form; the later family's looks); each row that meets fmt, with fmt's text TOLD by the authors' own Lean function (tested against real Go, not proved from fmt's source: count such statements apart). THE CARD IS WHAT COUNTS. Prove the row's statement (the work); the ties are given (YtdheeddnkdhfeaaGreatDoorTie.lean); close each card by the builder's one call (the guide's Derived/Test/ToyasCard.lean, 'card_holds'). Laid BY PROGRAM, IN A SANDBOX (cutbox-door.mjs). By AI agents, Wed Nov 11 2026. No macro, syntax, notation, axiom, sorry.
-/
import Derived.Test.YtdheeddnkdhfeaaGreatDoorRows
import GoSem.ClaimSeven
namespace Go.Proofs.YtdheeddnkdhfeaaGreatDoor
namespace Rows

/-- THE TIED CARD OF 'roundsmanlaw21.AskChanged'. -/
def askChangedCard : Claim7 := { stood := { row := askChangedRow, standIns := [], harness := (true, "e050398fe6459b335d862d199e00ee26368d24a03f5a06a9ac40ea2e9df76a20"), looks := true }, kinds := [], alts := [], laidByText := true, laidKinds := [.handle], laidTests := true, laidLooks := .later }
def AskChangedCardSaid : Prop := Claim7.holds Tryz.pinned (.plain (OpenSpec.ofChange askChangedSpec)) askChangedCard

/-- THE TIED CARD OF 'roundsmanlaw22.PathLeaps'. -/
def pathLeapsCard : Claim7 := { stood := { row := pathLeapsRow, standIns := [], harness := (true, "e050398fe6459b335d862d199e00ee26368d24a03f5a06a9ac40ea2e9df76a20"), looks := true }, kinds := [], alts := [], laidByText := true, laidKinds := [.handle], laidTests := true, laidLooks := .later }
def PathLeapsCardSaid : Prop := Claim7.holds Tryz.pinned (.plain (OpenSpec.ofChange pathLeapsSpec)) pathLeapsCard

/-- THE TIED CARD OF 'roundsmanlaw22.PathEntries'. -/
def pathEntriesCard : Claim7 := { stood := { row := pathEntriesRow, standIns := [], harness := (true, "e050398fe6459b335d862d199e00ee26368d24a03f5a06a9ac40ea2e9df76a20"), looks := true }, kinds := [], alts := [], laidByText := true, laidKinds := [.handle], laidTests := true, laidLooks := .later }
def PathEntriesCardSaid : Prop := Claim7.holds Tryz.pinned (.plain (OpenSpec.ofChange pathEntriesSpec)) pathEntriesCard

/-- THE TIED CARD OF 'roundsmanlaw22.PathParts'. -/
def pathPartsCard : Claim7 := { stood := { row := pathPartsRow, standIns := [], harness := (true, "e050398fe6459b335d862d199e00ee26368d24a03f5a06a9ac40ea2e9df76a20"), looks := true }, kinds := [], alts := [], laidByText := true, laidKinds := [.handle], laidTests := true, laidLooks := .later }
def PathPartsCardSaid : Prop := Claim7.holds Tryz.pinned (.plain (OpenSpec.ofChange pathPartsSpec)) pathPartsCard

/-- THE TIED CARD OF 'roundsmanlaw22.PathShut'. -/
def pathShutCard : Claim7 := { stood := { row := pathShutRow, standIns := [], harness := (true, "e050398fe6459b335d862d199e00ee26368d24a03f5a06a9ac40ea2e9df76a20"), looks := true }, kinds := [], alts := [], laidByText := true, laidKinds := [.handle], laidTests := true, laidLooks := .later }
def PathShutCardSaid : Prop := Claim7.holds Tryz.pinned (.plain (OpenSpec.ofChange pathShutSpec)) pathShutCard

/-- THE SECOND FORM's CARD OF 'roundsmanlaw21.AskChanged'. -/
def askChangedUptoCard : Claim7 := { stood := { row := askChangedUptoRow, standIns := [], harness := (true, "e050398fe6459b335d862d199e00ee26368d24a03f5a06a9ac40ea2e9df76a20"), looks := true }, kinds := [], alts := [], laidByText := true, laidKinds := [.handle], laidTests := true, laidLooks := .later }
def AskChangedUptoCardSaid : Prop := Claim7.holds Tryz.pinned (.plain (OpenSpec.upto askChangedSpec)) askChangedUptoCard

/-- THE SECOND FORM's CARD OF 'roundsmanlaw22.PathLeaps'. -/
def pathLeapsUptoCard : Claim7 := { stood := { row := pathLeapsUptoRow, standIns := [], harness := (true, "e050398fe6459b335d862d199e00ee26368d24a03f5a06a9ac40ea2e9df76a20"), looks := true }, kinds := [], alts := [], laidByText := true, laidKinds := [.handle], laidTests := true, laidLooks := .later }
def PathLeapsUptoCardSaid : Prop := Claim7.holds Tryz.pinned (.plain (OpenSpec.upto pathLeapsSpec)) pathLeapsUptoCard

/-- THE SECOND FORM's CARD OF 'roundsmanlaw22.PathEntries'. -/
def pathEntriesUptoCard : Claim7 := { stood := { row := pathEntriesUptoRow, standIns := [], harness := (true, "e050398fe6459b335d862d199e00ee26368d24a03f5a06a9ac40ea2e9df76a20"), looks := true }, kinds := [], alts := [], laidByText := true, laidKinds := [.handle], laidTests := true, laidLooks := .later }
def PathEntriesUptoCardSaid : Prop := Claim7.holds Tryz.pinned (.plain (OpenSpec.upto pathEntriesSpec)) pathEntriesUptoCard

/-- THE SECOND FORM's CARD OF 'roundsmanlaw22.PathParts'. -/
def pathPartsUptoCard : Claim7 := { stood := { row := pathPartsUptoRow, standIns := [], harness := (true, "e050398fe6459b335d862d199e00ee26368d24a03f5a06a9ac40ea2e9df76a20"), looks := true }, kinds := [], alts := [], laidByText := true, laidKinds := [.handle], laidTests := true, laidLooks := .later }
def PathPartsUptoCardSaid : Prop := Claim7.holds Tryz.pinned (.plain (OpenSpec.upto pathPartsSpec)) pathPartsUptoCard

/-- THE SECOND FORM's CARD OF 'roundsmanlaw22.PathShut'. -/
def pathShutUptoCard : Claim7 := { stood := { row := pathShutUptoRow, standIns := [], harness := (true, "e050398fe6459b335d862d199e00ee26368d24a03f5a06a9ac40ea2e9df76a20"), looks := true }, kinds := [], alts := [], laidByText := true, laidKinds := [.handle], laidTests := true, laidLooks := .later }
def PathShutUptoCardSaid : Prop := Claim7.holds Tryz.pinned (.plain (OpenSpec.upto pathShutSpec)) pathShutUptoCard
end Rows
end Go.Proofs.YtdheeddnkdhfeaaGreatDoor
