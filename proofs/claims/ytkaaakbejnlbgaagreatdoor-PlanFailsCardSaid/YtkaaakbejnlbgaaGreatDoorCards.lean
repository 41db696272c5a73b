/-
  DERIVED. GIVEN WITH THE SEED: THE CARDS: each row of YtkaaakbejnlbgaaGreatDoorRows.lean that lists a variable, with what it lists TIED to the program's text (the seventh form; the later family's looks); each row that meets fmt, with fmt's text TOLD by the authors' own Lean function (tested against real Go, not proved from fmt's source: count such statements apart). THE CARD IS WHAT COUNTS. Prove the row's statement (the work); the ties are given (YtkaaakbejnlbgaaGreatDoorTie.lean); close each card by the builder's one call (the guide's Derived/Test/ToyasCard.lean, 'card_holds'). Laid BY PROGRAM, IN A SANDBOX (cutbox-door.mjs). By AI agents, Wed Nov 11 2026. No macro, syntax, notation, axiom, sorry.
-/
import Derived.Test.YtkaaakbejnlbgaaGreatDoorRows
import GoSem.ClaimSeven
namespace Go.Proofs.YtkaaakbejnlbgaaGreatDoor
namespace Rows

/-- THE TIED CARD OF 'roundsmanlaw27.PlanMakes'. -/
def planMakesCard : Claim7 := { stood := { row := planMakesRow, standIns := [], harness := (true, "f25173250175b9aacc832745e98502d9796bb224982b4f95df53e49dc850ce8a"), looks := true }, kinds := [], alts := [], laidByText := true, laidKinds := [.handle], laidTests := true, laidLooks := .later }
def PlanMakesCardSaid : Prop := Claim7.holds Tryz.pinned (.plain (OpenSpec.ofChange planMakesSpec)) planMakesCard

/-- THE TIED CARD OF 'roundsmanlaw27.PlanChecks'. -/
def planChecksCard : Claim7 := { stood := { row := planChecksRow, standIns := [], harness := (true, "f25173250175b9aacc832745e98502d9796bb224982b4f95df53e49dc850ce8a"), looks := true }, kinds := [], alts := [], laidByText := true, laidKinds := [.handle], laidTests := true, laidLooks := .later }
def PlanChecksCardSaid : Prop := Claim7.holds Tryz.pinned (.plain (OpenSpec.ofChange planChecksSpec)) planChecksCard

/-- THE TIED CARD OF 'roundsmanlaw27.PlanModels'. -/
def planModelsCard : Claim7 := { stood := { row := planModelsRow, standIns := [], harness := (true, "f25173250175b9aacc832745e98502d9796bb224982b4f95df53e49dc850ce8a"), looks := true }, kinds := [], alts := [], laidByText := true, laidKinds := [.handle], laidTests := true, laidLooks := .later }
def PlanModelsCardSaid : Prop := Claim7.holds Tryz.pinned (.plain (OpenSpec.ofChange planModelsSpec)) planModelsCard

/-- THE TIED CARD OF 'roundsmanlaw27.PlanRight'. -/
def planRightCard : Claim7 := { stood := { row := planRightRow, standIns := [], harness := (true, "f25173250175b9aacc832745e98502d9796bb224982b4f95df53e49dc850ce8a"), looks := true }, kinds := [], alts := [], laidByText := true, laidKinds := [.handle], laidTests := true, laidLooks := .later }
def PlanRightCardSaid : Prop := Claim7.holds Tryz.pinned (.plain (OpenSpec.ofChange planRightSpec)) planRightCard

/-- THE TIED CARD OF 'roundsmanlaw27.PlanCells'. -/
def planCellsCard : Claim7 := { stood := { row := planCellsRow, standIns := [], harness := (true, "f25173250175b9aacc832745e98502d9796bb224982b4f95df53e49dc850ce8a"), looks := true }, kinds := [], alts := [], laidByText := true, laidKinds := [.handle], laidTests := true, laidLooks := .later }
def PlanCellsCardSaid : Prop := Claim7.holds Tryz.pinned (.plain (OpenSpec.ofChange planCellsSpec)) planCellsCard

/-- THE TIED CARD OF 'roundsmanlaw27.PlanFails'. -/
def planFailsCard : Claim7 := { stood := { row := planFailsRow, standIns := [], harness := (true, "f25173250175b9aacc832745e98502d9796bb224982b4f95df53e49dc850ce8a"), looks := true }, kinds := [], alts := [], laidByText := true, laidKinds := [.handle], laidTests := true, laidLooks := .later }
def PlanFailsCardSaid : Prop := Claim7.holds Tryz.pinned (.plain (OpenSpec.ofChange planFailsSpec)) planFailsCard

/-- THE SECOND FORM's CARD OF 'roundsmanlaw27.PlanMakes'. -/
def planMakesUptoCard : Claim7 := { stood := { row := planMakesUptoRow, standIns := [], harness := (true, "f25173250175b9aacc832745e98502d9796bb224982b4f95df53e49dc850ce8a"), looks := true }, kinds := [], alts := [], laidByText := true, laidKinds := [.handle], laidTests := true, laidLooks := .later }
def PlanMakesUptoCardSaid : Prop := Claim7.holds Tryz.pinned (.plain (OpenSpec.upto planMakesSpec)) planMakesUptoCard

/-- THE SECOND FORM's CARD OF 'roundsmanlaw27.PlanChecks'. -/
def planChecksUptoCard : Claim7 := { stood := { row := planChecksUptoRow, standIns := [], harness := (true, "f25173250175b9aacc832745e98502d9796bb224982b4f95df53e49dc850ce8a"), looks := true }, kinds := [], alts := [], laidByText := true, laidKinds := [.handle], laidTests := true, laidLooks := .later }
def PlanChecksUptoCardSaid : Prop := Claim7.holds Tryz.pinned (.plain (OpenSpec.upto planChecksSpec)) planChecksUptoCard

/-- THE SECOND FORM's CARD OF 'roundsmanlaw27.PlanModels'. -/
def planModelsUptoCard : Claim7 := { stood := { row := planModelsUptoRow, standIns := [], harness := (true, "f25173250175b9aacc832745e98502d9796bb224982b4f95df53e49dc850ce8a"), looks := true }, kinds := [], alts := [], laidByText := true, laidKinds := [.handle], laidTests := true, laidLooks := .later }
def PlanModelsUptoCardSaid : Prop := Claim7.holds Tryz.pinned (.plain (OpenSpec.upto planModelsSpec)) planModelsUptoCard

/-- THE SECOND FORM's CARD OF 'roundsmanlaw27.PlanRight'. -/
def planRightUptoCard : Claim7 := { stood := { row := planRightUptoRow, standIns := [], harness := (true, "f25173250175b9aacc832745e98502d9796bb224982b4f95df53e49dc850ce8a"), looks := true }, kinds := [], alts := [], laidByText := true, laidKinds := [.handle], laidTests := true, laidLooks := .later }
def PlanRightUptoCardSaid : Prop := Claim7.holds Tryz.pinned (.plain (OpenSpec.upto planRightSpec)) planRightUptoCard

/-- THE SECOND FORM's CARD OF 'roundsmanlaw27.PlanCells'. -/
def planCellsUptoCard : Claim7 := { stood := { row := planCellsUptoRow, standIns := [], harness := (true, "f25173250175b9aacc832745e98502d9796bb224982b4f95df53e49dc850ce8a"), looks := true }, kinds := [], alts := [], laidByText := true, laidKinds := [.handle], laidTests := true, laidLooks := .later }
def PlanCellsUptoCardSaid : Prop := Claim7.holds Tryz.pinned (.plain (OpenSpec.upto planCellsSpec)) planCellsUptoCard

/-- THE SECOND FORM's CARD OF 'roundsmanlaw27.PlanFails'. -/
def planFailsUptoCard : Claim7 := { stood := { row := planFailsUptoRow, standIns := [], harness := (true, "f25173250175b9aacc832745e98502d9796bb224982b4f95df53e49dc850ce8a"), looks := true }, kinds := [], alts := [], laidByText := true, laidKinds := [.handle], laidTests := true, laidLooks := .later }
def PlanFailsUptoCardSaid : Prop := Claim7.holds Tryz.pinned (.plain (OpenSpec.upto planFailsSpec)) planFailsUptoCard
end Rows
end Go.Proofs.YtkaaakbejnlbgaaGreatDoor
