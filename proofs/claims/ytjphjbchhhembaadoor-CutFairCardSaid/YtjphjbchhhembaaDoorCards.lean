/-
  DERIVED. GIVEN WITH THE SEED: THE CARDS: each row of YtjphjbchhhembaaDoorRows.lean that lists a variable, with what it lists TIED to the program's text (the seventh form; the later family's looks); each row that meets fmt, with fmt's text TOLD by the authors' own Lean function (tested against real Go, not proved from fmt's source: count such statements apart). THE CARD IS WHAT COUNTS. Prove the row's statement (the work); the ties are given (YtjphjbchhhembaaDoorTie.lean); close each card by the builder's one call (the guide's Derived/Test/ToyasCard.lean, 'card_holds'). Laid BY PROGRAM, IN A SANDBOX (cutbox-door.mjs). By AI agents, Wed Nov 11 2026. No macro, syntax, notation, axiom, sorry.
-/
import Derived.Test.YtjphjbchhhembaaDoorRows
import GoSem.ClaimSeven
namespace Go.Proofs.YtjphjbchhhembaaDoor
namespace Rows

/-- THE TIED CARD OF 'roundsmanlaw25.SaveLine'. -/
def saveLineCard : Claim7 := { stood := { row := saveLineRow, standIns := [], harness := (true, "66909cf7e8924b848229b69531981282c1c9bb7a9c28365820007cea268b30d3"), looks := true }, kinds := [], alts := [], laidByText := true, laidKinds := [.handle], laidTests := true, laidLooks := .later }
def SaveLineCardSaid : Prop := Claim7.holds Tryd.pinned (.plain (OpenSpec.ofChange saveLineSpec)) saveLineCard

/-- THE TIED CARD OF 'roundsmanlaw11.CutBest'. -/
def cutBestCard : Claim7 := { stood := { row := cutBestRow, standIns := [], harness := (true, "66909cf7e8924b848229b69531981282c1c9bb7a9c28365820007cea268b30d3"), looks := true }, kinds := [], alts := [], laidByText := true, laidKinds := [.handle], laidTests := true, laidLooks := .later }
def CutBestCardSaid : Prop := Claim7.holds Tryd.pinned (.plain (OpenSpec.ofChange cutBestSpec)) cutBestCard

/-- THE TIED CARD OF 'roundsmanlaw11.CutMoved'. -/
def cutMovedCard : Claim7 := { stood := { row := cutMovedRow, standIns := [], harness := (true, "66909cf7e8924b848229b69531981282c1c9bb7a9c28365820007cea268b30d3"), looks := true }, kinds := [], alts := [], laidByText := true, laidKinds := [.handle], laidTests := true, laidLooks := .later }
def CutMovedCardSaid : Prop := Claim7.holds Tryd.pinned (.plain (OpenSpec.ofChange cutMovedSpec)) cutMovedCard

/-- THE TIED CARD OF 'roundsmanlaw11.CutBridge'. -/
def cutBridgeCard : Claim7 := { stood := { row := cutBridgeRow, standIns := [], harness := (true, "66909cf7e8924b848229b69531981282c1c9bb7a9c28365820007cea268b30d3"), looks := true }, kinds := [], alts := [], laidByText := true, laidKinds := [.handle], laidTests := true, laidLooks := .later }
def CutBridgeCardSaid : Prop := Claim7.holds Tryd.pinned (.plain (OpenSpec.ofChange cutBridgeSpec)) cutBridgeCard

/-- THE TIED CARD OF 'roundsmanlaw11.CutFair'. -/
def cutFairCard : Claim7 := { stood := { row := cutFairRow, standIns := [], harness := (true, "66909cf7e8924b848229b69531981282c1c9bb7a9c28365820007cea268b30d3"), looks := true }, kinds := [], alts := [], laidByText := true, laidKinds := [.handle], laidTests := true, laidLooks := .later }
def CutFairCardSaid : Prop := Claim7.holds Tryd.pinned (.plain (OpenSpec.ofChange cutFairSpec)) cutFairCard

/-- THE SECOND FORM's CARD OF 'roundsmanlaw25.SaveLine'. -/
def saveLineUptoCard : Claim7 := { stood := { row := saveLineUptoRow, standIns := [], harness := (true, "66909cf7e8924b848229b69531981282c1c9bb7a9c28365820007cea268b30d3"), looks := true }, kinds := [], alts := [], laidByText := true, laidKinds := [.handle], laidTests := true, laidLooks := .later }
def SaveLineUptoCardSaid : Prop := Claim7.holds Tryd.pinned (.plain (OpenSpec.upto saveLineSpec)) saveLineUptoCard

/-- THE SECOND FORM's CARD OF 'roundsmanlaw11.CutBest'. -/
def cutBestUptoCard : Claim7 := { stood := { row := cutBestUptoRow, standIns := [], harness := (true, "66909cf7e8924b848229b69531981282c1c9bb7a9c28365820007cea268b30d3"), looks := true }, kinds := [], alts := [], laidByText := true, laidKinds := [.handle], laidTests := true, laidLooks := .later }
def CutBestUptoCardSaid : Prop := Claim7.holds Tryd.pinned (.plain (OpenSpec.upto cutBestSpec)) cutBestUptoCard

/-- THE SECOND FORM's CARD OF 'roundsmanlaw11.CutMoved'. -/
def cutMovedUptoCard : Claim7 := { stood := { row := cutMovedUptoRow, standIns := [], harness := (true, "66909cf7e8924b848229b69531981282c1c9bb7a9c28365820007cea268b30d3"), looks := true }, kinds := [], alts := [], laidByText := true, laidKinds := [.handle], laidTests := true, laidLooks := .later }
def CutMovedUptoCardSaid : Prop := Claim7.holds Tryd.pinned (.plain (OpenSpec.upto cutMovedSpec)) cutMovedUptoCard

/-- THE SECOND FORM's CARD OF 'roundsmanlaw11.CutBridge'. -/
def cutBridgeUptoCard : Claim7 := { stood := { row := cutBridgeUptoRow, standIns := [], harness := (true, "66909cf7e8924b848229b69531981282c1c9bb7a9c28365820007cea268b30d3"), looks := true }, kinds := [], alts := [], laidByText := true, laidKinds := [.handle], laidTests := true, laidLooks := .later }
def CutBridgeUptoCardSaid : Prop := Claim7.holds Tryd.pinned (.plain (OpenSpec.upto cutBridgeSpec)) cutBridgeUptoCard

/-- THE SECOND FORM's CARD OF 'roundsmanlaw11.CutFair'. -/
def cutFairUptoCard : Claim7 := { stood := { row := cutFairUptoRow, standIns := [], harness := (true, "66909cf7e8924b848229b69531981282c1c9bb7a9c28365820007cea268b30d3"), looks := true }, kinds := [], alts := [], laidByText := true, laidKinds := [.handle], laidTests := true, laidLooks := .later }
def CutFairUptoCardSaid : Prop := Claim7.holds Tryd.pinned (.plain (OpenSpec.upto cutFairSpec)) cutFairUptoCard
end Rows
end Go.Proofs.YtjphjbchhhembaaDoor
