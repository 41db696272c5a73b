/-
  DERIVED. GIVEN WITH THE SEED: THE CARDS: each row of YtpffhoefmcpniaaGreatDoorRows.lean that lists a variable, with what it lists TIED to the program's text (the seventh form; the later family's looks); each row that meets fmt, with fmt's text TOLD by the authors' own Lean function (tested against real Go, not proved from fmt's source: count such statements apart). THE CARD IS WHAT COUNTS. Prove the row's statement (the work); the ties are given (YtpffhoefmcpniaaGreatDoorTie.lean); close each card by the builder's one call (the guide's Derived/Test/ToyasCard.lean, 'card_holds'). Laid BY PROGRAM, IN A SANDBOX (cutbox-door.mjs). By AI agents, Wed Nov 11 2026. No macro, syntax, notation, axiom, sorry.
-/
import Derived.Test.YtpffhoefmcpniaaGreatDoorRows
import GoSem.ClaimSeven
namespace Go.Proofs.YtpffhoefmcpniaaGreatDoor
namespace Rows

/-- THE TIED CARD OF 'roundsmanlaw14.NestBuilds'. -/
def nestBuildsCard : Claim7 := { stood := { row := nestBuildsRow, standIns := [], harness := (true, "2b1f69522e020e816194f642fef3ee242ceb4b4957158c9f90373acd632430ef"), looks := true }, kinds := [], alts := [], laidByText := true, laidKinds := [.handle], laidTests := true, laidLooks := .later }
def NestBuildsCardSaid : Prop := Claim7.holds Tryz.pinned (.plain (OpenSpec.ofChange nestBuildsSpec)) nestBuildsCard

/-- THE TIED CARD OF 'roundsmanlaw14.NestPieces'. -/
def nestPiecesCard : Claim7 := { stood := { row := nestPiecesRow, standIns := [], harness := (true, "2b1f69522e020e816194f642fef3ee242ceb4b4957158c9f90373acd632430ef"), looks := true }, kinds := [], alts := [], laidByText := true, laidKinds := [.handle], laidTests := true, laidLooks := .later }
def NestPiecesCardSaid : Prop := Claim7.holds Tryz.pinned (.plain (OpenSpec.ofChange nestPiecesSpec)) nestPiecesCard

/-- THE TIED CARD OF 'roundsmanlaw14.NestPairs'. -/
def nestPairsCard : Claim7 := { stood := { row := nestPairsRow, standIns := [], harness := (true, "2b1f69522e020e816194f642fef3ee242ceb4b4957158c9f90373acd632430ef"), looks := true }, kinds := [], alts := [], laidByText := true, laidKinds := [.handle], laidTests := true, laidLooks := .later }
def NestPairsCardSaid : Prop := Claim7.holds Tryz.pinned (.plain (OpenSpec.ofChange nestPairsSpec)) nestPairsCard

/-- THE TIED CARD OF 'roundsmanlaw14.NestBounds'. -/
def nestBoundsCard : Claim7 := { stood := { row := nestBoundsRow, standIns := [], harness := (true, "2b1f69522e020e816194f642fef3ee242ceb4b4957158c9f90373acd632430ef"), looks := true }, kinds := [], alts := [], laidByText := true, laidKinds := [.handle], laidTests := true, laidLooks := .later }
def NestBoundsCardSaid : Prop := Claim7.holds Tryz.pinned (.plain (OpenSpec.ofChange nestBoundsSpec)) nestBoundsCard

/-- THE TIED CARD OF 'roundsmanlaw14.NestWhole'. -/
def nestWholeCard : Claim7 := { stood := { row := nestWholeRow, standIns := [], harness := (true, "2b1f69522e020e816194f642fef3ee242ceb4b4957158c9f90373acd632430ef"), looks := true }, kinds := [], alts := [], laidByText := true, laidKinds := [.handle], laidTests := true, laidLooks := .later }
def NestWholeCardSaid : Prop := Claim7.holds Tryz.pinned (.plain (OpenSpec.ofChange nestWholeSpec)) nestWholeCard

/-- THE SECOND FORM's CARD OF 'roundsmanlaw14.NestBuilds'. -/
def nestBuildsUptoCard : Claim7 := { stood := { row := nestBuildsUptoRow, standIns := [], harness := (true, "2b1f69522e020e816194f642fef3ee242ceb4b4957158c9f90373acd632430ef"), looks := true }, kinds := [], alts := [], laidByText := true, laidKinds := [.handle], laidTests := true, laidLooks := .later }
def NestBuildsUptoCardSaid : Prop := Claim7.holds Tryz.pinned (.plain (OpenSpec.upto nestBuildsSpec)) nestBuildsUptoCard

/-- THE SECOND FORM's CARD OF 'roundsmanlaw14.NestPieces'. -/
def nestPiecesUptoCard : Claim7 := { stood := { row := nestPiecesUptoRow, standIns := [], harness := (true, "2b1f69522e020e816194f642fef3ee242ceb4b4957158c9f90373acd632430ef"), looks := true }, kinds := [], alts := [], laidByText := true, laidKinds := [.handle], laidTests := true, laidLooks := .later }
def NestPiecesUptoCardSaid : Prop := Claim7.holds Tryz.pinned (.plain (OpenSpec.upto nestPiecesSpec)) nestPiecesUptoCard

/-- THE SECOND FORM's CARD OF 'roundsmanlaw14.NestPairs'. -/
def nestPairsUptoCard : Claim7 := { stood := { row := nestPairsUptoRow, standIns := [], harness := (true, "2b1f69522e020e816194f642fef3ee242ceb4b4957158c9f90373acd632430ef"), looks := true }, kinds := [], alts := [], laidByText := true, laidKinds := [.handle], laidTests := true, laidLooks := .later }
def NestPairsUptoCardSaid : Prop := Claim7.holds Tryz.pinned (.plain (OpenSpec.upto nestPairsSpec)) nestPairsUptoCard

/-- THE SECOND FORM's CARD OF 'roundsmanlaw14.NestBounds'. -/
def nestBoundsUptoCard : Claim7 := { stood := { row := nestBoundsUptoRow, standIns := [], harness := (true, "2b1f69522e020e816194f642fef3ee242ceb4b4957158c9f90373acd632430ef"), looks := true }, kinds := [], alts := [], laidByText := true, laidKinds := [.handle], laidTests := true, laidLooks := .later }
def NestBoundsUptoCardSaid : Prop := Claim7.holds Tryz.pinned (.plain (OpenSpec.upto nestBoundsSpec)) nestBoundsUptoCard

/-- THE SECOND FORM's CARD OF 'roundsmanlaw14.NestWhole'. -/
def nestWholeUptoCard : Claim7 := { stood := { row := nestWholeUptoRow, standIns := [], harness := (true, "2b1f69522e020e816194f642fef3ee242ceb4b4957158c9f90373acd632430ef"), looks := true }, kinds := [], alts := [], laidByText := true, laidKinds := [.handle], laidTests := true, laidLooks := .later }
def NestWholeUptoCardSaid : Prop := Claim7.holds Tryz.pinned (.plain (OpenSpec.upto nestWholeSpec)) nestWholeUptoCard
end Rows
end Go.Proofs.YtpffhoefmcpniaaGreatDoor
