/-
  DERIVED. GIVEN WITH THE SEED: THE CARDS: each row of YthoagdpakddbdaaGreatDoorRows.lean that lists a variable, with what it lists TIED to the program's text (the seventh form; the later family's looks); each row that meets fmt, with fmt's text TOLD by the authors' own Lean function (tested against real Go, not proved from fmt's source: count such statements apart). THE CARD IS WHAT COUNTS. Prove the row's statement (the work); the ties are given (YthoagdpakddbdaaGreatDoorTie.lean); close each card by the builder's one call (the guide's Derived/Test/ToyasCard.lean, 'card_holds'). Laid BY PROGRAM, IN A SANDBOX (cutbox-door.mjs). By AI agents, Wed Nov 11 2026. No macro, syntax, notation, axiom, sorry.
-/
import Derived.Test.YthoagdpakddbdaaGreatDoorRows
import GoSem.ClaimSeven
namespace Go.Proofs.YthoagdpakddbdaaGreatDoor
namespace Rows

/-- THE TIED CARD OF 'roundsmanlaw20.MendDiffs'. -/
def mendDiffsCard : Claim7 := { stood := { row := mendDiffsRow, standIns := [], harness := (true, "c61748c2e54d6490013d0fbe206834b53a8f4fa6dfde03158dfa1de7149a82b2"), looks := true }, kinds := [], alts := [], laidByText := true, laidKinds := [.handle], laidTests := true, laidLooks := .later }
def MendDiffsCardSaid : Prop := Claim7.holds Tryz.pinned (.plain (OpenSpec.ofChange mendDiffsSpec)) mendDiffsCard

/-- THE TIED CARD OF 'roundsmanlaw20.MendPlays'. -/
def mendPlaysCard : Claim7 := { stood := { row := mendPlaysRow, standIns := [], harness := (true, "c61748c2e54d6490013d0fbe206834b53a8f4fa6dfde03158dfa1de7149a82b2"), looks := true }, kinds := [], alts := [], laidByText := true, laidKinds := [.handle], laidTests := true, laidLooks := .later }
def MendPlaysCardSaid : Prop := Claim7.holds Tryz.pinned (.plain (OpenSpec.ofChange mendPlaysSpec)) mendPlaysCard

/-- THE TIED CARD OF 'roundsmanlaw20.MendBack'. -/
def mendBackCard : Claim7 := { stood := { row := mendBackRow, standIns := [], harness := (true, "c61748c2e54d6490013d0fbe206834b53a8f4fa6dfde03158dfa1de7149a82b2"), looks := true }, kinds := [], alts := [], laidByText := true, laidKinds := [.handle], laidTests := true, laidLooks := .later }
def MendBackCardSaid : Prop := Claim7.holds Tryz.pinned (.plain (OpenSpec.ofChange mendBackSpec)) mendBackCard

/-- THE TIED CARD OF 'roundsmanlaw20.MendParts'. -/
def mendPartsCard : Claim7 := { stood := { row := mendPartsRow, standIns := [], harness := (true, "c61748c2e54d6490013d0fbe206834b53a8f4fa6dfde03158dfa1de7149a82b2"), looks := true }, kinds := [], alts := [], laidByText := true, laidKinds := [.handle], laidTests := true, laidLooks := .later }
def MendPartsCardSaid : Prop := Claim7.holds Tryz.pinned (.plain (OpenSpec.ofChange mendPartsSpec)) mendPartsCard

/-- THE TIED CARD OF 'roundsmanlaw20.MendKeeps'. -/
def mendKeepsCard : Claim7 := { stood := { row := mendKeepsRow, standIns := [], harness := (true, "c61748c2e54d6490013d0fbe206834b53a8f4fa6dfde03158dfa1de7149a82b2"), looks := true }, kinds := [], alts := [], laidByText := true, laidKinds := [.handle], laidTests := true, laidLooks := .later }
def MendKeepsCardSaid : Prop := Claim7.holds Tryz.pinned (.plain (OpenSpec.ofChange mendKeepsSpec)) mendKeepsCard

/-- THE SECOND FORM's CARD OF 'roundsmanlaw20.MendDiffs'. -/
def mendDiffsUptoCard : Claim7 := { stood := { row := mendDiffsUptoRow, standIns := [], harness := (true, "c61748c2e54d6490013d0fbe206834b53a8f4fa6dfde03158dfa1de7149a82b2"), looks := true }, kinds := [], alts := [], laidByText := true, laidKinds := [.handle], laidTests := true, laidLooks := .later }
def MendDiffsUptoCardSaid : Prop := Claim7.holds Tryz.pinned (.plain (OpenSpec.upto mendDiffsSpec)) mendDiffsUptoCard

/-- THE SECOND FORM's CARD OF 'roundsmanlaw20.MendPlays'. -/
def mendPlaysUptoCard : Claim7 := { stood := { row := mendPlaysUptoRow, standIns := [], harness := (true, "c61748c2e54d6490013d0fbe206834b53a8f4fa6dfde03158dfa1de7149a82b2"), looks := true }, kinds := [], alts := [], laidByText := true, laidKinds := [.handle], laidTests := true, laidLooks := .later }
def MendPlaysUptoCardSaid : Prop := Claim7.holds Tryz.pinned (.plain (OpenSpec.upto mendPlaysSpec)) mendPlaysUptoCard

/-- THE SECOND FORM's CARD OF 'roundsmanlaw20.MendBack'. -/
def mendBackUptoCard : Claim7 := { stood := { row := mendBackUptoRow, standIns := [], harness := (true, "c61748c2e54d6490013d0fbe206834b53a8f4fa6dfde03158dfa1de7149a82b2"), looks := true }, kinds := [], alts := [], laidByText := true, laidKinds := [.handle], laidTests := true, laidLooks := .later }
def MendBackUptoCardSaid : Prop := Claim7.holds Tryz.pinned (.plain (OpenSpec.upto mendBackSpec)) mendBackUptoCard

/-- THE SECOND FORM's CARD OF 'roundsmanlaw20.MendParts'. -/
def mendPartsUptoCard : Claim7 := { stood := { row := mendPartsUptoRow, standIns := [], harness := (true, "c61748c2e54d6490013d0fbe206834b53a8f4fa6dfde03158dfa1de7149a82b2"), looks := true }, kinds := [], alts := [], laidByText := true, laidKinds := [.handle], laidTests := true, laidLooks := .later }
def MendPartsUptoCardSaid : Prop := Claim7.holds Tryz.pinned (.plain (OpenSpec.upto mendPartsSpec)) mendPartsUptoCard

/-- THE SECOND FORM's CARD OF 'roundsmanlaw20.MendKeeps'. -/
def mendKeepsUptoCard : Claim7 := { stood := { row := mendKeepsUptoRow, standIns := [], harness := (true, "c61748c2e54d6490013d0fbe206834b53a8f4fa6dfde03158dfa1de7149a82b2"), looks := true }, kinds := [], alts := [], laidByText := true, laidKinds := [.handle], laidTests := true, laidLooks := .later }
def MendKeepsUptoCardSaid : Prop := Claim7.holds Tryz.pinned (.plain (OpenSpec.upto mendKeepsSpec)) mendKeepsUptoCard
end Rows
end Go.Proofs.YthoagdpakddbdaaGreatDoor
