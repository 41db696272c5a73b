/-
  DERIVED. GIVEN WITH THE SEED: THE CARDS: each row of YtjphjbchhhembaaGreatDoorRows.lean that lists a variable, with what it lists TIED to the program's text (the seventh form; the later family's looks); each row that meets fmt, with fmt's text TOLD by the authors' own Lean function (tested against real Go, not proved from fmt's source: count such statements apart). THE CARD IS WHAT COUNTS. Prove the row's statement (the work); the ties are given (YtjphjbchhhembaaGreatDoorTie.lean); close each card by the builder's one call (the guide's Derived/Test/ToyasCard.lean, 'card_holds'). Laid BY PROGRAM, IN A SANDBOX (cutbox-door.mjs). By AI agents, Wed Nov 11 2026. No macro, syntax, notation, axiom, sorry.
-/
import Derived.Test.YtjphjbchhhembaaGreatDoorRows
import GoSem.ClaimSeven
namespace Go.Proofs.YtjphjbchhhembaaGreatDoor
namespace Rows

/-- THE TIED CARD OF 'roundsmanlaw25.SaveRight'. -/
def saveRightCard : Claim7 := { stood := { row := saveRightRow, standIns := [], harness := (true, "53f690ae6c299273aab64fed574a07b62cf5dcc43070c3a3af1d97e424b8f7e5"), looks := true }, kinds := [], alts := [], laidByText := true, laidKinds := [.handle], laidTests := true, laidLooks := .later }
def SaveRightCardSaid : Prop := Claim7.holds Tryz.pinned (.plain (OpenSpec.ofChange saveRightSpec)) saveRightCard

/-- THE TIED CARD OF 'roundsmanlaw25.SaveAlone'. -/
def saveAloneCard : Claim7 := { stood := { row := saveAloneRow, standIns := [], harness := (true, "53f690ae6c299273aab64fed574a07b62cf5dcc43070c3a3af1d97e424b8f7e5"), looks := true }, kinds := [], alts := [], laidByText := true, laidKinds := [.handle], laidTests := true, laidLooks := .later }
def SaveAloneCardSaid : Prop := Claim7.holds Tryz.pinned (.plain (OpenSpec.ofChange saveAloneSpec)) saveAloneCard

/-- THE SECOND FORM's CARD OF 'roundsmanlaw25.SaveRight'. -/
def saveRightUptoCard : Claim7 := { stood := { row := saveRightUptoRow, standIns := [], harness := (true, "53f690ae6c299273aab64fed574a07b62cf5dcc43070c3a3af1d97e424b8f7e5"), looks := true }, kinds := [], alts := [], laidByText := true, laidKinds := [.handle], laidTests := true, laidLooks := .later }
def SaveRightUptoCardSaid : Prop := Claim7.holds Tryz.pinned (.plain (OpenSpec.upto saveRightSpec)) saveRightUptoCard

/-- THE SECOND FORM's CARD OF 'roundsmanlaw25.SaveAlone'. -/
def saveAloneUptoCard : Claim7 := { stood := { row := saveAloneUptoRow, standIns := [], harness := (true, "53f690ae6c299273aab64fed574a07b62cf5dcc43070c3a3af1d97e424b8f7e5"), looks := true }, kinds := [], alts := [], laidByText := true, laidKinds := [.handle], laidTests := true, laidLooks := .later }
def SaveAloneUptoCardSaid : Prop := Claim7.holds Tryz.pinned (.plain (OpenSpec.upto saveAloneSpec)) saveAloneUptoCard
end Rows
end Go.Proofs.YtjphjbchhhembaaGreatDoor
