/-
  DERIVED. GIVEN WITH THE SEED: THE CARDS: each row of YtgkeolddpielpaaGreatDoorRows.lean that lists a variable, with what it lists TIED to the program's text (the seventh form; the later family's looks); each row that meets fmt, with fmt's text TOLD by the authors' own Lean function (tested against real Go, not proved from fmt's source: count such statements apart). THE CARD IS WHAT COUNTS. Prove the row's statement (the work); the ties are given (YtgkeolddpielpaaGreatDoorTie.lean); close each card by the builder's one call (the guide's Derived/Test/ToyasCard.lean, 'card_holds'). Laid BY PROGRAM, IN A SANDBOX (cutbox-door.mjs). By AI agents, Wed Nov 11 2026. No macro, syntax, notation, axiom, sorry.
-/
import Derived.Test.YtgkeolddpielpaaGreatDoorRows
import GoSem.ClaimSeven
namespace Go.Proofs.YtgkeolddpielpaaGreatDoor
namespace Rows

/-- THE TIED CARD OF 'roundsmanlaw17.OverMakes'. -/
def overMakesCard : Claim7 := { stood := { row := overMakesRow, standIns := [], harness := (true, "87b3919de6ad5fb341304d82ce284f87825eb96c2f4cb2bc92eb2aa5b0bb37b8"), looks := true }, kinds := [], alts := [], laidByText := true, laidKinds := [.handle], laidTests := true, laidLooks := .later }
def OverMakesCardSaid : Prop := Claim7.holds Tryz.pinned (.plain (OpenSpec.ofChange overMakesSpec)) overMakesCard

/-- THE TIED CARD OF 'roundsmanlaw17.OverOnce'. -/
def overOnceCard : Claim7 := { stood := { row := overOnceRow, standIns := [], harness := (true, "87b3919de6ad5fb341304d82ce284f87825eb96c2f4cb2bc92eb2aa5b0bb37b8"), looks := true }, kinds := [], alts := [], laidByText := true, laidKinds := [.handle], laidTests := true, laidLooks := .later }
def OverOnceCardSaid : Prop := Claim7.holds Tryz.pinned (.plain (OpenSpec.ofChange overOnceSpec)) overOnceCard

/-- THE SECOND FORM's CARD OF 'roundsmanlaw17.OverMakes'. -/
def overMakesUptoCard : Claim7 := { stood := { row := overMakesUptoRow, standIns := [], harness := (true, "87b3919de6ad5fb341304d82ce284f87825eb96c2f4cb2bc92eb2aa5b0bb37b8"), looks := true }, kinds := [], alts := [], laidByText := true, laidKinds := [.handle], laidTests := true, laidLooks := .later }
def OverMakesUptoCardSaid : Prop := Claim7.holds Tryz.pinned (.plain (OpenSpec.upto overMakesSpec)) overMakesUptoCard

/-- THE SECOND FORM's CARD OF 'roundsmanlaw17.OverOnce'. -/
def overOnceUptoCard : Claim7 := { stood := { row := overOnceUptoRow, standIns := [], harness := (true, "87b3919de6ad5fb341304d82ce284f87825eb96c2f4cb2bc92eb2aa5b0bb37b8"), looks := true }, kinds := [], alts := [], laidByText := true, laidKinds := [.handle], laidTests := true, laidLooks := .later }
def OverOnceUptoCardSaid : Prop := Claim7.holds Tryz.pinned (.plain (OpenSpec.upto overOnceSpec)) overOnceUptoCard
end Rows
end Go.Proofs.YtgkeolddpielpaaGreatDoor
