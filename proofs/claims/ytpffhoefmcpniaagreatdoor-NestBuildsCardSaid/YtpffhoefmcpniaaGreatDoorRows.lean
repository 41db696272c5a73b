/-
  NARROWER THAN 'FOR EVERY INPUT', by the rows' own cells (each row's printed sentence says how): NestBuilds: laid · NestPieces: laid · NestPairs: laid · NestBounds: laid · NestWhole: laid.
  DERIVED. THE GIVEN ROWS OF THIS SEAT. 5 by the template 'for every input the law returns true; each argument reads behind the call as it read before'; 0 by the template 'total and deterministic' (their statements: YtpffhoefmcpniaaGreatDoorTotals.lean).
  GIVEN WITH THE SEED: the statements are not yours to turn. If you find one false, say at which input.
  Laid BY PROGRAM, IN A SANDBOX (cutbox-rows.mjs): the forced cells as the released guide's own fill.sh prints them over the translation 896cc7d4ddcf812b… (all of the seat's roots in one cut). By AI agents, Wed Nov 11 2026. No macro, syntax, notation, axiom, sorry.
-/
import Derived.Test.YtpffhoefmcpniaaGreatDoorChecked
import GoSem.Claim
import GoSem.ClaimJoined
import GoSem.ClaimMapViews
import Derived.JoinedTies
import Derived.KernelRfl
namespace Go.Proofs.YtpffhoefmcpniaaGreatDoor
/- THE CELL 'sum', in the pinned program and in every row, IS THE sha256 OF THE DUMP (.gsa) THAT YtpffhoefmcpniaaGreatDoorProg.lean LOADS. Nothing in Lean hashes anything: it is a label: what it is worth is what the hold of that sum in a sandbox is worth. -/
noncomputable def Tryz.pinned : Pinned := { name := "ytpffhoefmcpniaagreatdoor", sum := "896cc7d4ddcf812bd3ecc58bf41e0bd50f860c8740ec03344f386b1d878526d5", checked := Tryz.checked }
namespace Rows
def none {H : Type} : Left H := { results := [], args := [] }

/- WHAT THE LISTED PACKAGE-LEVEL VARIABLES READ AS WHEN THE CALL BEGINS. Each datum BY PROGRAM (the guide's laid-datum.mjs) off the statement by which the dump's own 'gosem.cut.vars' lays the variable. In a bare row this is a premise. The card (YtpffhoefmcpniaaGreatDoorCards.lean) ties it to the program's text. -/
def laid_errors_errorType {H : Type} : DataW H := .iface "internal/reflectlite.rtype" (.agg [.ptr (.lit (.string [101, 114, 114, 111, 114]))])

/-- 'roundsmanlaw14.NestBuilds': WHATEVER THE INPUT: true; the input reads as it did. -/
def nestBuildsSpec : ChangeSpec := { name := "nestBuilds", fn := fun _ => fun
  | [d1, d2] => { results := [.lit (.bool true)], args := [d1, d2] }
  | _ => none }
def nestBuildsRow : OpenClaim := { program := "ytpffhoefmcpniaagreatdoor", sum := "896cc7d4ddcf812bd3ecc58bf41e0bd50f860c8740ec03344f386b1d878526d5", func := "roundsman/roundsmanlaw14.NestBuilds", spec := "nestBuilds", inPlace := ["internal/reflectlite.TypeOf", "internal/reflectlite.ValueOf", "(internal/reflectlite.Value).Type", "(internal/reflectlite.Value).IsNil", "(internal/reflectlite.Value).Elem", "(internal/reflectlite.Value).Set"], unfollowed := true, recurses := true, named := ["errors.errorType"], apart := false, laid := [("errors.errorType", laid_errors_errorType)] }
def NestBuildsSaid : Prop := nestBuildsRow.holds Tryz.pinned (OpenSpec.ofChange nestBuildsSpec)

/-- ITS FALSE NEIGHBOUR: 'it returns false'. Refute it at one input. -/
def nestBuildsWrong : ChangeSpec := { name := "nestBuilds", fn := fun _ => fun
  | [d1, d2] => { results := [.lit (.bool false)], args := [d1, d2] }
  | _ => none }
def NestBuildsWrongFalsely : Prop := nestBuildsRow.holds Tryz.pinned (OpenSpec.ofChange nestBuildsWrong)

/-- 'roundsmanlaw14.NestPieces': WHATEVER THE INPUT: true; the input reads as it did. -/
def nestPiecesSpec : ChangeSpec := { name := "nestPieces", fn := fun _ => fun
  | [d1, d2, d3] => { results := [.lit (.bool true)], args := [d1, d2, d3] }
  | _ => none }
def nestPiecesRow : OpenClaim := { program := "ytpffhoefmcpniaagreatdoor", sum := "896cc7d4ddcf812bd3ecc58bf41e0bd50f860c8740ec03344f386b1d878526d5", func := "roundsman/roundsmanlaw14.NestPieces", spec := "nestPieces", inPlace := ["internal/reflectlite.TypeOf", "internal/reflectlite.ValueOf", "(internal/reflectlite.Value).Type", "(internal/reflectlite.Value).IsNil", "(internal/reflectlite.Value).Elem", "(internal/reflectlite.Value).Set"], unfollowed := true, recurses := true, named := ["errors.errorType"], apart := false, laid := [("errors.errorType", laid_errors_errorType)] }
def NestPiecesSaid : Prop := nestPiecesRow.holds Tryz.pinned (OpenSpec.ofChange nestPiecesSpec)

/-- ITS FALSE NEIGHBOUR: 'it returns false'. Refute it at one input. -/
def nestPiecesWrong : ChangeSpec := { name := "nestPieces", fn := fun _ => fun
  | [d1, d2, d3] => { results := [.lit (.bool false)], args := [d1, d2, d3] }
  | _ => none }
def NestPiecesWrongFalsely : Prop := nestPiecesRow.holds Tryz.pinned (OpenSpec.ofChange nestPiecesWrong)

/-- 'roundsmanlaw14.NestPairs': WHATEVER THE INPUT: true; the input reads as it did. -/
def nestPairsSpec : ChangeSpec := { name := "nestPairs", fn := fun _ => fun
  | [d1, d2] => { results := [.lit (.bool true)], args := [d1, d2] }
  | _ => none }
def nestPairsRow : OpenClaim := { program := "ytpffhoefmcpniaagreatdoor", sum := "896cc7d4ddcf812bd3ecc58bf41e0bd50f860c8740ec03344f386b1d878526d5", func := "roundsman/roundsmanlaw14.NestPairs", spec := "nestPairs", inPlace := ["internal/reflectlite.TypeOf", "internal/reflectlite.ValueOf", "(internal/reflectlite.Value).Type", "(internal/reflectlite.Value).IsNil", "(internal/reflectlite.Value).Elem", "(internal/reflectlite.Value).Set"], unfollowed := true, recurses := true, named := ["errors.errorType"], apart := false, laid := [("errors.errorType", laid_errors_errorType)] }
def NestPairsSaid : Prop := nestPairsRow.holds Tryz.pinned (OpenSpec.ofChange nestPairsSpec)

/-- ITS FALSE NEIGHBOUR: 'it returns false'. Refute it at one input. -/
def nestPairsWrong : ChangeSpec := { name := "nestPairs", fn := fun _ => fun
  | [d1, d2] => { results := [.lit (.bool false)], args := [d1, d2] }
  | _ => none }
def NestPairsWrongFalsely : Prop := nestPairsRow.holds Tryz.pinned (OpenSpec.ofChange nestPairsWrong)

/-- 'roundsmanlaw14.NestBounds': WHATEVER THE INPUT: true; the input reads as it did. -/
def nestBoundsSpec : ChangeSpec := { name := "nestBounds", fn := fun _ => fun
  | [d1, d2, d3] => { results := [.lit (.bool true)], args := [d1, d2, d3] }
  | _ => none }
def nestBoundsRow : OpenClaim := { program := "ytpffhoefmcpniaagreatdoor", sum := "896cc7d4ddcf812bd3ecc58bf41e0bd50f860c8740ec03344f386b1d878526d5", func := "roundsman/roundsmanlaw14.NestBounds", spec := "nestBounds", inPlace := ["internal/reflectlite.TypeOf", "internal/reflectlite.ValueOf", "(internal/reflectlite.Value).Type", "(internal/reflectlite.Value).IsNil", "(internal/reflectlite.Value).Elem", "(internal/reflectlite.Value).Set"], unfollowed := true, recurses := true, named := ["errors.errorType"], apart := false, laid := [("errors.errorType", laid_errors_errorType)] }
def NestBoundsSaid : Prop := nestBoundsRow.holds Tryz.pinned (OpenSpec.ofChange nestBoundsSpec)

/-- ITS FALSE NEIGHBOUR: 'it returns false'. Refute it at one input. -/
def nestBoundsWrong : ChangeSpec := { name := "nestBounds", fn := fun _ => fun
  | [d1, d2, d3] => { results := [.lit (.bool false)], args := [d1, d2, d3] }
  | _ => none }
def NestBoundsWrongFalsely : Prop := nestBoundsRow.holds Tryz.pinned (OpenSpec.ofChange nestBoundsWrong)

/-- 'roundsmanlaw14.NestWhole': WHATEVER THE INPUT: true; the input reads as it did. -/
def nestWholeSpec : ChangeSpec := { name := "nestWhole", fn := fun _ => fun
  | [d1, d2] => { results := [.lit (.bool true)], args := [d1, d2] }
  | _ => none }
def nestWholeRow : OpenClaim := { program := "ytpffhoefmcpniaagreatdoor", sum := "896cc7d4ddcf812bd3ecc58bf41e0bd50f860c8740ec03344f386b1d878526d5", func := "roundsman/roundsmanlaw14.NestWhole", spec := "nestWhole", inPlace := ["internal/reflectlite.TypeOf", "internal/reflectlite.ValueOf", "(internal/reflectlite.Value).Type", "(internal/reflectlite.Value).IsNil", "(internal/reflectlite.Value).Elem", "(internal/reflectlite.Value).Set"], unfollowed := true, recurses := true, named := ["errors.errorType"], apart := false, laid := [("errors.errorType", laid_errors_errorType)] }
def NestWholeSaid : Prop := nestWholeRow.holds Tryz.pinned (OpenSpec.ofChange nestWholeSpec)

/-- ITS FALSE NEIGHBOUR: 'it returns false'. Refute it at one input. -/
def nestWholeWrong : ChangeSpec := { name := "nestWhole", fn := fun _ => fun
  | [d1, d2] => { results := [.lit (.bool false)], args := [d1, d2] }
  | _ => none }
def NestWholeWrongFalsely : Prop := nestWholeRow.holds Tryz.pinned (OpenSpec.ofChange nestWholeWrong)

/- THE SECOND FORM. 'bulk': how many values and letters a reading holds, each counted each time it is reached (what is shared counts as often as it is met; a slice's spare places count too). A statement '..UptoSaid' is the law's where the arguments, and the package variables that the reading takes, are together of bulk at most 1048576: NARROWER than '..Said'. Prove '..Said' where nothing that the law and all that it calls make is longer than what came in: it says more and counts as full. Else prove '..UptoSaid'. A law counts once. -/
mutual
def uptoBulk {H : Type} : DataW H → Nat
  | .lit (.string bytes) => bytes.length + 1
  | .lit _ => 1
  | .nil => 1
  | .ptr d => uptoBulk d + 1
  | .slice elems spare => uptoBulkAll elems + uptoBulkAll spare + 1
  | .agg parts => uptoBulkAll parts + 1
  | .iface _ d => uptoBulk d + 1
  | .map entries => uptoBulkEntries entries + 1
  | .held _ => 1
def uptoBulkAll {H : Type} : List (DataW H) → Nat
  | [] => 0
  | d :: r => uptoBulk d + uptoBulkAll r
def uptoBulkEntries {H : Type} : List (Lit × DataW H) → Nat
  | [] => 0
  | x :: r => uptoBulkEntry x + uptoBulkEntries r
def uptoBulkEntry {H : Type} : Lit × DataW H → Nat
  | (.string bytes, d) => bytes.length + uptoBulk d + 1
  | (_, d) => uptoBulk d + 1
 end
def uptoSmall : (H : Type) → List (DataW H) → Bool := fun _ ds => decide (uptoBulkAll ds ≤ 1048576)
def OpenSpec.upto (s : _root_.Go.ChangeSpec) : _root_.Go.OpenSpec := { _root_.Go.OpenSpec.ofChange s with cond := some uptoSmall }

/-- 'roundsmanlaw14.NestBuilds', WHERE WHAT IT READS IS OF BULK AT MOST 1048576: true; the input reads as it did. -/
def nestBuildsUptoRow : OpenClaim := { program := "ytpffhoefmcpniaagreatdoor", sum := "896cc7d4ddcf812bd3ecc58bf41e0bd50f860c8740ec03344f386b1d878526d5", func := "roundsman/roundsmanlaw14.NestBuilds", spec := "nestBuilds", inPlace := ["internal/reflectlite.TypeOf", "internal/reflectlite.ValueOf", "(internal/reflectlite.Value).Type", "(internal/reflectlite.Value).IsNil", "(internal/reflectlite.Value).Elem", "(internal/reflectlite.Value).Set"], unfollowed := true, recurses := true, named := ["errors.errorType"], apart := false, laid := [("errors.errorType", laid_errors_errorType)], narrowed := true }
def NestBuildsUptoSaid : Prop := nestBuildsUptoRow.holds Tryz.pinned (OpenSpec.upto nestBuildsSpec)

/-- 'roundsmanlaw14.NestPieces', WHERE WHAT IT READS IS OF BULK AT MOST 1048576: true; the input reads as it did. -/
def nestPiecesUptoRow : OpenClaim := { program := "ytpffhoefmcpniaagreatdoor", sum := "896cc7d4ddcf812bd3ecc58bf41e0bd50f860c8740ec03344f386b1d878526d5", func := "roundsman/roundsmanlaw14.NestPieces", spec := "nestPieces", inPlace := ["internal/reflectlite.TypeOf", "internal/reflectlite.ValueOf", "(internal/reflectlite.Value).Type", "(internal/reflectlite.Value).IsNil", "(internal/reflectlite.Value).Elem", "(internal/reflectlite.Value).Set"], unfollowed := true, recurses := true, named := ["errors.errorType"], apart := false, laid := [("errors.errorType", laid_errors_errorType)], narrowed := true }
def NestPiecesUptoSaid : Prop := nestPiecesUptoRow.holds Tryz.pinned (OpenSpec.upto nestPiecesSpec)

/-- 'roundsmanlaw14.NestPairs', WHERE WHAT IT READS IS OF BULK AT MOST 1048576: true; the input reads as it did. -/
def nestPairsUptoRow : OpenClaim := { program := "ytpffhoefmcpniaagreatdoor", sum := "896cc7d4ddcf812bd3ecc58bf41e0bd50f860c8740ec03344f386b1d878526d5", func := "roundsman/roundsmanlaw14.NestPairs", spec := "nestPairs", inPlace := ["internal/reflectlite.TypeOf", "internal/reflectlite.ValueOf", "(internal/reflectlite.Value).Type", "(internal/reflectlite.Value).IsNil", "(internal/reflectlite.Value).Elem", "(internal/reflectlite.Value).Set"], unfollowed := true, recurses := true, named := ["errors.errorType"], apart := false, laid := [("errors.errorType", laid_errors_errorType)], narrowed := true }
def NestPairsUptoSaid : Prop := nestPairsUptoRow.holds Tryz.pinned (OpenSpec.upto nestPairsSpec)

/-- 'roundsmanlaw14.NestBounds', WHERE WHAT IT READS IS OF BULK AT MOST 1048576: true; the input reads as it did. -/
def nestBoundsUptoRow : OpenClaim := { program := "ytpffhoefmcpniaagreatdoor", sum := "896cc7d4ddcf812bd3ecc58bf41e0bd50f860c8740ec03344f386b1d878526d5", func := "roundsman/roundsmanlaw14.NestBounds", spec := "nestBounds", inPlace := ["internal/reflectlite.TypeOf", "internal/reflectlite.ValueOf", "(internal/reflectlite.Value).Type", "(internal/reflectlite.Value).IsNil", "(internal/reflectlite.Value).Elem", "(internal/reflectlite.Value).Set"], unfollowed := true, recurses := true, named := ["errors.errorType"], apart := false, laid := [("errors.errorType", laid_errors_errorType)], narrowed := true }
def NestBoundsUptoSaid : Prop := nestBoundsUptoRow.holds Tryz.pinned (OpenSpec.upto nestBoundsSpec)

/-- 'roundsmanlaw14.NestWhole', WHERE WHAT IT READS IS OF BULK AT MOST 1048576: true; the input reads as it did. -/
def nestWholeUptoRow : OpenClaim := { program := "ytpffhoefmcpniaagreatdoor", sum := "896cc7d4ddcf812bd3ecc58bf41e0bd50f860c8740ec03344f386b1d878526d5", func := "roundsman/roundsmanlaw14.NestWhole", spec := "nestWhole", inPlace := ["internal/reflectlite.TypeOf", "internal/reflectlite.ValueOf", "(internal/reflectlite.Value).Type", "(internal/reflectlite.Value).IsNil", "(internal/reflectlite.Value).Elem", "(internal/reflectlite.Value).Set"], unfollowed := true, recurses := true, named := ["errors.errorType"], apart := false, laid := [("errors.errorType", laid_errors_errorType)], narrowed := true }
def NestWholeUptoSaid : Prop := nestWholeUptoRow.holds Tryz.pinned (OpenSpec.upto nestWholeSpec)

end Rows
end Go.Proofs.YtpffhoefmcpniaaGreatDoor
