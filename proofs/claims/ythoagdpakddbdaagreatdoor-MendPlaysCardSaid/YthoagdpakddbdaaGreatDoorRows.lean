/-
  NARROWER THAN 'FOR EVERY INPUT', by the rows' own cells (each row's printed sentence says how): MendDiffs: laid · MendPlays: laid · MendBack: laid · MendParts: laid · MendKeeps: laid.
  DERIVED. THE GIVEN ROWS OF THIS SEAT. 5 by the template 'for every input the law returns true; each argument reads behind the call as it read before'; 0 by the template 'total and deterministic' (their statements: YthoagdpakddbdaaGreatDoorTotals.lean).
  GIVEN WITH THE SEED: the statements are not yours to turn. If you find one false, say at which input.
  Laid BY PROGRAM, IN A SANDBOX (cutbox-rows.mjs): the forced cells as the released guide's own fill.sh prints them over the translation e4b3613845d36520… (all of the seat's roots in one cut). By AI agents, Wed Nov 11 2026. No macro, syntax, notation, axiom, sorry.
-/
import Derived.Test.YthoagdpakddbdaaGreatDoorChecked
import GoSem.Claim
import GoSem.ClaimJoined
import GoSem.ClaimMapViews
import Derived.JoinedTies
import Derived.KernelRfl
namespace Go.Proofs.YthoagdpakddbdaaGreatDoor
/- THE CELL 'sum', in the pinned program and in every row, IS THE sha256 OF THE DUMP (.gsa) THAT YthoagdpakddbdaaGreatDoorProg.lean LOADS. Nothing in Lean hashes anything: it is a label: what it is worth is what the hold of that sum in a sandbox is worth. -/
noncomputable def Tryz.pinned : Pinned := { name := "ythoagdpakddbdaagreatdoor", sum := "e4b3613845d36520ba61faf8e4f7013cc02d6641b63a0adee78a48fc84a19576", checked := Tryz.checked }
namespace Rows
def none {H : Type} : Left H := { results := [], args := [] }

/- WHAT THE LISTED PACKAGE-LEVEL VARIABLES READ AS WHEN THE CALL BEGINS. Each datum BY PROGRAM (the guide's laid-datum.mjs) off the statement by which the dump's own 'gosem.cut.vars' lays the variable. In a bare row this is a premise. The card (YthoagdpakddbdaaGreatDoorCards.lean) ties it to the program's text. -/
def laid_errors_errorType {H : Type} : DataW H := .iface "internal/reflectlite.rtype" (.agg [.ptr (.lit (.string [101, 114, 114, 111, 114]))])

/-- 'roundsmanlaw20.MendDiffs': WHATEVER THE INPUT: true; the input reads as it did. -/
def mendDiffsSpec : ChangeSpec := { name := "mendDiffs", fn := fun _ => fun
  | [d1, d2, d3, d4] => { results := [.lit (.bool true)], args := [d1, d2, d3, d4] }
  | _ => none }
def mendDiffsRow : OpenClaim := { program := "ythoagdpakddbdaagreatdoor", sum := "e4b3613845d36520ba61faf8e4f7013cc02d6641b63a0adee78a48fc84a19576", func := "roundsman/roundsmanlaw20.MendDiffs", spec := "mendDiffs", inPlace := ["internal/reflectlite.TypeOf", "internal/reflectlite.ValueOf", "(internal/reflectlite.Value).Type", "(internal/reflectlite.Value).IsNil", "(internal/reflectlite.Value).Elem", "(internal/reflectlite.Value).Set"], unfollowed := true, recurses := true, named := ["errors.errorType"], plainKeys := false, apart := false, laid := [("errors.errorType", laid_errors_errorType)] }
def MendDiffsSaid : Prop := mendDiffsRow.holds Tryz.pinned (OpenSpec.ofChange mendDiffsSpec)

/-- ITS FALSE NEIGHBOUR: 'it returns false'. Refute it at one input. -/
def mendDiffsWrong : ChangeSpec := { name := "mendDiffs", fn := fun _ => fun
  | [d1, d2, d3, d4] => { results := [.lit (.bool false)], args := [d1, d2, d3, d4] }
  | _ => none }
def MendDiffsWrongFalsely : Prop := mendDiffsRow.holds Tryz.pinned (OpenSpec.ofChange mendDiffsWrong)

/-- 'roundsmanlaw20.MendPlays': WHATEVER THE INPUT: true; the input reads as it did. -/
def mendPlaysSpec : ChangeSpec := { name := "mendPlays", fn := fun _ => fun
  | [d1, d2, d3] => { results := [.lit (.bool true)], args := [d1, d2, d3] }
  | _ => none }
def mendPlaysRow : OpenClaim := { program := "ythoagdpakddbdaagreatdoor", sum := "e4b3613845d36520ba61faf8e4f7013cc02d6641b63a0adee78a48fc84a19576", func := "roundsman/roundsmanlaw20.MendPlays", spec := "mendPlays", inPlace := ["internal/reflectlite.TypeOf", "internal/reflectlite.ValueOf", "(internal/reflectlite.Value).Type", "(internal/reflectlite.Value).IsNil", "(internal/reflectlite.Value).Elem", "(internal/reflectlite.Value).Set"], unfollowed := true, recurses := true, named := ["errors.errorType"], plainKeys := false, apart := false, laid := [("errors.errorType", laid_errors_errorType)] }
def MendPlaysSaid : Prop := mendPlaysRow.holds Tryz.pinned (OpenSpec.ofChange mendPlaysSpec)

/-- ITS FALSE NEIGHBOUR: 'it returns false'. Refute it at one input. -/
def mendPlaysWrong : ChangeSpec := { name := "mendPlays", fn := fun _ => fun
  | [d1, d2, d3] => { results := [.lit (.bool false)], args := [d1, d2, d3] }
  | _ => none }
def MendPlaysWrongFalsely : Prop := mendPlaysRow.holds Tryz.pinned (OpenSpec.ofChange mendPlaysWrong)

/-- 'roundsmanlaw20.MendBack': WHATEVER THE INPUT: true; the input reads as it did. -/
def mendBackSpec : ChangeSpec := { name := "mendBack", fn := fun _ => fun
  | [d1, d2, d3] => { results := [.lit (.bool true)], args := [d1, d2, d3] }
  | _ => none }
def mendBackRow : OpenClaim := { program := "ythoagdpakddbdaagreatdoor", sum := "e4b3613845d36520ba61faf8e4f7013cc02d6641b63a0adee78a48fc84a19576", func := "roundsman/roundsmanlaw20.MendBack", spec := "mendBack", inPlace := ["internal/reflectlite.TypeOf", "internal/reflectlite.ValueOf", "(internal/reflectlite.Value).Type", "(internal/reflectlite.Value).IsNil", "(internal/reflectlite.Value).Elem", "(internal/reflectlite.Value).Set"], unfollowed := true, recurses := true, named := ["errors.errorType"], plainKeys := false, apart := false, laid := [("errors.errorType", laid_errors_errorType)] }
def MendBackSaid : Prop := mendBackRow.holds Tryz.pinned (OpenSpec.ofChange mendBackSpec)

/-- ITS FALSE NEIGHBOUR: 'it returns false'. Refute it at one input. -/
def mendBackWrong : ChangeSpec := { name := "mendBack", fn := fun _ => fun
  | [d1, d2, d3] => { results := [.lit (.bool false)], args := [d1, d2, d3] }
  | _ => none }
def MendBackWrongFalsely : Prop := mendBackRow.holds Tryz.pinned (OpenSpec.ofChange mendBackWrong)

/-- 'roundsmanlaw20.MendParts': WHATEVER THE INPUT: true; the input reads as it did. -/
def mendPartsSpec : ChangeSpec := { name := "mendParts", fn := fun _ => fun
  | [d1, d2, d3, d4] => { results := [.lit (.bool true)], args := [d1, d2, d3, d4] }
  | _ => none }
def mendPartsRow : OpenClaim := { program := "ythoagdpakddbdaagreatdoor", sum := "e4b3613845d36520ba61faf8e4f7013cc02d6641b63a0adee78a48fc84a19576", func := "roundsman/roundsmanlaw20.MendParts", spec := "mendParts", inPlace := ["internal/reflectlite.TypeOf", "internal/reflectlite.ValueOf", "(internal/reflectlite.Value).Type", "(internal/reflectlite.Value).IsNil", "(internal/reflectlite.Value).Elem", "(internal/reflectlite.Value).Set"], unfollowed := true, recurses := true, named := ["errors.errorType"], plainKeys := false, apart := false, laid := [("errors.errorType", laid_errors_errorType)] }
def MendPartsSaid : Prop := mendPartsRow.holds Tryz.pinned (OpenSpec.ofChange mendPartsSpec)

/-- ITS FALSE NEIGHBOUR: 'it returns false'. Refute it at one input. -/
def mendPartsWrong : ChangeSpec := { name := "mendParts", fn := fun _ => fun
  | [d1, d2, d3, d4] => { results := [.lit (.bool false)], args := [d1, d2, d3, d4] }
  | _ => none }
def MendPartsWrongFalsely : Prop := mendPartsRow.holds Tryz.pinned (OpenSpec.ofChange mendPartsWrong)

/-- 'roundsmanlaw20.MendKeeps': WHATEVER THE INPUT: true; the input reads as it did. -/
def mendKeepsSpec : ChangeSpec := { name := "mendKeeps", fn := fun _ => fun
  | [d1, d2, d3] => { results := [.lit (.bool true)], args := [d1, d2, d3] }
  | _ => none }
def mendKeepsRow : OpenClaim := { program := "ythoagdpakddbdaagreatdoor", sum := "e4b3613845d36520ba61faf8e4f7013cc02d6641b63a0adee78a48fc84a19576", func := "roundsman/roundsmanlaw20.MendKeeps", spec := "mendKeeps", inPlace := ["internal/reflectlite.TypeOf", "internal/reflectlite.ValueOf", "(internal/reflectlite.Value).Type", "(internal/reflectlite.Value).IsNil", "(internal/reflectlite.Value).Elem", "(internal/reflectlite.Value).Set"], unfollowed := true, recurses := true, named := ["errors.errorType"], plainKeys := false, apart := false, laid := [("errors.errorType", laid_errors_errorType)] }
def MendKeepsSaid : Prop := mendKeepsRow.holds Tryz.pinned (OpenSpec.ofChange mendKeepsSpec)

/-- ITS FALSE NEIGHBOUR: 'it returns false'. Refute it at one input. -/
def mendKeepsWrong : ChangeSpec := { name := "mendKeeps", fn := fun _ => fun
  | [d1, d2, d3] => { results := [.lit (.bool false)], args := [d1, d2, d3] }
  | _ => none }
def MendKeepsWrongFalsely : Prop := mendKeepsRow.holds Tryz.pinned (OpenSpec.ofChange mendKeepsWrong)

/- THE SECOND FORM. 'bulk': how many values and letters a reading holds, each counted each time it is reached (what is shared counts as often as it is met; a slice's spare places count too). A statement '..UptoSaid' is the law's where the arguments, and the package variables that the reading takes, are together of bulk at most 1048576: NARROWER than '..Said'. Prove '..Said' where nothing that the law and all that it calls make is longer than what came in: it says more and counts as full. Else prove '..UptoSaid'. A law counts once. -/
mutual
def uptoBulk {H : Type} : DataW H → Nat
  | .lit (.string bytes) => bytes.length + 1
  | .lit _ => 1
  | .nil => 1
  | .ptr d => uptoBulk d + 1
  | .slice elems spare => uptoBulkAll elems + uptoBulkAll spare + 1
  | .agg parts => uptoBulkAll parts + 1
  | .iface _ d => uptoBulk d + 1
  | .map entries => uptoBulkEntries entries + 1
  | .held _ => 1
def uptoBulkAll {H : Type} : List (DataW H) → Nat
  | [] => 0
  | d :: r => uptoBulk d + uptoBulkAll r
def uptoBulkEntries {H : Type} : List (Lit × DataW H) → Nat
  | [] => 0
  | x :: r => uptoBulkEntry x + uptoBulkEntries r
def uptoBulkEntry {H : Type} : Lit × DataW H → Nat
  | (.string bytes, d) => bytes.length + uptoBulk d + 1
  | (_, d) => uptoBulk d + 1
 end
def uptoSmall : (H : Type) → List (DataW H) → Bool := fun _ ds => decide (uptoBulkAll ds ≤ 1048576)
def OpenSpec.upto (s : _root_.Go.ChangeSpec) : _root_.Go.OpenSpec := { _root_.Go.OpenSpec.ofChange s with cond := some uptoSmall }

/-- 'roundsmanlaw20.MendDiffs', WHERE WHAT IT READS IS OF BULK AT MOST 1048576: true; the input reads as it did. -/
def mendDiffsUptoRow : OpenClaim := { program := "ythoagdpakddbdaagreatdoor", sum := "e4b3613845d36520ba61faf8e4f7013cc02d6641b63a0adee78a48fc84a19576", func := "roundsman/roundsmanlaw20.MendDiffs", spec := "mendDiffs", inPlace := ["internal/reflectlite.TypeOf", "internal/reflectlite.ValueOf", "(internal/reflectlite.Value).Type", "(internal/reflectlite.Value).IsNil", "(internal/reflectlite.Value).Elem", "(internal/reflectlite.Value).Set"], unfollowed := true, recurses := true, named := ["errors.errorType"], plainKeys := false, apart := false, laid := [("errors.errorType", laid_errors_errorType)], narrowed := true }
def MendDiffsUptoSaid : Prop := mendDiffsUptoRow.holds Tryz.pinned (OpenSpec.upto mendDiffsSpec)

/-- 'roundsmanlaw20.MendPlays', WHERE WHAT IT READS IS OF BULK AT MOST 1048576: true; the input reads as it did. -/
def mendPlaysUptoRow : OpenClaim := { program := "ythoagdpakddbdaagreatdoor", sum := "e4b3613845d36520ba61faf8e4f7013cc02d6641b63a0adee78a48fc84a19576", func := "roundsman/roundsmanlaw20.MendPlays", spec := "mendPlays", inPlace := ["internal/reflectlite.TypeOf", "internal/reflectlite.ValueOf", "(internal/reflectlite.Value).Type", "(internal/reflectlite.Value).IsNil", "(internal/reflectlite.Value).Elem", "(internal/reflectlite.Value).Set"], unfollowed := true, recurses := true, named := ["errors.errorType"], plainKeys := false, apart := false, laid := [("errors.errorType", laid_errors_errorType)], narrowed := true }
def MendPlaysUptoSaid : Prop := mendPlaysUptoRow.holds Tryz.pinned (OpenSpec.upto mendPlaysSpec)

/-- 'roundsmanlaw20.MendBack', WHERE WHAT IT READS IS OF BULK AT MOST 1048576: true; the input reads as it did. -/
def mendBackUptoRow : OpenClaim := { program := "ythoagdpakddbdaagreatdoor", sum := "e4b3613845d36520ba61faf8e4f7013cc02d6641b63a0adee78a48fc84a19576", func := "roundsman/roundsmanlaw20.MendBack", spec := "mendBack", inPlace := ["internal/reflectlite.TypeOf", "internal/reflectlite.ValueOf", "(internal/reflectlite.Value).Type", "(internal/reflectlite.Value).IsNil", "(internal/reflectlite.Value).Elem", "(internal/reflectlite.Value).Set"], unfollowed := true, recurses := true, named := ["errors.errorType"], plainKeys := false, apart := false, laid := [("errors.errorType", laid_errors_errorType)], narrowed := true }
def MendBackUptoSaid : Prop := mendBackUptoRow.holds Tryz.pinned (OpenSpec.upto mendBackSpec)

/-- 'roundsmanlaw20.MendParts', WHERE WHAT IT READS IS OF BULK AT MOST 1048576: true; the input reads as it did. -/
def mendPartsUptoRow : OpenClaim := { program := "ythoagdpakddbdaagreatdoor", sum := "e4b3613845d36520ba61faf8e4f7013cc02d6641b63a0adee78a48fc84a19576", func := "roundsman/roundsmanlaw20.MendParts", spec := "mendParts", inPlace := ["internal/reflectlite.TypeOf", "internal/reflectlite.ValueOf", "(internal/reflectlite.Value).Type", "(internal/reflectlite.Value).IsNil", "(internal/reflectlite.Value).Elem", "(internal/reflectlite.Value).Set"], unfollowed := true, recurses := true, named := ["errors.errorType"], plainKeys := false, apart := false, laid := [("errors.errorType", laid_errors_errorType)], narrowed := true }
def MendPartsUptoSaid : Prop := mendPartsUptoRow.holds Tryz.pinned (OpenSpec.upto mendPartsSpec)

/-- 'roundsmanlaw20.MendKeeps', WHERE WHAT IT READS IS OF BULK AT MOST 1048576: true; the input reads as it did. -/
def mendKeepsUptoRow : OpenClaim := { program := "ythoagdpakddbdaagreatdoor", sum := "e4b3613845d36520ba61faf8e4f7013cc02d6641b63a0adee78a48fc84a19576", func := "roundsman/roundsmanlaw20.MendKeeps", spec := "mendKeeps", inPlace := ["internal/reflectlite.TypeOf", "internal/reflectlite.ValueOf", "(internal/reflectlite.Value).Type", "(internal/reflectlite.Value).IsNil", "(internal/reflectlite.Value).Elem", "(internal/reflectlite.Value).Set"], unfollowed := true, recurses := true, named := ["errors.errorType"], plainKeys := false, apart := false, laid := [("errors.errorType", laid_errors_errorType)], narrowed := true }
def MendKeepsUptoSaid : Prop := mendKeepsUptoRow.holds Tryz.pinned (OpenSpec.upto mendKeepsSpec)

end Rows
end Go.Proofs.YthoagdpakddbdaaGreatDoor
