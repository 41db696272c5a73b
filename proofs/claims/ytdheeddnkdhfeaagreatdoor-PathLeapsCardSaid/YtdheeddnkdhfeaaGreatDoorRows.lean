/-
  NARROWER THAN 'FOR EVERY INPUT', by the rows' own cells (each row's printed sentence says how): AskChanged: laid · PathLeaps: laid · PathEntries: laid · PathParts: laid · PathShut: laid.
  DERIVED. THE GIVEN ROWS OF THIS SEAT. 5 by the template 'for every input the law returns true; each argument reads behind the call as it read before'; 0 by the template 'total and deterministic' (their statements: YtdheeddnkdhfeaaGreatDoorTotals.lean).
  GIVEN WITH THE SEED: the statements are not yours to turn. If you find one false, say at which input.
  Laid BY PROGRAM, IN A SANDBOX (cutbox-rows.mjs): the forced cells as the released guide's own fill.sh prints them over the translation 9931854731ef8c1a… (all of the seat's roots in one cut). By AI agents, Wed Nov 11 2026. No macro, syntax, notation, axiom, sorry.
-/
import Derived.Test.YtdheeddnkdhfeaaGreatDoorChecked
import GoSem.Claim
import GoSem.ClaimJoined
import GoSem.ClaimMapViews
import Derived.JoinedTies
import Derived.KernelRfl
namespace Go.Proofs.YtdheeddnkdhfeaaGreatDoor
/- THE CELL 'sum', in the pinned program and in every row, IS THE sha256 OF THE DUMP (.gsa) THAT YtdheeddnkdhfeaaGreatDoorProg.lean LOADS. Nothing in Lean hashes anything: it is a label: what it is worth is what the hold of that sum in a sandbox is worth. -/
noncomputable def Tryz.pinned : Pinned := { name := "ytdheeddnkdhfeaagreatdoor", sum := "9931854731ef8c1ae12dc5f26df533fc6a8f67dc5d280a81dfead9eb84f956de", checked := Tryz.checked }
namespace Rows
def none {H : Type} : Left H := { results := [], args := [] }

/- WHAT THE LISTED PACKAGE-LEVEL VARIABLES READ AS WHEN THE CALL BEGINS. Each datum BY PROGRAM (the guide's laid-datum.mjs) off the statement by which the dump's own 'gosem.cut.vars' lays the variable. In a bare row this is a premise. The card (YtdheeddnkdhfeaaGreatDoorCards.lean) ties it to the program's text. -/
def laid_errors_errorType {H : Type} : DataW H := .iface "internal/reflectlite.rtype" (.agg [.ptr (.lit (.string [101, 114, 114, 111, 114]))])

/-- 'roundsmanlaw21.AskChanged': WHATEVER THE INPUT: true; the input reads as it did. -/
def askChangedSpec : ChangeSpec := { name := "askChanged", fn := fun _ => fun
  | [d1, d2, d3, d4, d5] => { results := [.lit (.bool true)], args := [d1, d2, d3, d4, d5] }
  | _ => none }
def askChangedRow : OpenClaim := { program := "ytdheeddnkdhfeaagreatdoor", sum := "9931854731ef8c1ae12dc5f26df533fc6a8f67dc5d280a81dfead9eb84f956de", func := "roundsman/roundsmanlaw21.AskChanged", spec := "askChanged", inPlace := ["internal/reflectlite.TypeOf", "internal/reflectlite.ValueOf", "(internal/reflectlite.Value).Type", "(internal/reflectlite.Value).IsNil", "(internal/reflectlite.Value).Elem", "(internal/reflectlite.Value).Set"], unfollowed := true, recurses := true, named := ["errors.errorType"], plainKeys := false, apart := false, laid := [("errors.errorType", laid_errors_errorType)] }
def AskChangedSaid : Prop := askChangedRow.holds Tryz.pinned (OpenSpec.ofChange askChangedSpec)

/-- ITS FALSE NEIGHBOUR: 'it returns false'. Refute it at one input. -/
def askChangedWrong : ChangeSpec := { name := "askChanged", fn := fun _ => fun
  | [d1, d2, d3, d4, d5] => { results := [.lit (.bool false)], args := [d1, d2, d3, d4, d5] }
  | _ => none }
def AskChangedWrongFalsely : Prop := askChangedRow.holds Tryz.pinned (OpenSpec.ofChange askChangedWrong)

/-- 'roundsmanlaw22.PathLeaps': WHATEVER THE INPUT: true; the input reads as it did. -/
def pathLeapsSpec : ChangeSpec := { name := "pathLeaps", fn := fun _ => fun
  | [d1, d2, d3, d4, d5] => { results := [.lit (.bool true)], args := [d1, d2, d3, d4, d5] }
  | _ => none }
def pathLeapsRow : OpenClaim := { program := "ytdheeddnkdhfeaagreatdoor", sum := "9931854731ef8c1ae12dc5f26df533fc6a8f67dc5d280a81dfead9eb84f956de", func := "roundsman/roundsmanlaw22.PathLeaps", spec := "pathLeaps", inPlace := ["internal/reflectlite.TypeOf", "internal/reflectlite.ValueOf", "(internal/reflectlite.Value).Type", "(internal/reflectlite.Value).IsNil", "(internal/reflectlite.Value).Elem", "(internal/reflectlite.Value).Set"], unfollowed := true, recurses := true, named := ["errors.errorType"], plainKeys := false, apart := false, laid := [("errors.errorType", laid_errors_errorType)] }
def PathLeapsSaid : Prop := pathLeapsRow.holds Tryz.pinned (OpenSpec.ofChange pathLeapsSpec)

/-- ITS FALSE NEIGHBOUR: 'it returns false'. Refute it at one input. -/
def pathLeapsWrong : ChangeSpec := { name := "pathLeaps", fn := fun _ => fun
  | [d1, d2, d3, d4, d5] => { results := [.lit (.bool false)], args := [d1, d2, d3, d4, d5] }
  | _ => none }
def PathLeapsWrongFalsely : Prop := pathLeapsRow.holds Tryz.pinned (OpenSpec.ofChange pathLeapsWrong)

/-- 'roundsmanlaw22.PathEntries': WHATEVER THE INPUT: true; the input reads as it did. -/
def pathEntriesSpec : ChangeSpec := { name := "pathEntries", fn := fun _ => fun
  | [d1, d2] => { results := [.lit (.bool true)], args := [d1, d2] }
  | _ => none }
def pathEntriesRow : OpenClaim := { program := "ytdheeddnkdhfeaagreatdoor", sum := "9931854731ef8c1ae12dc5f26df533fc6a8f67dc5d280a81dfead9eb84f956de", func := "roundsman/roundsmanlaw22.PathEntries", spec := "pathEntries", inPlace := ["internal/reflectlite.TypeOf", "internal/reflectlite.ValueOf", "(internal/reflectlite.Value).Type", "(internal/reflectlite.Value).IsNil", "(internal/reflectlite.Value).Elem", "(internal/reflectlite.Value).Set"], unfollowed := true, recurses := true, named := ["errors.errorType"], plainKeys := false, apart := false, laid := [("errors.errorType", laid_errors_errorType)] }
def PathEntriesSaid : Prop := pathEntriesRow.holds Tryz.pinned (OpenSpec.ofChange pathEntriesSpec)

/-- ITS FALSE NEIGHBOUR: 'it returns false'. Refute it at one input. -/
def pathEntriesWrong : ChangeSpec := { name := "pathEntries", fn := fun _ => fun
  | [d1, d2] => { results := [.lit (.bool false)], args := [d1, d2] }
  | _ => none }
def PathEntriesWrongFalsely : Prop := pathEntriesRow.holds Tryz.pinned (OpenSpec.ofChange pathEntriesWrong)

/-- 'roundsmanlaw22.PathParts': WHATEVER THE INPUT: true; the input reads as it did. -/
def pathPartsSpec : ChangeSpec := { name := "pathParts", fn := fun _ => fun
  | [d1, d2, d3, d4, d5, d6] => { results := [.lit (.bool true)], args := [d1, d2, d3, d4, d5, d6] }
  | _ => none }
def pathPartsRow : OpenClaim := { program := "ytdheeddnkdhfeaagreatdoor", sum := "9931854731ef8c1ae12dc5f26df533fc6a8f67dc5d280a81dfead9eb84f956de", func := "roundsman/roundsmanlaw22.PathParts", spec := "pathParts", inPlace := ["internal/reflectlite.TypeOf", "internal/reflectlite.ValueOf", "(internal/reflectlite.Value).Type", "(internal/reflectlite.Value).IsNil", "(internal/reflectlite.Value).Elem", "(internal/reflectlite.Value).Set"], unfollowed := true, recurses := true, named := ["errors.errorType"], plainKeys := false, apart := false, laid := [("errors.errorType", laid_errors_errorType)] }
def PathPartsSaid : Prop := pathPartsRow.holds Tryz.pinned (OpenSpec.ofChange pathPartsSpec)

/-- ITS FALSE NEIGHBOUR: 'it returns false'. Refute it at one input. -/
def pathPartsWrong : ChangeSpec := { name := "pathParts", fn := fun _ => fun
  | [d1, d2, d3, d4, d5, d6] => { results := [.lit (.bool false)], args := [d1, d2, d3, d4, d5, d6] }
  | _ => none }
def PathPartsWrongFalsely : Prop := pathPartsRow.holds Tryz.pinned (OpenSpec.ofChange pathPartsWrong)

/-- 'roundsmanlaw22.PathShut': WHATEVER THE INPUT: true; the input reads as it did. -/
def pathShutSpec : ChangeSpec := { name := "pathShut", fn := fun _ => fun
  | [d1, d2, d3, d4, d5] => { results := [.lit (.bool true)], args := [d1, d2, d3, d4, d5] }
  | _ => none }
def pathShutRow : OpenClaim := { program := "ytdheeddnkdhfeaagreatdoor", sum := "9931854731ef8c1ae12dc5f26df533fc6a8f67dc5d280a81dfead9eb84f956de", func := "roundsman/roundsmanlaw22.PathShut", spec := "pathShut", inPlace := ["internal/reflectlite.TypeOf", "internal/reflectlite.ValueOf", "(internal/reflectlite.Value).Type", "(internal/reflectlite.Value).IsNil", "(internal/reflectlite.Value).Elem", "(internal/reflectlite.Value).Set"], unfollowed := true, recurses := true, named := ["errors.errorType"], plainKeys := false, apart := false, laid := [("errors.errorType", laid_errors_errorType)] }
def PathShutSaid : Prop := pathShutRow.holds Tryz.pinned (OpenSpec.ofChange pathShutSpec)

/-- ITS FALSE NEIGHBOUR: 'it returns false'. Refute it at one input. -/
def pathShutWrong : ChangeSpec := { name := "pathShut", fn := fun _ => fun
  | [d1, d2, d3, d4, d5] => { results := [.lit (.bool false)], args := [d1, d2, d3, d4, d5] }
  | _ => none }
def PathShutWrongFalsely : Prop := pathShutRow.holds Tryz.pinned (OpenSpec.ofChange pathShutWrong)

/- THE SECOND FORM. 'bulk': how many values and letters a reading holds, each counted each time it is reached (what is shared counts as often as it is met; a slice's spare places count too). A statement '..UptoSaid' is the law's where the arguments, and the package variables that the reading takes, are together of bulk at most 1048576: NARROWER than '..Said'. Prove '..Said' where nothing that the law and all that it calls make is longer than what came in: it says more and counts as full. Else prove '..UptoSaid'. A law counts once. -/
mutual
def uptoBulk {H : Type} : DataW H → Nat
  | .lit (.string bytes) => bytes.length + 1
  | .lit _ => 1
  | .nil => 1
  | .ptr d => uptoBulk d + 1
  | .slice elems spare => uptoBulkAll elems + uptoBulkAll spare + 1
  | .agg parts => uptoBulkAll parts + 1
  | .iface _ d => uptoBulk d + 1
  | .map entries => uptoBulkEntries entries + 1
  | .held _ => 1
def uptoBulkAll {H : Type} : List (DataW H) → Nat
  | [] => 0
  | d :: r => uptoBulk d + uptoBulkAll r
def uptoBulkEntries {H : Type} : List (Lit × DataW H) → Nat
  | [] => 0
  | x :: r => uptoBulkEntry x + uptoBulkEntries r
def uptoBulkEntry {H : Type} : Lit × DataW H → Nat
  | (.string bytes, d) => bytes.length + uptoBulk d + 1
  | (_, d) => uptoBulk d + 1
 end
def uptoSmall : (H : Type) → List (DataW H) → Bool := fun _ ds => decide (uptoBulkAll ds ≤ 1048576)
def OpenSpec.upto (s : _root_.Go.ChangeSpec) : _root_.Go.OpenSpec := { _root_.Go.OpenSpec.ofChange s with cond := some uptoSmall }

/-- 'roundsmanlaw21.AskChanged', WHERE WHAT IT READS IS OF BULK AT MOST 1048576: true; the input reads as it did. -/
def askChangedUptoRow : OpenClaim := { program := "ytdheeddnkdhfeaagreatdoor", sum := "9931854731ef8c1ae12dc5f26df533fc6a8f67dc5d280a81dfead9eb84f956de", func := "roundsman/roundsmanlaw21.AskChanged", spec := "askChanged", inPlace := ["internal/reflectlite.TypeOf", "internal/reflectlite.ValueOf", "(internal/reflectlite.Value).Type", "(internal/reflectlite.Value).IsNil", "(internal/reflectlite.Value).Elem", "(internal/reflectlite.Value).Set"], unfollowed := true, recurses := true, named := ["errors.errorType"], plainKeys := false, apart := false, laid := [("errors.errorType", laid_errors_errorType)], narrowed := true }
def AskChangedUptoSaid : Prop := askChangedUptoRow.holds Tryz.pinned (OpenSpec.upto askChangedSpec)

/-- 'roundsmanlaw22.PathLeaps', WHERE WHAT IT READS IS OF BULK AT MOST 1048576: true; the input reads as it did. -/
def pathLeapsUptoRow : OpenClaim := { program := "ytdheeddnkdhfeaagreatdoor", sum := "9931854731ef8c1ae12dc5f26df533fc6a8f67dc5d280a81dfead9eb84f956de", func := "roundsman/roundsmanlaw22.PathLeaps", spec := "pathLeaps", inPlace := ["internal/reflectlite.TypeOf", "internal/reflectlite.ValueOf", "(internal/reflectlite.Value).Type", "(internal/reflectlite.Value).IsNil", "(internal/reflectlite.Value).Elem", "(internal/reflectlite.Value).Set"], unfollowed := true, recurses := true, named := ["errors.errorType"], plainKeys := false, apart := false, laid := [("errors.errorType", laid_errors_errorType)], narrowed := true }
def PathLeapsUptoSaid : Prop := pathLeapsUptoRow.holds Tryz.pinned (OpenSpec.upto pathLeapsSpec)

/-- 'roundsmanlaw22.PathEntries', WHERE WHAT IT READS IS OF BULK AT MOST 1048576: true; the input reads as it did. -/
def pathEntriesUptoRow : OpenClaim := { program := "ytdheeddnkdhfeaagreatdoor", sum := "9931854731ef8c1ae12dc5f26df533fc6a8f67dc5d280a81dfead9eb84f956de", func := "roundsman/roundsmanlaw22.PathEntries", spec := "pathEntries", inPlace := ["internal/reflectlite.TypeOf", "internal/reflectlite.ValueOf", "(internal/reflectlite.Value).Type", "(internal/reflectlite.Value).IsNil", "(internal/reflectlite.Value).Elem", "(internal/reflectlite.Value).Set"], unfollowed := true, recurses := true, named := ["errors.errorType"], plainKeys := false, apart := false, laid := [("errors.errorType", laid_errors_errorType)], narrowed := true }
def PathEntriesUptoSaid : Prop := pathEntriesUptoRow.holds Tryz.pinned (OpenSpec.upto pathEntriesSpec)

/-- 'roundsmanlaw22.PathParts', WHERE WHAT IT READS IS OF BULK AT MOST 1048576: true; the input reads as it did. -/
def pathPartsUptoRow : OpenClaim := { program := "ytdheeddnkdhfeaagreatdoor", sum := "9931854731ef8c1ae12dc5f26df533fc6a8f67dc5d280a81dfead9eb84f956de", func := "roundsman/roundsmanlaw22.PathParts", spec := "pathParts", inPlace := ["internal/reflectlite.TypeOf", "internal/reflectlite.ValueOf", "(internal/reflectlite.Value).Type", "(internal/reflectlite.Value).IsNil", "(internal/reflectlite.Value).Elem", "(internal/reflectlite.Value).Set"], unfollowed := true, recurses := true, named := ["errors.errorType"], plainKeys := false, apart := false, laid := [("errors.errorType", laid_errors_errorType)], narrowed := true }
def PathPartsUptoSaid : Prop := pathPartsUptoRow.holds Tryz.pinned (OpenSpec.upto pathPartsSpec)

/-- 'roundsmanlaw22.PathShut', WHERE WHAT IT READS IS OF BULK AT MOST 1048576: true; the input reads as it did. -/
def pathShutUptoRow : OpenClaim := { program := "ytdheeddnkdhfeaagreatdoor", sum := "9931854731ef8c1ae12dc5f26df533fc6a8f67dc5d280a81dfead9eb84f956de", func := "roundsman/roundsmanlaw22.PathShut", spec := "pathShut", inPlace := ["internal/reflectlite.TypeOf", "internal/reflectlite.ValueOf", "(internal/reflectlite.Value).Type", "(internal/reflectlite.Value).IsNil", "(internal/reflectlite.Value).Elem", "(internal/reflectlite.Value).Set"], unfollowed := true, recurses := true, named := ["errors.errorType"], plainKeys := false, apart := false, laid := [("errors.errorType", laid_errors_errorType)], narrowed := true }
def PathShutUptoSaid : Prop := pathShutUptoRow.holds Tryz.pinned (OpenSpec.upto pathShutSpec)

end Rows
end Go.Proofs.YtdheeddnkdhfeaaGreatDoor
