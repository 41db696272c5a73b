/-
  NARROWER THAN 'FOR EVERY INPUT', by the rows' own cells (each row's printed sentence says how): SaveLine: laid · CutBest: laid · CutMoved: laid · CutBridge: laid · CutFair: laid.
  DERIVED. THE GIVEN ROWS OF THIS SEAT. 5 by the template 'for every input the law returns true; each argument reads behind the call as it read before'; 0 by the template 'total and deterministic' (their statements: YtjphjbchhhembaaDoorTotals.lean).
  GIVEN WITH THE SEED: the statements are not yours to turn. If you find one false, say at which input.
  Laid BY PROGRAM, IN A SANDBOX (cutbox-rows.mjs): the forced cells as the released guide's own fill.sh prints them over the translation 1394ae62c8cb5d58… (all of the seat's roots in one cut). By AI agents, Wed Nov 11 2026. No macro, syntax, notation, axiom, sorry.
-/
import Derived.Test.YtjphjbchhhembaaDoorChecked
import GoSem.Claim
import GoSem.ClaimJoined
import GoSem.ClaimMapViews
import Derived.JoinedTies
import Derived.KernelRfl
namespace Go.Proofs.YtjphjbchhhembaaDoor
/- THE CELL 'sum', in the pinned program and in every row, IS THE sha256 OF THE DUMP (.gsa) THAT YtjphjbchhhembaaDoorProg.lean LOADS. Nothing in Lean hashes anything: it is a label: what it is worth is what the hold of that sum in a sandbox is worth. -/
noncomputable def Tryd.pinned : Pinned := { name := "ytjphjbchhhembaadoor", sum := "1394ae62c8cb5d588796dc571140bf07bc1dc8ae4713d9f5e4758d891f3181b5", checked := Tryd.checked }
namespace Rows
def none {H : Type} : Left H := { results := [], args := [] }

/- WHAT THE LISTED PACKAGE-LEVEL VARIABLES READ AS WHEN THE CALL BEGINS. Each datum BY PROGRAM (the guide's laid-datum.mjs) off the statement by which the dump's own 'gosem.cut.vars' lays the variable. In a bare row this is a premise. The card (YtjphjbchhhembaaDoorCards.lean) ties it to the program's text. -/
def laid_errors_errorType {H : Type} : DataW H := .iface "internal/reflectlite.rtype" (.agg [.ptr (.lit (.string [101, 114, 114, 111, 114]))])

/-- 'roundsmanlaw25.SaveLine': WHATEVER THE INPUT: true; the input reads as it did. -/
def saveLineSpec : ChangeSpec := { name := "saveLine", fn := fun _ => fun
  | [d] => { results := [.lit (.bool true)], args := [d] }
  | _ => none }
def saveLineRow : OpenClaim := { program := "ytjphjbchhhembaadoor", sum := "1394ae62c8cb5d588796dc571140bf07bc1dc8ae4713d9f5e4758d891f3181b5", func := "roundsman/roundsmanlaw25.SaveLine", spec := "saveLine", inPlace := ["internal/reflectlite.TypeOf", "internal/reflectlite.ValueOf", "(internal/reflectlite.Value).Type", "(internal/reflectlite.Value).IsNil", "(internal/reflectlite.Value).Elem", "(internal/reflectlite.Value).Set"], unfollowed := true, recurses := true, named := ["errors.errorType"], apart := false, laid := [("errors.errorType", laid_errors_errorType)] }
def SaveLineSaid : Prop := saveLineRow.holds Tryd.pinned (OpenSpec.ofChange saveLineSpec)

/-- ITS FALSE NEIGHBOUR: 'it returns false'. Refute it at one input. -/
def saveLineWrong : ChangeSpec := { name := "saveLine", fn := fun _ => fun
  | [d] => { results := [.lit (.bool false)], args := [d] }
  | _ => none }
def SaveLineWrongFalsely : Prop := saveLineRow.holds Tryd.pinned (OpenSpec.ofChange saveLineWrong)

/-- 'roundsmanlaw11.CutBest': WHATEVER THE INPUT: true; the input reads as it did. -/
def cutBestSpec : ChangeSpec := { name := "cutBest", fn := fun _ => fun
  | [d1, d2] => { results := [.lit (.bool true)], args := [d1, d2] }
  | _ => none }
def cutBestRow : OpenClaim := { program := "ytjphjbchhhembaadoor", sum := "1394ae62c8cb5d588796dc571140bf07bc1dc8ae4713d9f5e4758d891f3181b5", func := "roundsman/roundsmanlaw11.CutBest", spec := "cutBest", inPlace := ["internal/reflectlite.TypeOf", "internal/reflectlite.ValueOf", "(internal/reflectlite.Value).Type", "(internal/reflectlite.Value).IsNil", "(internal/reflectlite.Value).Elem", "(internal/reflectlite.Value).Set"], unfollowed := true, recurses := true, named := ["errors.errorType"], apart := false, laid := [("errors.errorType", laid_errors_errorType)] }
def CutBestSaid : Prop := cutBestRow.holds Tryd.pinned (OpenSpec.ofChange cutBestSpec)

/-- ITS FALSE NEIGHBOUR: 'it returns false'. Refute it at one input. -/
def cutBestWrong : ChangeSpec := { name := "cutBest", fn := fun _ => fun
  | [d1, d2] => { results := [.lit (.bool false)], args := [d1, d2] }
  | _ => none }
def CutBestWrongFalsely : Prop := cutBestRow.holds Tryd.pinned (OpenSpec.ofChange cutBestWrong)

/-- 'roundsmanlaw11.CutMoved': WHATEVER THE INPUT: true; the input reads as it did. -/
def cutMovedSpec : ChangeSpec := { name := "cutMoved", fn := fun _ => fun
  | [d1, d2, d3, d4] => { results := [.lit (.bool true)], args := [d1, d2, d3, d4] }
  | _ => none }
def cutMovedRow : OpenClaim := { program := "ytjphjbchhhembaadoor", sum := "1394ae62c8cb5d588796dc571140bf07bc1dc8ae4713d9f5e4758d891f3181b5", func := "roundsman/roundsmanlaw11.CutMoved", spec := "cutMoved", inPlace := ["internal/reflectlite.TypeOf", "internal/reflectlite.ValueOf", "(internal/reflectlite.Value).Type", "(internal/reflectlite.Value).IsNil", "(internal/reflectlite.Value).Elem", "(internal/reflectlite.Value).Set"], unfollowed := true, recurses := true, named := ["errors.errorType"], apart := false, laid := [("errors.errorType", laid_errors_errorType)] }
def CutMovedSaid : Prop := cutMovedRow.holds Tryd.pinned (OpenSpec.ofChange cutMovedSpec)

/-- ITS FALSE NEIGHBOUR: 'it returns false'. Refute it at one input. -/
def cutMovedWrong : ChangeSpec := { name := "cutMoved", fn := fun _ => fun
  | [d1, d2, d3, d4] => { results := [.lit (.bool false)], args := [d1, d2, d3, d4] }
  | _ => none }
def CutMovedWrongFalsely : Prop := cutMovedRow.holds Tryd.pinned (OpenSpec.ofChange cutMovedWrong)

/-- 'roundsmanlaw11.CutBridge': WHATEVER THE INPUT: true; the input reads as it did. -/
def cutBridgeSpec : ChangeSpec := { name := "cutBridge", fn := fun _ => fun
  | [d1, d2] => { results := [.lit (.bool true)], args := [d1, d2] }
  | _ => none }
def cutBridgeRow : OpenClaim := { program := "ytjphjbchhhembaadoor", sum := "1394ae62c8cb5d588796dc571140bf07bc1dc8ae4713d9f5e4758d891f3181b5", func := "roundsman/roundsmanlaw11.CutBridge", spec := "cutBridge", inPlace := ["internal/reflectlite.TypeOf", "internal/reflectlite.ValueOf", "(internal/reflectlite.Value).Type", "(internal/reflectlite.Value).IsNil", "(internal/reflectlite.Value).Elem", "(internal/reflectlite.Value).Set"], unfollowed := true, recurses := true, named := ["errors.errorType"], apart := false, laid := [("errors.errorType", laid_errors_errorType)] }
def CutBridgeSaid : Prop := cutBridgeRow.holds Tryd.pinned (OpenSpec.ofChange cutBridgeSpec)

/-- ITS FALSE NEIGHBOUR: 'it returns false'. Refute it at one input. -/
def cutBridgeWrong : ChangeSpec := { name := "cutBridge", fn := fun _ => fun
  | [d1, d2] => { results := [.lit (.bool false)], args := [d1, d2] }
  | _ => none }
def CutBridgeWrongFalsely : Prop := cutBridgeRow.holds Tryd.pinned (OpenSpec.ofChange cutBridgeWrong)

/-- 'roundsmanlaw11.CutFair': WHATEVER THE INPUT: true; the input reads as it did. -/
def cutFairSpec : ChangeSpec := { name := "cutFair", fn := fun _ => fun
  | [d1, d2, d3] => { results := [.lit (.bool true)], args := [d1, d2, d3] }
  | _ => none }
def cutFairRow : OpenClaim := { program := "ytjphjbchhhembaadoor", sum := "1394ae62c8cb5d588796dc571140bf07bc1dc8ae4713d9f5e4758d891f3181b5", func := "roundsman/roundsmanlaw11.CutFair", spec := "cutFair", inPlace := ["internal/reflectlite.TypeOf", "internal/reflectlite.ValueOf", "(internal/reflectlite.Value).Type", "(internal/reflectlite.Value).IsNil", "(internal/reflectlite.Value).Elem", "(internal/reflectlite.Value).Set"], unfollowed := true, recurses := true, named := ["errors.errorType"], apart := false, laid := [("errors.errorType", laid_errors_errorType)] }
def CutFairSaid : Prop := cutFairRow.holds Tryd.pinned (OpenSpec.ofChange cutFairSpec)

/-- ITS FALSE NEIGHBOUR: 'it returns false'. Refute it at one input. -/
def cutFairWrong : ChangeSpec := { name := "cutFair", fn := fun _ => fun
  | [d1, d2, d3] => { results := [.lit (.bool false)], args := [d1, d2, d3] }
  | _ => none }
def CutFairWrongFalsely : Prop := cutFairRow.holds Tryd.pinned (OpenSpec.ofChange cutFairWrong)

/- THE SECOND FORM. 'bulk': how many values and letters a reading holds, each counted each time it is reached (what is shared counts as often as it is met; a slice's spare places count too). A statement '..UptoSaid' is the law's where the arguments, and the package variables that the reading takes, are together of bulk at most 1048576: NARROWER than '..Said'. Prove '..Said' where nothing that the law and all that it calls make is longer than what came in: it says more and counts as full. Else prove '..UptoSaid'. A law counts once. -/
mutual
def uptoBulk {H : Type} : DataW H → Nat
  | .lit (.string bytes) => bytes.length + 1
  | .lit _ => 1
  | .nil => 1
  | .ptr d => uptoBulk d + 1
  | .slice elems spare => uptoBulkAll elems + uptoBulkAll spare + 1
  | .agg parts => uptoBulkAll parts + 1
  | .iface _ d => uptoBulk d + 1
  | .map entries => uptoBulkEntries entries + 1
  | .held _ => 1
def uptoBulkAll {H : Type} : List (DataW H) → Nat
  | [] => 0
  | d :: r => uptoBulk d + uptoBulkAll r
def uptoBulkEntries {H : Type} : List (Lit × DataW H) → Nat
  | [] => 0
  | x :: r => uptoBulkEntry x + uptoBulkEntries r
def uptoBulkEntry {H : Type} : Lit × DataW H → Nat
  | (.string bytes, d) => bytes.length + uptoBulk d + 1
  | (_, d) => uptoBulk d + 1
 end
def uptoSmall : (H : Type) → List (DataW H) → Bool := fun _ ds => decide (uptoBulkAll ds ≤ 1048576)
def OpenSpec.upto (s : _root_.Go.ChangeSpec) : _root_.Go.OpenSpec := { _root_.Go.OpenSpec.ofChange s with cond := some uptoSmall }

/-- 'roundsmanlaw25.SaveLine', WHERE WHAT IT READS IS OF BULK AT MOST 1048576: true; the input reads as it did. -/
def saveLineUptoRow : OpenClaim := { program := "ytjphjbchhhembaadoor", sum := "1394ae62c8cb5d588796dc571140bf07bc1dc8ae4713d9f5e4758d891f3181b5", func := "roundsman/roundsmanlaw25.SaveLine", spec := "saveLine", inPlace := ["internal/reflectlite.TypeOf", "internal/reflectlite.ValueOf", "(internal/reflectlite.Value).Type", "(internal/reflectlite.Value).IsNil", "(internal/reflectlite.Value).Elem", "(internal/reflectlite.Value).Set"], unfollowed := true, recurses := true, named := ["errors.errorType"], apart := false, laid := [("errors.errorType", laid_errors_errorType)], narrowed := true }
def SaveLineUptoSaid : Prop := saveLineUptoRow.holds Tryd.pinned (OpenSpec.upto saveLineSpec)

/-- 'roundsmanlaw11.CutBest', WHERE WHAT IT READS IS OF BULK AT MOST 1048576: true; the input reads as it did. -/
def cutBestUptoRow : OpenClaim := { program := "ytjphjbchhhembaadoor", sum := "1394ae62c8cb5d588796dc571140bf07bc1dc8ae4713d9f5e4758d891f3181b5", func := "roundsman/roundsmanlaw11.CutBest", spec := "cutBest", inPlace := ["internal/reflectlite.TypeOf", "internal/reflectlite.ValueOf", "(internal/reflectlite.Value).Type", "(internal/reflectlite.Value).IsNil", "(internal/reflectlite.Value).Elem", "(internal/reflectlite.Value).Set"], unfollowed := true, recurses := true, named := ["errors.errorType"], apart := false, laid := [("errors.errorType", laid_errors_errorType)], narrowed := true }
def CutBestUptoSaid : Prop := cutBestUptoRow.holds Tryd.pinned (OpenSpec.upto cutBestSpec)

/-- 'roundsmanlaw11.CutMoved', WHERE WHAT IT READS IS OF BULK AT MOST 1048576: true; the input reads as it did. -/
def cutMovedUptoRow : OpenClaim := { program := "ytjphjbchhhembaadoor", sum := "1394ae62c8cb5d588796dc571140bf07bc1dc8ae4713d9f5e4758d891f3181b5", func := "roundsman/roundsmanlaw11.CutMoved", spec := "cutMoved", inPlace := ["internal/reflectlite.TypeOf", "internal/reflectlite.ValueOf", "(internal/reflectlite.Value).Type", "(internal/reflectlite.Value).IsNil", "(internal/reflectlite.Value).Elem", "(internal/reflectlite.Value).Set"], unfollowed := true, recurses := true, named := ["errors.errorType"], apart := false, laid := [("errors.errorType", laid_errors_errorType)], narrowed := true }
def CutMovedUptoSaid : Prop := cutMovedUptoRow.holds Tryd.pinned (OpenSpec.upto cutMovedSpec)

/-- 'roundsmanlaw11.CutBridge', WHERE WHAT IT READS IS OF BULK AT MOST 1048576: true; the input reads as it did. -/
def cutBridgeUptoRow : OpenClaim := { program := "ytjphjbchhhembaadoor", sum := "1394ae62c8cb5d588796dc571140bf07bc1dc8ae4713d9f5e4758d891f3181b5", func := "roundsman/roundsmanlaw11.CutBridge", spec := "cutBridge", inPlace := ["internal/reflectlite.TypeOf", "internal/reflectlite.ValueOf", "(internal/reflectlite.Value).Type", "(internal/reflectlite.Value).IsNil", "(internal/reflectlite.Value).Elem", "(internal/reflectlite.Value).Set"], unfollowed := true, recurses := true, named := ["errors.errorType"], apart := false, laid := [("errors.errorType", laid_errors_errorType)], narrowed := true }
def CutBridgeUptoSaid : Prop := cutBridgeUptoRow.holds Tryd.pinned (OpenSpec.upto cutBridgeSpec)

/-- 'roundsmanlaw11.CutFair', WHERE WHAT IT READS IS OF BULK AT MOST 1048576: true; the input reads as it did. -/
def cutFairUptoRow : OpenClaim := { program := "ytjphjbchhhembaadoor", sum := "1394ae62c8cb5d588796dc571140bf07bc1dc8ae4713d9f5e4758d891f3181b5", func := "roundsman/roundsmanlaw11.CutFair", spec := "cutFair", inPlace := ["internal/reflectlite.TypeOf", "internal/reflectlite.ValueOf", "(internal/reflectlite.Value).Type", "(internal/reflectlite.Value).IsNil", "(internal/reflectlite.Value).Elem", "(internal/reflectlite.Value).Set"], unfollowed := true, recurses := true, named := ["errors.errorType"], apart := false, laid := [("errors.errorType", laid_errors_errorType)], narrowed := true }
def CutFairUptoSaid : Prop := cutFairUptoRow.holds Tryd.pinned (OpenSpec.upto cutFairSpec)

end Rows
end Go.Proofs.YtjphjbchhhembaaDoor
