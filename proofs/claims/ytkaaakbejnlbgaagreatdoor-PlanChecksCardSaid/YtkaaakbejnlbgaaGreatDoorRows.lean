/-
  NARROWER THAN 'FOR EVERY INPUT', by the rows' own cells (each row's printed sentence says how): PlanMakes: laid · PlanChecks: laid · PlanModels: laid · PlanRight: laid · PlanCells: laid · PlanFails: laid.
  DERIVED. THE GIVEN ROWS OF THIS SEAT. 6 by the template 'for every input the law returns true; each argument reads behind the call as it read before'; 0 by the template 'total and deterministic' (their statements: YtkaaakbejnlbgaaGreatDoorTotals.lean).
  GIVEN WITH THE SEED: the statements are not yours to turn. If you find one false, say at which input.
  Laid BY PROGRAM, IN A SANDBOX (cutbox-rows.mjs): the forced cells as the released guide's own fill.sh prints them over the translation dc7caad3a0bea7a5… (all of the seat's roots in one cut). By AI agents, Wed Nov 11 2026. No macro, syntax, notation, axiom, sorry.
-/
import Derived.Test.YtkaaakbejnlbgaaGreatDoorChecked
import GoSem.Claim
import GoSem.ClaimJoined
import GoSem.ClaimMapViews
import Derived.JoinedTies
import Derived.KernelRfl
namespace Go.Proofs.YtkaaakbejnlbgaaGreatDoor
/- THE CELL 'sum', in the pinned program and in every row, IS THE sha256 OF THE DUMP (.gsa) THAT YtkaaakbejnlbgaaGreatDoorProg.lean LOADS. Nothing in Lean hashes anything: it is a label: what it is worth is what the hold of that sum in a sandbox is worth. -/
noncomputable def Tryz.pinned : Pinned := { name := "ytkaaakbejnlbgaagreatdoor", sum := "dc7caad3a0bea7a51076fd5fedd8babe4a6df790c96312a128b60b0da9a6e678", checked := Tryz.checked }
namespace Rows
def none {H : Type} : Left H := { results := [], args := [] }

/- WHAT THE LISTED PACKAGE-LEVEL VARIABLES READ AS WHEN THE CALL BEGINS. Each datum BY PROGRAM (the guide's laid-datum.mjs) off the statement by which the dump's own 'gosem.cut.vars' lays the variable. In a bare row this is a premise. The card (YtkaaakbejnlbgaaGreatDoorCards.lean) ties it to the program's text. -/
def laid_errors_errorType {H : Type} : DataW H := .iface "internal/reflectlite.rtype" (.agg [.ptr (.lit (.string [101, 114, 114, 111, 114]))])

/-- 'roundsmanlaw27.PlanMakes': WHATEVER THE INPUT: true; the input reads as it did. -/
def planMakesSpec : ChangeSpec := { name := "planMakes", fn := fun _ => fun
  | [d1, d2, d3] => { results := [.lit (.bool true)], args := [d1, d2, d3] }
  | _ => none }
def planMakesRow : OpenClaim := { program := "ytkaaakbejnlbgaagreatdoor", sum := "dc7caad3a0bea7a51076fd5fedd8babe4a6df790c96312a128b60b0da9a6e678", func := "roundsman/roundsmanlaw27.PlanMakes", spec := "planMakes", inPlace := ["internal/reflectlite.TypeOf", "internal/reflectlite.ValueOf", "(internal/reflectlite.Value).Type", "(internal/reflectlite.Value).IsNil", "(internal/reflectlite.Value).Elem", "(internal/reflectlite.Value).Set"], unfollowed := true, recurses := true, named := ["errors.errorType"], plainKeys := false, apart := false, laid := [("errors.errorType", laid_errors_errorType)] }
def PlanMakesSaid : Prop := planMakesRow.holds Tryz.pinned (OpenSpec.ofChange planMakesSpec)

/-- ITS FALSE NEIGHBOUR: 'it returns false'. Refute it at one input. -/
def planMakesWrong : ChangeSpec := { name := "planMakes", fn := fun _ => fun
  | [d1, d2, d3] => { results := [.lit (.bool false)], args := [d1, d2, d3] }
  | _ => none }
def PlanMakesWrongFalsely : Prop := planMakesRow.holds Tryz.pinned (OpenSpec.ofChange planMakesWrong)

/-- 'roundsmanlaw27.PlanChecks': WHATEVER THE INPUT: true; the input reads as it did. -/
def planChecksSpec : ChangeSpec := { name := "planChecks", fn := fun _ => fun
  | [d1, d2, d3] => { results := [.lit (.bool true)], args := [d1, d2, d3] }
  | _ => none }
def planChecksRow : OpenClaim := { program := "ytkaaakbejnlbgaagreatdoor", sum := "dc7caad3a0bea7a51076fd5fedd8babe4a6df790c96312a128b60b0da9a6e678", func := "roundsman/roundsmanlaw27.PlanChecks", spec := "planChecks", inPlace := ["internal/reflectlite.TypeOf", "internal/reflectlite.ValueOf", "(internal/reflectlite.Value).Type", "(internal/reflectlite.Value).IsNil", "(internal/reflectlite.Value).Elem", "(internal/reflectlite.Value).Set"], unfollowed := true, recurses := true, named := ["errors.errorType"], plainKeys := false, apart := false, laid := [("errors.errorType", laid_errors_errorType)] }
def PlanChecksSaid : Prop := planChecksRow.holds Tryz.pinned (OpenSpec.ofChange planChecksSpec)

/-- ITS FALSE NEIGHBOUR: 'it returns false'. Refute it at one input. -/
def planChecksWrong : ChangeSpec := { name := "planChecks", fn := fun _ => fun
  | [d1, d2, d3] => { results := [.lit (.bool false)], args := [d1, d2, d3] }
  | _ => none }
def PlanChecksWrongFalsely : Prop := planChecksRow.holds Tryz.pinned (OpenSpec.ofChange planChecksWrong)

/-- 'roundsmanlaw27.PlanModels': WHATEVER THE INPUT: true; the input reads as it did. -/
def planModelsSpec : ChangeSpec := { name := "planModels", fn := fun _ => fun
  | [d1, d2] => { results := [.lit (.bool true)], args := [d1, d2] }
  | _ => none }
def planModelsRow : OpenClaim := { program := "ytkaaakbejnlbgaagreatdoor", sum := "dc7caad3a0bea7a51076fd5fedd8babe4a6df790c96312a128b60b0da9a6e678", func := "roundsman/roundsmanlaw27.PlanModels", spec := "planModels", inPlace := ["internal/reflectlite.TypeOf", "internal/reflectlite.ValueOf", "(internal/reflectlite.Value).Type", "(internal/reflectlite.Value).IsNil", "(internal/reflectlite.Value).Elem", "(internal/reflectlite.Value).Set"], unfollowed := true, recurses := true, named := ["errors.errorType"], plainKeys := false, apart := false, laid := [("errors.errorType", laid_errors_errorType)] }
def PlanModelsSaid : Prop := planModelsRow.holds Tryz.pinned (OpenSpec.ofChange planModelsSpec)

/-- ITS FALSE NEIGHBOUR: 'it returns false'. Refute it at one input. -/
def planModelsWrong : ChangeSpec := { name := "planModels", fn := fun _ => fun
  | [d1, d2] => { results := [.lit (.bool false)], args := [d1, d2] }
  | _ => none }
def PlanModelsWrongFalsely : Prop := planModelsRow.holds Tryz.pinned (OpenSpec.ofChange planModelsWrong)

/-- 'roundsmanlaw27.PlanRight': WHATEVER THE INPUT: true; the input reads as it did. -/
def planRightSpec : ChangeSpec := { name := "planRight", fn := fun _ => fun
  | [d1, d2, d3, d4] => { results := [.lit (.bool true)], args := [d1, d2, d3, d4] }
  | _ => none }
def planRightRow : OpenClaim := { program := "ytkaaakbejnlbgaagreatdoor", sum := "dc7caad3a0bea7a51076fd5fedd8babe4a6df790c96312a128b60b0da9a6e678", func := "roundsman/roundsmanlaw27.PlanRight", spec := "planRight", inPlace := ["internal/reflectlite.TypeOf", "internal/reflectlite.ValueOf", "(internal/reflectlite.Value).Type", "(internal/reflectlite.Value).IsNil", "(internal/reflectlite.Value).Elem", "(internal/reflectlite.Value).Set"], unfollowed := true, recurses := true, named := ["errors.errorType"], plainKeys := false, apart := false, laid := [("errors.errorType", laid_errors_errorType)] }
def PlanRightSaid : Prop := planRightRow.holds Tryz.pinned (OpenSpec.ofChange planRightSpec)

/-- ITS FALSE NEIGHBOUR: 'it returns false'. Refute it at one input. -/
def planRightWrong : ChangeSpec := { name := "planRight", fn := fun _ => fun
  | [d1, d2, d3, d4] => { results := [.lit (.bool false)], args := [d1, d2, d3, d4] }
  | _ => none }
def PlanRightWrongFalsely : Prop := planRightRow.holds Tryz.pinned (OpenSpec.ofChange planRightWrong)

/-- 'roundsmanlaw27.PlanCells': WHATEVER THE INPUT: true; the input reads as it did. -/
def planCellsSpec : ChangeSpec := { name := "planCells", fn := fun _ => fun
  | [d1, d2, d3] => { results := [.lit (.bool true)], args := [d1, d2, d3] }
  | _ => none }
def planCellsRow : OpenClaim := { program := "ytkaaakbejnlbgaagreatdoor", sum := "dc7caad3a0bea7a51076fd5fedd8babe4a6df790c96312a128b60b0da9a6e678", func := "roundsman/roundsmanlaw27.PlanCells", spec := "planCells", inPlace := ["internal/reflectlite.TypeOf", "internal/reflectlite.ValueOf", "(internal/reflectlite.Value).Type", "(internal/reflectlite.Value).IsNil", "(internal/reflectlite.Value).Elem", "(internal/reflectlite.Value).Set"], unfollowed := true, recurses := true, named := ["errors.errorType"], plainKeys := false, apart := false, laid := [("errors.errorType", laid_errors_errorType)] }
def PlanCellsSaid : Prop := planCellsRow.holds Tryz.pinned (OpenSpec.ofChange planCellsSpec)

/-- ITS FALSE NEIGHBOUR: 'it returns false'. Refute it at one input. -/
def planCellsWrong : ChangeSpec := { name := "planCells", fn := fun _ => fun
  | [d1, d2, d3] => { results := [.lit (.bool false)], args := [d1, d2, d3] }
  | _ => none }
def PlanCellsWrongFalsely : Prop := planCellsRow.holds Tryz.pinned (OpenSpec.ofChange planCellsWrong)

/-- 'roundsmanlaw27.PlanFails': WHATEVER THE INPUT: true; the input reads as it did. -/
def planFailsSpec : ChangeSpec := { name := "planFails", fn := fun _ => fun
  | [d1, d2, d3] => { results := [.lit (.bool true)], args := [d1, d2, d3] }
  | _ => none }
def planFailsRow : OpenClaim := { program := "ytkaaakbejnlbgaagreatdoor", sum := "dc7caad3a0bea7a51076fd5fedd8babe4a6df790c96312a128b60b0da9a6e678", func := "roundsman/roundsmanlaw27.PlanFails", spec := "planFails", inPlace := ["internal/reflectlite.TypeOf", "internal/reflectlite.ValueOf", "(internal/reflectlite.Value).Type", "(internal/reflectlite.Value).IsNil", "(internal/reflectlite.Value).Elem", "(internal/reflectlite.Value).Set"], unfollowed := true, recurses := true, named := ["errors.errorType"], plainKeys := false, apart := false, laid := [("errors.errorType", laid_errors_errorType)] }
def PlanFailsSaid : Prop := planFailsRow.holds Tryz.pinned (OpenSpec.ofChange planFailsSpec)

/-- ITS FALSE NEIGHBOUR: 'it returns false'. Refute it at one input. -/
def planFailsWrong : ChangeSpec := { name := "planFails", fn := fun _ => fun
  | [d1, d2, d3] => { results := [.lit (.bool false)], args := [d1, d2, d3] }
  | _ => none }
def PlanFailsWrongFalsely : Prop := planFailsRow.holds Tryz.pinned (OpenSpec.ofChange planFailsWrong)

/- THE SECOND FORM. 'bulk': how many values and letters a reading holds, each counted each time it is reached (what is shared counts as often as it is met; a slice's spare places count too). A statement '..UptoSaid' is the law's where the arguments, and the package variables that the reading takes, are together of bulk at most 1048576: NARROWER than '..Said'. Prove '..Said' where nothing that the law and all that it calls make is longer than what came in: it says more and counts as full. Else prove '..UptoSaid'. A law counts once. -/
mutual
def uptoBulk {H : Type} : DataW H → Nat
  | .lit (.string bytes) => bytes.length + 1
  | .lit _ => 1
  | .nil => 1
  | .ptr d => uptoBulk d + 1
  | .slice elems spare => uptoBulkAll elems + uptoBulkAll spare + 1
  | .agg parts => uptoBulkAll parts + 1
  | .iface _ d => uptoBulk d + 1
  | .map entries => uptoBulkEntries entries + 1
  | .held _ => 1
def uptoBulkAll {H : Type} : List (DataW H) → Nat
  | [] => 0
  | d :: r => uptoBulk d + uptoBulkAll r
def uptoBulkEntries {H : Type} : List (Lit × DataW H) → Nat
  | [] => 0
  | x :: r => uptoBulkEntry x + uptoBulkEntries r
def uptoBulkEntry {H : Type} : Lit × DataW H → Nat
  | (.string bytes, d) => bytes.length + uptoBulk d + 1
  | (_, d) => uptoBulk d + 1
 end
def uptoSmall : (H : Type) → List (DataW H) → Bool := fun _ ds => decide (uptoBulkAll ds ≤ 1048576)
def OpenSpec.upto (s : _root_.Go.ChangeSpec) : _root_.Go.OpenSpec := { _root_.Go.OpenSpec.ofChange s with cond := some uptoSmall }

/-- 'roundsmanlaw27.PlanMakes', WHERE WHAT IT READS IS OF BULK AT MOST 1048576: true; the input reads as it did. -/
def planMakesUptoRow : OpenClaim := { program := "ytkaaakbejnlbgaagreatdoor", sum := "dc7caad3a0bea7a51076fd5fedd8babe4a6df790c96312a128b60b0da9a6e678", func := "roundsman/roundsmanlaw27.PlanMakes", spec := "planMakes", inPlace := ["internal/reflectlite.TypeOf", "internal/reflectlite.ValueOf", "(internal/reflectlite.Value).Type", "(internal/reflectlite.Value).IsNil", "(internal/reflectlite.Value).Elem", "(internal/reflectlite.Value).Set"], unfollowed := true, recurses := true, named := ["errors.errorType"], plainKeys := false, apart := false, laid := [("errors.errorType", laid_errors_errorType)], narrowed := true }
def PlanMakesUptoSaid : Prop := planMakesUptoRow.holds Tryz.pinned (OpenSpec.upto planMakesSpec)

/-- 'roundsmanlaw27.PlanChecks', WHERE WHAT IT READS IS OF BULK AT MOST 1048576: true; the input reads as it did. -/
def planChecksUptoRow : OpenClaim := { program := "ytkaaakbejnlbgaagreatdoor", sum := "dc7caad3a0bea7a51076fd5fedd8babe4a6df790c96312a128b60b0da9a6e678", func := "roundsman/roundsmanlaw27.PlanChecks", spec := "planChecks", inPlace := ["internal/reflectlite.TypeOf", "internal/reflectlite.ValueOf", "(internal/reflectlite.Value).Type", "(internal/reflectlite.Value).IsNil", "(internal/reflectlite.Value).Elem", "(internal/reflectlite.Value).Set"], unfollowed := true, recurses := true, named := ["errors.errorType"], plainKeys := false, apart := false, laid := [("errors.errorType", laid_errors_errorType)], narrowed := true }
def PlanChecksUptoSaid : Prop := planChecksUptoRow.holds Tryz.pinned (OpenSpec.upto planChecksSpec)

/-- 'roundsmanlaw27.PlanModels', WHERE WHAT IT READS IS OF BULK AT MOST 1048576: true; the input reads as it did. -/
def planModelsUptoRow : OpenClaim := { program := "ytkaaakbejnlbgaagreatdoor", sum := "dc7caad3a0bea7a51076fd5fedd8babe4a6df790c96312a128b60b0da9a6e678", func := "roundsman/roundsmanlaw27.PlanModels", spec := "planModels", inPlace := ["internal/reflectlite.TypeOf", "internal/reflectlite.ValueOf", "(internal/reflectlite.Value).Type", "(internal/reflectlite.Value).IsNil", "(internal/reflectlite.Value).Elem", "(internal/reflectlite.Value).Set"], unfollowed := true, recurses := true, named := ["errors.errorType"], plainKeys := false, apart := false, laid := [("errors.errorType", laid_errors_errorType)], narrowed := true }
def PlanModelsUptoSaid : Prop := planModelsUptoRow.holds Tryz.pinned (OpenSpec.upto planModelsSpec)

/-- 'roundsmanlaw27.PlanRight', WHERE WHAT IT READS IS OF BULK AT MOST 1048576: true; the input reads as it did. -/
def planRightUptoRow : OpenClaim := { program := "ytkaaakbejnlbgaagreatdoor", sum := "dc7caad3a0bea7a51076fd5fedd8babe4a6df790c96312a128b60b0da9a6e678", func := "roundsman/roundsmanlaw27.PlanRight", spec := "planRight", inPlace := ["internal/reflectlite.TypeOf", "internal/reflectlite.ValueOf", "(internal/reflectlite.Value).Type", "(internal/reflectlite.Value).IsNil", "(internal/reflectlite.Value).Elem", "(internal/reflectlite.Value).Set"], unfollowed := true, recurses := true, named := ["errors.errorType"], plainKeys := false, apart := false, laid := [("errors.errorType", laid_errors_errorType)], narrowed := true }
def PlanRightUptoSaid : Prop := planRightUptoRow.holds Tryz.pinned (OpenSpec.upto planRightSpec)

/-- 'roundsmanlaw27.PlanCells', WHERE WHAT IT READS IS OF BULK AT MOST 1048576: true; the input reads as it did. -/
def planCellsUptoRow : OpenClaim := { program := "ytkaaakbejnlbgaagreatdoor", sum := "dc7caad3a0bea7a51076fd5fedd8babe4a6df790c96312a128b60b0da9a6e678", func := "roundsman/roundsmanlaw27.PlanCells", spec := "planCells", inPlace := ["internal/reflectlite.TypeOf", "internal/reflectlite.ValueOf", "(internal/reflectlite.Value).Type", "(internal/reflectlite.Value).IsNil", "(internal/reflectlite.Value).Elem", "(internal/reflectlite.Value).Set"], unfollowed := true, recurses := true, named := ["errors.errorType"], plainKeys := false, apart := false, laid := [("errors.errorType", laid_errors_errorType)], narrowed := true }
def PlanCellsUptoSaid : Prop := planCellsUptoRow.holds Tryz.pinned (OpenSpec.upto planCellsSpec)

/-- 'roundsmanlaw27.PlanFails', WHERE WHAT IT READS IS OF BULK AT MOST 1048576: true; the input reads as it did. -/
def planFailsUptoRow : OpenClaim := { program := "ytkaaakbejnlbgaagreatdoor", sum := "dc7caad3a0bea7a51076fd5fedd8babe4a6df790c96312a128b60b0da9a6e678", func := "roundsman/roundsmanlaw27.PlanFails", spec := "planFails", inPlace := ["internal/reflectlite.TypeOf", "internal/reflectlite.ValueOf", "(internal/reflectlite.Value).Type", "(internal/reflectlite.Value).IsNil", "(internal/reflectlite.Value).Elem", "(internal/reflectlite.Value).Set"], unfollowed := true, recurses := true, named := ["errors.errorType"], plainKeys := false, apart := false, laid := [("errors.errorType", laid_errors_errorType)], narrowed := true }
def PlanFailsUptoSaid : Prop := planFailsUptoRow.holds Tryz.pinned (OpenSpec.upto planFailsSpec)

end Rows
end Go.Proofs.YtkaaakbejnlbgaaGreatDoor
