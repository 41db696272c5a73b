/-
  No cell of these rows narrows 'for every input' (looked for: loops, veiled, ifaces, maps, wideKeys, modest, calm, conditions, laid).
  DERIVED. THE GIVEN ROWS OF THIS SEAT. 4 by the template 'for every input the law returns true; each argument reads behind the call as it read before'; 0 by the template 'total and deterministic' (their statements: YtgkeolddpielpaaGreatTotals.lean).
  GIVEN WITH THE SEED: the statements are not yours to turn. If you find one false, say at which input.
  Laid BY PROGRAM, IN A SANDBOX (cutbox-rows.mjs): the forced cells as the released guide's own fill.sh prints them over the translation 9a061ca3d7c47a84… (all of the seat's roots in one cut). By AI agents, Wed Nov 11 2026. No macro, syntax, notation, axiom, sorry.
-/
import Derived.Test.YtgkeolddpielpaaGreatChecked
import GoSem.Claim
import GoSem.ClaimJoined
import GoSem.ClaimMapViews
import Derived.JoinedTies
import Derived.KernelRfl
namespace Go.Proofs.YtgkeolddpielpaaGreat
/- THE CELL 'sum', in the pinned program and in every row, IS THE sha256 OF THE DUMP (.gsa) THAT YtgkeolddpielpaaGreatProg.lean LOADS. Nothing in Lean hashes anything: it is a label: what it is worth is what the hold of that sum in a sandbox is worth. -/
noncomputable def Tryz.pinned : Pinned := { name := "ytgkeolddpielpaagreat", sum := "9a061ca3d7c47a840181b24f8064ef40ccb20a683c2d66d5dce48befb006e1ae", checked := Tryz.checked }
namespace Rows
def none {H : Type} : Left H := { results := [], args := [] }

/-- 'roundsmanlaw17.OverDown': WHATEVER THE INPUT: true; the input reads as it did. -/
def overDownSpec : ChangeSpec := { name := "overDown", fn := fun _ => fun
  | [d1, d2] => { results := [.lit (.bool true)], args := [d1, d2] }
  | _ => none }
def overDownRow : OpenClaim := { program := "ytgkeolddpielpaagreat", sum := "9a061ca3d7c47a840181b24f8064ef40ccb20a683c2d66d5dce48befb006e1ae", func := "roundsman/roundsmanlaw17.OverDown", spec := "overDown", unfollowed := true, recurses := true, apart := false }
def OverDownSaid : Prop := overDownRow.holds Tryz.pinned (OpenSpec.ofChange overDownSpec)

/-- ITS FALSE NEIGHBOUR: 'it returns false'. Refute it at one input. -/
def overDownWrong : ChangeSpec := { name := "overDown", fn := fun _ => fun
  | [d1, d2] => { results := [.lit (.bool false)], args := [d1, d2] }
  | _ => none }
def OverDownWrongFalsely : Prop := overDownRow.holds Tryz.pinned (OpenSpec.ofChange overDownWrong)

/-- 'roundsmanlaw18.FillRight': WHATEVER THE INPUT: true; the input reads as it did. -/
def fillRightSpec : ChangeSpec := { name := "fillRight", fn := fun _ => fun
  | [d1, d2, d3, d4, d5] => { results := [.lit (.bool true)], args := [d1, d2, d3, d4, d5] }
  | _ => none }
def fillRightRow : OpenClaim := { program := "ytgkeolddpielpaagreat", sum := "9a061ca3d7c47a840181b24f8064ef40ccb20a683c2d66d5dce48befb006e1ae", func := "roundsman/roundsmanlaw18.FillRight", spec := "fillRight", unfollowed := true, recurses := true, apart := false }
def FillRightSaid : Prop := fillRightRow.holds Tryz.pinned (OpenSpec.ofChange fillRightSpec)

/-- ITS FALSE NEIGHBOUR: 'it returns false'. Refute it at one input. -/
def fillRightWrong : ChangeSpec := { name := "fillRight", fn := fun _ => fun
  | [d1, d2, d3, d4, d5] => { results := [.lit (.bool false)], args := [d1, d2, d3, d4, d5] }
  | _ => none }
def FillRightWrongFalsely : Prop := fillRightRow.holds Tryz.pinned (OpenSpec.ofChange fillRightWrong)

/-- 'roundsmanlaw18.FillShut': WHATEVER THE INPUT: true; the input reads as it did. -/
def fillShutSpec : ChangeSpec := { name := "fillShut", fn := fun _ => fun
  | [d1, d2, d3, d4] => { results := [.lit (.bool true)], args := [d1, d2, d3, d4] }
  | _ => none }
def fillShutRow : OpenClaim := { program := "ytgkeolddpielpaagreat", sum := "9a061ca3d7c47a840181b24f8064ef40ccb20a683c2d66d5dce48befb006e1ae", func := "roundsman/roundsmanlaw18.FillShut", spec := "fillShut", unfollowed := true, recurses := true, apart := false }
def FillShutSaid : Prop := fillShutRow.holds Tryz.pinned (OpenSpec.ofChange fillShutSpec)

/-- ITS FALSE NEIGHBOUR: 'it returns false'. Refute it at one input. -/
def fillShutWrong : ChangeSpec := { name := "fillShut", fn := fun _ => fun
  | [d1, d2, d3, d4] => { results := [.lit (.bool false)], args := [d1, d2, d3, d4] }
  | _ => none }
def FillShutWrongFalsely : Prop := fillShutRow.holds Tryz.pinned (OpenSpec.ofChange fillShutWrong)

/-- 'roundsmanlaw18.FillWider': WHATEVER THE INPUT: true; the input reads as it did. -/
def fillWiderSpec : ChangeSpec := { name := "fillWider", fn := fun _ => fun
  | [d1, d2] => { results := [.lit (.bool true)], args := [d1, d2] }
  | _ => none }
def fillWiderRow : OpenClaim := { program := "ytgkeolddpielpaagreat", sum := "9a061ca3d7c47a840181b24f8064ef40ccb20a683c2d66d5dce48befb006e1ae", func := "roundsman/roundsmanlaw18.FillWider", spec := "fillWider", unfollowed := true, recurses := true, apart := false }
def FillWiderSaid : Prop := fillWiderRow.holds Tryz.pinned (OpenSpec.ofChange fillWiderSpec)

/-- ITS FALSE NEIGHBOUR: 'it returns false'. Refute it at one input. -/
def fillWiderWrong : ChangeSpec := { name := "fillWider", fn := fun _ => fun
  | [d1, d2] => { results := [.lit (.bool false)], args := [d1, d2] }
  | _ => none }
def FillWiderWrongFalsely : Prop := fillWiderRow.holds Tryz.pinned (OpenSpec.ofChange fillWiderWrong)

/- THE SECOND FORM. 'bulk': how many values and letters a reading holds, each counted each time it is reached (what is shared counts as often as it is met; a slice's spare places count too). A statement '..UptoSaid' is the law's where the arguments, and the package variables that the reading takes, are together of bulk at most 1048576: NARROWER than '..Said'. Prove '..Said' where nothing that the law and all that it calls make is longer than what came in: it says more and counts as full. Else prove '..UptoSaid'. A law counts once. -/
mutual
def uptoBulk {H : Type} : DataW H → Nat
  | .lit (.string bytes) => bytes.length + 1
  | .lit _ => 1
  | .nil => 1
  | .ptr d => uptoBulk d + 1
  | .slice elems spare => uptoBulkAll elems + uptoBulkAll spare + 1
  | .agg parts => uptoBulkAll parts + 1
  | .iface _ d => uptoBulk d + 1
  | .map entries => uptoBulkEntries entries + 1
  | .held _ => 1
def uptoBulkAll {H : Type} : List (DataW H) → Nat
  | [] => 0
  | d :: r => uptoBulk d + uptoBulkAll r
def uptoBulkEntries {H : Type} : List (Lit × DataW H) → Nat
  | [] => 0
  | x :: r => uptoBulkEntry x + uptoBulkEntries r
def uptoBulkEntry {H : Type} : Lit × DataW H → Nat
  | (.string bytes, d) => bytes.length + uptoBulk d + 1
  | (_, d) => uptoBulk d + 1
 end
def uptoSmall : (H : Type) → List (DataW H) → Bool := fun _ ds => decide (uptoBulkAll ds ≤ 1048576)
def OpenSpec.upto (s : _root_.Go.ChangeSpec) : _root_.Go.OpenSpec := { _root_.Go.OpenSpec.ofChange s with cond := some uptoSmall }

/-- 'roundsmanlaw17.OverDown', WHERE WHAT IT READS IS OF BULK AT MOST 1048576: true; the input reads as it did. -/
def overDownUptoRow : OpenClaim := { program := "ytgkeolddpielpaagreat", sum := "9a061ca3d7c47a840181b24f8064ef40ccb20a683c2d66d5dce48befb006e1ae", func := "roundsman/roundsmanlaw17.OverDown", spec := "overDown", unfollowed := true, recurses := true, apart := false, narrowed := true }
def OverDownUptoSaid : Prop := overDownUptoRow.holds Tryz.pinned (OpenSpec.upto overDownSpec)

/-- 'roundsmanlaw18.FillRight', WHERE WHAT IT READS IS OF BULK AT MOST 1048576: true; the input reads as it did. -/
def fillRightUptoRow : OpenClaim := { program := "ytgkeolddpielpaagreat", sum := "9a061ca3d7c47a840181b24f8064ef40ccb20a683c2d66d5dce48befb006e1ae", func := "roundsman/roundsmanlaw18.FillRight", spec := "fillRight", unfollowed := true, recurses := true, apart := false, narrowed := true }
def FillRightUptoSaid : Prop := fillRightUptoRow.holds Tryz.pinned (OpenSpec.upto fillRightSpec)

/-- 'roundsmanlaw18.FillShut', WHERE WHAT IT READS IS OF BULK AT MOST 1048576: true; the input reads as it did. -/
def fillShutUptoRow : OpenClaim := { program := "ytgkeolddpielpaagreat", sum := "9a061ca3d7c47a840181b24f8064ef40ccb20a683c2d66d5dce48befb006e1ae", func := "roundsman/roundsmanlaw18.FillShut", spec := "fillShut", unfollowed := true, recurses := true, apart := false, narrowed := true }
def FillShutUptoSaid : Prop := fillShutUptoRow.holds Tryz.pinned (OpenSpec.upto fillShutSpec)

/-- 'roundsmanlaw18.FillWider', WHERE WHAT IT READS IS OF BULK AT MOST 1048576: true; the input reads as it did. -/
def fillWiderUptoRow : OpenClaim := { program := "ytgkeolddpielpaagreat", sum := "9a061ca3d7c47a840181b24f8064ef40ccb20a683c2d66d5dce48befb006e1ae", func := "roundsman/roundsmanlaw18.FillWider", spec := "fillWider", unfollowed := true, recurses := true, apart := false, narrowed := true }
def FillWiderUptoSaid : Prop := fillWiderUptoRow.holds Tryz.pinned (OpenSpec.upto fillWiderSpec)

end Rows
end Go.Proofs.YtgkeolddpielpaaGreat
