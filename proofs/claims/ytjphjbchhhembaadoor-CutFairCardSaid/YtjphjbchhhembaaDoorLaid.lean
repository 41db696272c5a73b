/- What the condition on the listed variable says; a world that meets it. -/
import Derived.Test.YtjphjbchhhembaaDoorOpen
import Derived.Test.YtjphjbchhhembaaDoorAs
import Derived.Test.YtjphjbchhhembaaDoorTie
import Derived.Test.YtjphjbchhhembaaDoorCards
import Derived.ChangeArms
import Derived.Handed
import Derived.ChangeSame
import Derived.ChangeVars
import Derived.JoinedOf
import Derived.LaidLaws
import Derived.LaidHandle
import Derived.SevenTiedAt
namespace Go.Proofs.YtjphjbchhhembaaDoor
open Go.ChangeShapes Go.WideShapes Go.ChangeAt Go.RowKit Go.Deep

theorem et_ : Tryd.prog.globalNamed "errors.errorType" = some 0 := by kernel_rfl
theorem rt_ : (Tryd.prog.cutTypes.find? (·.1 == "internal/reflectlite.rtype")).map (·.2) = some 175 := by kernel_rfl
theorem oneRow_ : ((List.range 245).filter fun t => Tryd.prog.rowNamed t [101, 114, 114, 111, 114]) = [34] := by kernel_rfl
theorem size_ : Tryd.prog.types.size = 245 := by kernel_rfl
/-- What the condition gives the walk: the variable's one cell. -/
theorem handle_of_laid {W : World} (h : laidMetH Tryd.prog [("errors.errorType", Rows.laid_errors_errorType)] W) : W.cell? ⟨0, 0, none⟩ = some errT := by
  have h' : laidMet Tryd.prog [] W ∧ handlesMet Tryd.prog [("errors.errorType", Rows.laid_errors_errorType)] W := h
  obtain ⟨name, u, ty, e1, e2, e3, e4, e5⟩ := h'.2 _ (List.mem_singleton.2 rfl)
  have en : name = [101, 114, 114, 111, 114] := (Option.some.inj e1).symm
  subst en
  obtain rfl := Option.some.inj (rt_.symm.trans e2)
  have hm : ty ∈ (List.range 245).filter fun t => Tryd.prog.rowNamed t [101, 114, 114, 111, 114] := List.mem_filter.2 ⟨List.mem_range.2 (by rw [← size_]; exact e3), e4⟩
  rw [oneRow_] at hm
  obtain rfl := List.mem_singleton.1 hm
  have hh : typeHandle Tryd.prog 34 = .pointer (some ⟨1, 34, none⟩) := by kernel_rfl
  rw [hh] at e5
  unfold errT
  simpa using World.var?_cell et_ e5 0
/-- A world that meets the condition: the settled one, the variable's cell laid. -/
noncomputable def laidWorld (os : Os) : World :=
  let w0 := World.holding Tryd.prog os ⟨#[], #[], []⟩
  { w0 with heap := w0.heap.modify 0 fun
      | .cells _ t frozen => .cells #[errT] t frozen
      | o => o }
theorem laidWorld_met (os : Os) (args : Array Value) : laidMetH Tryd.prog [("errors.errorType", Rows.laid_errors_errorType)] ((laidWorld os).forCall (fun _ _ => 0) ⟨#[], args, []⟩).memory :=
  laidMetH_of_parts (laidMet_nil _ _) (by kernel_rfl)

end Go.Proofs.YtjphjbchhhembaaDoor
