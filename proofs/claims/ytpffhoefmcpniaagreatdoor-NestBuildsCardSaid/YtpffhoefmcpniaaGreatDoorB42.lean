/- Parts of the proof: OpN, Laid. -/
import Derived.Test.YtpffhoefmcpniaaGreatDoorB1
import Derived.Test.YtpffhoefmcpniaaGreatDoorB2
import Derived.Test.YtpffhoefmcpniaaGreatDoorB10
import Derived.Test.YtpffhoefmcpniaaGreatDoorB20
import Derived.Test.YtpffhoefmcpniaaGreatDoorB41
import Derived.ChangeArms
import Derived.Test.YtpffhoefmcpniaaGreatDoorTie
import Derived.Test.YtpffhoefmcpniaaGreatDoorCards
import Derived.Handed
import Derived.ChangeSame
import Derived.ChangeVars
import Derived.JoinedOf
import Derived.LaidLaws
import Derived.LaidHandle
import Derived.SevenTiedAt
namespace Go.Proofs.YtpffhoefmcpniaaGreatDoor
open Go.ChangeShapes Go.WideShapes Go.ChangeAt Go.RowKit Go.Deep

theorem list_three {α : Type} : ∀ {l : List α}, l.length = 3 → ∃ a b c, l = [a, b, c]
 | [a, b, c], _ => ⟨a, b, c, rfl⟩
section
variable {H : Type} {enc : TypeId × Value → H} {w : World} {base : Nat} {spare : Nat → Bool} {held : Bool}
theorem slice_cell {t e : TypeId} (ht : Tryz.prog.underlying t = some (.slice e)) {fuel : Nat} {cs : List Value} {x : DataW H × List MemPlace} (h : DataW.trod enc Tryz.prog w base spare held fuel t cs = some x) : ∃ A n c, cs = [.slice A n c] := by
 rcases open_slice ht h with ⟨h0, _⟩ | ⟨a, len, cap, m, n', D, Pl, hcs, _⟩
 · exact ⟨_, _, _, h0⟩
 · exact ⟨_, _, _, hcs⟩
theorem rel_vert (fuel : Nat) (cs : List Value) (x : DataW H × List MemPlace) (h : DataW.trod enc Tryz.prog w base spare held fuel 64 cs = some x) : ∃ p : Tri, cs = [.int .i64 p.1, .int .i64 p.2.1, .int .i64 p.2.2] := by
 obtain ⟨xs, m, _, _, hcl, hxl, hi⟩ := DataW.trod_struct Tryz.underlying64 h
 have hxl' : xs.length = 3 := hxl
 have a0 : DataW.trod enc Tryz.prog w base spare held m 3 ((cs.drop 0).take (Tryz.prog.cellsOf 3)) = xs[0]? := hi 0 _ rfl
 have a1 : DataW.trod enc Tryz.prog w base spare held m 3 ((cs.drop 1).take (Tryz.prog.cellsOf 3)) = xs[1]? := hi 1 _ rfl
 have a2 : DataW.trod enc Tryz.prog w base spare held m 3 ((cs.drop 2).take (Tryz.prog.cellsOf 3)) = xs[2]? := hi 2 _ rfl
 rw [List.getElem?_eq_getElem (by omega)] at a0 a1 a2
 obtain ⟨n0, e0, _⟩ := DataW.trod_int Tryz.underlying3 a0
 obtain ⟨n1, e1, _⟩ := DataW.trod_int Tryz.underlying3 a1
 obtain ⟨n2, e2, _⟩ := DataW.trod_int Tryz.underlying3 a2
 rw [show Tryz.prog.cellsOf 64 = 3 by kernel_rfl] at hcl
 rw [show Tryz.prog.cellsOf 3 = 1 by kernel_rfl] at e0 e1 e2
 clear a0 a1 a2 hi h
 obtain ⟨c0, c1, c2, rfl⟩ := list_three hcl
 simp at e0 e1 e2
 exact ⟨(n0, n1, n2), by simp [e0, e1, e2]⟩
theorem rel_arc (fuel : Nat) (cs : List Value) (x : DataW H × List MemPlace) (h : DataW.trod enc Tryz.prog w base spare held fuel 115 cs = some x) : ∃ p : Tri, cs = [.int .i64 p.1, .int .i64 p.2.1, .int .i64 p.2.2] := by
 obtain ⟨xs, m, _, _, hcl, hxl, hi⟩ := DataW.trod_struct Tryz.underlying115 h
 have hxl' : xs.length = 3 := hxl
 have a0 : DataW.trod enc Tryz.prog w base spare held m 3 ((cs.drop 0).take (Tryz.prog.cellsOf 3)) = xs[0]? := hi 0 _ rfl
 have a1 : DataW.trod enc Tryz.prog w base spare held m 3 ((cs.drop 1).take (Tryz.prog.cellsOf 3)) = xs[1]? := hi 1 _ rfl
 have a2 : DataW.trod enc Tryz.prog w base spare held m 2 ((cs.drop 2).take (Tryz.prog.cellsOf 2)) = xs[2]? := hi 2 _ rfl
 rw [List.getElem?_eq_getElem (by omega)] at a0 a1 a2
 obtain ⟨n0, e0, _⟩ := DataW.trod_int Tryz.underlying3 a0
 obtain ⟨n1, e1, _⟩ := DataW.trod_int Tryz.underlying3 a1
 obtain ⟨n2, e2, _⟩ := DataW.trod_int Tryz.underlying2 a2
 rw [show Tryz.prog.cellsOf 115 = 3 by kernel_rfl] at hcl
 rw [show Tryz.prog.cellsOf 3 = 1 by kernel_rfl] at e0 e1
 rw [show Tryz.prog.cellsOf 2 = 1 by kernel_rfl] at e2
 clear a0 a1 a2 hi h
 obtain ⟨c0, c1, c2, rfl⟩ := list_three hcl
 simp at e0 e1 e2
 exact ⟨(n0, n1, n2), by simp [e0, e1, e2]⟩
def TabCs (w : World) (cs : List Value) (t : TabD) : Prop := ∃ (A : Option Addr) (n c : Nat), cs = [.int .i64 t.ins, .int .i64 t.outs, .slice A n c] ∧ RdI w A n t.costs ∧ n ≤ c ∧ c ≤ 9223372036854775807
theorem rel_tab (fuel : Nat) (cs : List Value) (x : DataW H × List MemPlace) (h : DataW.trod enc Tryz.prog w base spare held fuel 61 cs = some x) : ∃ t : TabD, TabCs w cs t := by
 obtain ⟨xs, m, _, _, hcl, hxl, hi⟩ := DataW.trod_struct Tryz.underlying61 h
 have hxl' : xs.length = 3 := hxl
 have a0 : DataW.trod enc Tryz.prog w base spare held m 3 ((cs.drop 0).take (Tryz.prog.cellsOf 3)) = xs[0]? := hi 0 _ rfl
 have a1 : DataW.trod enc Tryz.prog w base spare held m 3 ((cs.drop 1).take (Tryz.prog.cellsOf 3)) = xs[1]? := hi 1 _ rfl
 have a2 : DataW.trod enc Tryz.prog w base spare held m 59 ((cs.drop 2).take (Tryz.prog.cellsOf 59)) = xs[2]? := hi 2 _ rfl
 rw [List.getElem?_eq_getElem (by omega)] at a0 a1 a2
 obtain ⟨n0, e0, _⟩ := DataW.trod_int Tryz.underlying3 a0
 obtain ⟨n1, e1, _⟩ := DataW.trod_int Tryz.underlying3 a1
 obtain ⟨A, n, c, e2⟩ := slice_cell Tryz.underlying59 a2
 rw [e2] at a2
 obtain ⟨l, h1, h2, h3, _, _⟩ := open_intsK Tryz.underlying59 Tryz.underlying2 (by kernel_rfl) a2
 rw [show Tryz.prog.cellsOf 61 = 3 by kernel_rfl] at hcl
 rw [show Tryz.prog.cellsOf 3 = 1 by kernel_rfl] at e0 e1
 rw [show Tryz.prog.cellsOf 59 = 1 by kernel_rfl] at e2
 clear a0 a1 a2 hi h
 obtain ⟨c0, c1, c2, rfl⟩ := list_three hcl
 simp at e0 e1 e2
 exact ⟨⟨n0, n1, l⟩, A, n, c, by simp [e0, e1, e2], h1, h2, h3⟩
theorem open_net {cs : List Value} {fuel : Nat} {x : DataW H × List MemPlace} (h : DataW.trod enc Tryz.prog w base spare held fuel 26 cs = some x) :
 ∃ (A B C : Option Addr) (n m k c d e : Nat) (N : NetD), cs = [.slice A n c, .slice B m d, .slice C k e] ∧ RdNet w A B C n m k N ∧ k ≤ 9223372036854775807 := by
 obtain ⟨xs, f, _, _, hcl, hxl, hi⟩ := DataW.trod_struct Tryz.underlying26 h
 have hxl' : xs.length = 3 := hxl
 have a0 : DataW.trod enc Tryz.prog w base spare held f 22 ((cs.drop 0).take (Tryz.prog.cellsOf 22)) = xs[0]? := hi 0 _ rfl
 have a1 : DataW.trod enc Tryz.prog w base spare held f 23 ((cs.drop 1).take (Tryz.prog.cellsOf 23)) = xs[1]? := hi 1 _ rfl
 have a2 : DataW.trod enc Tryz.prog w base spare held f 24 ((cs.drop 2).take (Tryz.prog.cellsOf 24)) = xs[2]? := hi 2 _ rfl
 rw [List.getElem?_eq_getElem (by omega)] at a0 a1 a2
 obtain ⟨A, n, c, e0⟩ := slice_cell Tryz.underlying22 a0
 obtain ⟨B, m, d, e1⟩ := slice_cell Tryz.underlying23 a1
 obtain ⟨C, k, e, e2⟩ := slice_cell Tryz.underlying24 a2
 rw [e0] at a0
 rw [e1] at a1
 rw [e2] at a2
 obtain ⟨vs, hl0, _, _, _, hr0⟩ := open_list Tryz.underlying22 (k := 3) (by kernel_rfl) (by omega) (fun cs (p : Tri) => cs = [.int .i64 p.1, .int .i64 p.2.1, .int .i64 p.2.2]) rel_vert a0
 obtain ⟨ar, hl1, _, _, _, hr1⟩ := open_list Tryz.underlying23 (k := 3) (by kernel_rfl) (by omega) (fun cs (p : Tri) => cs = [.int .i64 p.1, .int .i64 p.2.1, .int .i64 p.2.2]) rel_arc a1
 obtain ⟨ts, hl2, hkc, hcm, _, hr2⟩ := open_list Tryz.underlying24 (k := 3) (by kernel_rfl) (by omega) (TabCs w) rel_tab a2
 rw [show Tryz.prog.cellsOf 26 = 3 by kernel_rfl] at hcl
 rw [show Tryz.prog.cellsOf 22 = 1 by kernel_rfl] at e0
 rw [show Tryz.prog.cellsOf 23 = 1 by kernel_rfl] at e1
 rw [show Tryz.prog.cellsOf 24 = 1 by kernel_rfl] at e2
 clear a0 a1 a2 hi h
 obtain ⟨c0, c1, c2, rfl⟩ := list_three hcl
 simp at e0 e1 e2
 refine ⟨A, B, C, n, m, k, c, d, e, ⟨vs, ar, ts⟩, by simp [e0, e1, e2], ⟨⟨hl0, fun i p hp => ?_⟩, ⟨hl1, fun i p hp => ?_⟩, ⟨hl2, fun i p hp => ?_⟩⟩, by omega⟩
 · obtain ⟨b, o, us, e5, rfl, _, hv⟩ := hr0 i p hp
   exact ⟨b, o, e5, by have := hv 0 _ rfl; simpa using this, hv 1 _ rfl, hv 2 _ rfl⟩
 · obtain ⟨b, o, us, e5, rfl, _, hv⟩ := hr1 i p hp
   exact ⟨b, o, e5, by have := hv 0 _ rfl; simpa using this, hv 1 _ rfl, hv 2 _ rfl⟩
 · obtain ⟨b, o, us, e5, ⟨A', n', c', rfl, h1, h2, h3⟩, _, hv⟩ := hr2 i p hp
   exact ⟨b, o, e5, by have := hv 0 _ rfl; simpa using this, hv 1 _ rfl, A', n', c', hv 2 _ rfl, h1, h2, h3⟩
end

end Go.Proofs.YtpffhoefmcpniaaGreatDoor

namespace Go.Proofs.YtpffhoefmcpniaaGreatDoor
open Go.ChangeShapes Go.WideShapes Go.ChangeAt Go.RowKit Go.Deep

theorem et_ : Tryz.prog.globalNamed "errors.errorType" = some 0 := by kernel_rfl
theorem rt_ : (Tryz.prog.cutTypes.find? (·.1 == "internal/reflectlite.rtype")).map (·.2) = some 169 := by kernel_rfl
theorem oneRow_ : ((List.range 282).filter fun t => Tryz.prog.rowNamed t [101, 114, 114, 111, 114]) = [36] := by kernel_rfl
theorem size_ : Tryz.prog.types.size = 282 := by kernel_rfl
theorem handle_of_laid {W : World} (h : laidMetH Tryz.prog [("errors.errorType", Rows.laid_errors_errorType)] W) : W.cell? ⟨0, 0, none⟩ = some errT := by
 have h' : laidMet Tryz.prog [] W ∧ handlesMet Tryz.prog [("errors.errorType", Rows.laid_errors_errorType)] W := h
 obtain ⟨name, u, ty, e1, e2, e3, e4, e5⟩ := h'.2 _ (List.mem_singleton.2 rfl)
 have en : name = [101, 114, 114, 111, 114] := (Option.some.inj e1).symm
 subst en
 obtain rfl := Option.some.inj (rt_.symm.trans e2)
 have hm : ty ∈ (List.range 282).filter fun t => Tryz.prog.rowNamed t [101, 114, 114, 111, 114] := List.mem_filter.2 ⟨List.mem_range.2 (by rw [← size_]; exact e3), e4⟩
 rw [oneRow_] at hm
 obtain rfl := List.mem_singleton.1 hm
 have hh : typeHandle Tryz.prog 36 = .pointer (some ⟨1, 36, none⟩) := by kernel_rfl
 rw [hh] at e5
 unfold errT
 simpa using World.var?_cell et_ e5 0
noncomputable def laidWorld (os : Os) : World :=
 let w0 := World.holding Tryz.prog os ⟨#[], #[], []⟩
 { w0 with heap := w0.heap.modify 0 fun
  | .cells _ t frozen => .cells #[errT] t frozen
  | o => o }
theorem laidWorld_met (os : Os) (args : Array Value) : laidMetH Tryz.prog [("errors.errorType", Rows.laid_errors_errorType)] ((laidWorld os).forCall (fun _ _ => 0) ⟨#[], args, []⟩).memory :=
 laidMetH_of_parts (laidMet_nil _ _) (by kernel_rfl)

end Go.Proofs.YtpffhoefmcpniaaGreatDoor
