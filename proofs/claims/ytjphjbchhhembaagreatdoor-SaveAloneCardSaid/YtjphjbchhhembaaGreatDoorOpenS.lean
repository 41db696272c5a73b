/- The law's arguments, opened: a job, a table. -/
import Derived.Test.YtjphjbchhhembaaGreatDoorOpen
import Derived.Test.YtjphjbchhhembaaGreatDoorTab
import Derived.Test.YtjphjbchhhembaaGreatDoorJob
import Derived.ChangeArms
namespace Go.Proofs.YtjphjbchhhembaaGreatDoor
open Go.ChangeShapes Go.WideShapes Go.ChangeAt Go.RowKit Go.Deep

theorem list_two {α : Type} : ∀ {l : List α}, l.length = 2 → ∃ a b, l = [a, b]
  | [a, b], _ => ⟨a, b, rfl⟩
theorem list_four {α : Type} : ∀ {l : List α}, l.length = 4 → ∃ a b c d, l = [a, b, c, d]
  | [a, b, c, d], _ => ⟨a, b, c, d, rfl⟩
section
variable {H : Type} {enc : TypeId × Value → H} {w : World} {base : Nat} {spare : Nat → Bool} {held : Bool}
theorem rel_ints64 (fuel : Nat) (cs : List Value) (x : DataW H × List MemPlace) (h : DataW.trod enc Tryz.prog w base spare held fuel 44 cs = some x) :
    ∃ l : List Int, ∃ A n c, cs = [.slice A n c] ∧ RdI w A n l ∧ n ≤ c ∧ c ≤ 9223372036854775807 := by
  obtain ⟨A, n, c, rfl⟩ : ∃ A n c, cs = [.slice A n c] := by
    rcases open_slice Tryz.underlying44 h with ⟨h0, _⟩ | ⟨a, len, cap, m, n', D, Pl, hcs, _⟩
    · exact ⟨_, _, _, h0⟩
    · exact ⟨_, _, _, hcs⟩
  obtain ⟨l, h1, h2, h3, _, _⟩ := open_intsK Tryz.underlying44 Tryz.underlying2 (by kernel_rfl) h
  exact ⟨l, A, n, c, rfl, h1, h2, h3⟩
theorem open_table {A : Option Addr} {n c fuel : Nat} {x : DataW H × List MemPlace} (h : DataW.trod enc Tryz.prog w base spare held fuel 25 [.slice A n c] = some x) :
    ∃ ls : List (List Int), RdT w A n ls ∧ n ≤ c ∧ c ≤ 9223372036854775807 ∧ (n = 0 ∨ ∃ el sp, x.1 = .slice el sp ∧ el.length = n) := by
  obtain ⟨l, hl, hnc, hcm, hsz, hr⟩ := open_list Tryz.underlying25 (k := 1) (by kernel_rfl) (by omega) (fun cs (l : List Int) => ∃ A n c, cs = [.slice A n c] ∧ RdI w A n l ∧ n ≤ c ∧ c ≤ 9223372036854775807) rel_ints64 h
  refine ⟨l, ⟨hl, fun i p hp => ?_⟩, hnc, hcm, hsz⟩
  obtain ⟨b, o, vs, e, ⟨A', n', c', e2, h1, h2, h3⟩, _, hv⟩ := hr i p hp
  subst e2
  exact ⟨b, o, A', n', c', e, by have := hv 0 _ rfl; simpa using this, h1, h2, h3⟩
theorem rel_stop (fuel : Nat) (cs : List Value) (x : DataW H × List MemPlace) (h : DataW.trod enc Tryz.prog w base spare held fuel 42 cs = some x) : ∃ p : Int × Int, cs = [.int .i64 p.1, .int .i64 p.2] := by
  obtain ⟨xs, m, _, _, hcl, hxl, hi⟩ := DataW.trod_struct Tryz.underlying42 h
  have a0 : DataW.trod enc Tryz.prog w base spare held m 3 ((cs.drop 0).take (Tryz.prog.cellsOf 3)) = xs[0]? := hi 0 _ rfl
  have a1 : DataW.trod enc Tryz.prog w base spare held m 2 ((cs.drop 1).take (Tryz.prog.cellsOf 2)) = xs[1]? := hi 1 _ rfl
  have hxl' : xs.length = 2 := hxl
  rw [List.getElem?_eq_getElem (by omega)] at a0 a1
  obtain ⟨n0, e0, _⟩ := DataW.trod_int Tryz.underlying3 a0
  obtain ⟨n1, e1', _⟩ := DataW.trod_int Tryz.underlying2 a1
  rw [show Tryz.prog.cellsOf 42 = 2 by kernel_rfl] at hcl
  rw [show Tryz.prog.cellsOf 3 = 1 by kernel_rfl] at e0
  rw [show Tryz.prog.cellsOf 2 = 1 by kernel_rfl] at e1'
  clear a0 a1 hi h
  obtain ⟨c0, c1, rfl⟩ := list_two hcl
  simp at e0 e1'
  exact ⟨(n0, n1), by simp [e0, e1']⟩
theorem open_job {cs : List Value} {fuel : Nat} {x : DataW H × List MemPlace} (h : DataW.trod enc Tryz.prog w base spare held fuel 24 cs = some x) :
    ∃ (dep cap lim : Int) (A : Option Addr) (n c : Nat) (st : List (Int × Int)), cs = [.int .i64 dep, .int .i64 cap, .int .i64 lim, .slice A n c] ∧ RdP w A n st ∧ n ≤ c ∧ c ≤ 9223372036854775807 := by
  obtain ⟨xs, m, _, _, hcl, hxl, hi⟩ := DataW.trod_struct Tryz.underlying24 h
  have hxl' : xs.length = 4 := hxl
  have a0 : DataW.trod enc Tryz.prog w base spare held m 3 ((cs.drop 0).take (Tryz.prog.cellsOf 3)) = xs[0]? := hi 0 _ rfl
  have a1 : DataW.trod enc Tryz.prog w base spare held m 2 ((cs.drop 1).take (Tryz.prog.cellsOf 2)) = xs[1]? := hi 1 _ rfl
  have a2 : DataW.trod enc Tryz.prog w base spare held m 2 ((cs.drop 2).take (Tryz.prog.cellsOf 2)) = xs[2]? := hi 2 _ rfl
  have a3 : DataW.trod enc Tryz.prog w base spare held m 22 ((cs.drop 3).take (Tryz.prog.cellsOf 22)) = xs[3]? := hi 3 _ rfl
  rw [List.getElem?_eq_getElem (by omega)] at a0 a1 a2 a3
  obtain ⟨n0, e0, _⟩ := DataW.trod_int Tryz.underlying3 a0
  obtain ⟨n1, e1, _⟩ := DataW.trod_int Tryz.underlying2 a1
  obtain ⟨n2, e2, _⟩ := DataW.trod_int Tryz.underlying2 a2
  rw [show Tryz.prog.cellsOf 24 = 4 by kernel_rfl] at hcl
  rw [show Tryz.prog.cellsOf 3 = 1 by kernel_rfl] at e0
  rw [show Tryz.prog.cellsOf 2 = 1 by kernel_rfl] at e1 e2
  obtain ⟨A, n, c, e3⟩ : ∃ A n c, (cs.drop 3).take (Tryz.prog.cellsOf 22) = [.slice A n c] := by
    rcases open_slice Tryz.underlying22 a3 with ⟨h0, _⟩ | ⟨a, len, cap, m, n', D, Pl, hcs, _⟩
    · exact ⟨_, _, _, h0⟩
    · exact ⟨_, _, _, hcs⟩
  have a3' := a3
  rw [show ((cs.drop 3).take (Tryz.prog.cellsOf 22)) = [.slice A n c] from e3] at a3'
  obtain ⟨l, hl, hnc, hcm, _, hr⟩ := open_list Tryz.underlying22 (k := 2) (by kernel_rfl) (by omega) (fun cs (p : Int × Int) => cs = [.int .i64 p.1, .int .i64 p.2]) rel_stop a3'
  rw [show Tryz.prog.cellsOf 22 = 1 by kernel_rfl] at e3
  clear a0 a1 a2 a3 a3' hi h
  obtain ⟨c0, c1, c2, c3, rfl⟩ := list_four hcl
  simp at e0 e1 e2 e3
  refine ⟨n0, n1, n2, A, n, c, l, by simp [e0, e1, e2, e3], ⟨hl, fun i p hp => ?_⟩, hnc, hcm⟩
  obtain ⟨b, o, vs, e, e5, _, hv⟩ := hr i p hp
  subst e5
  exact ⟨b, o, e, by have := hv 0 _ rfl; simpa using this, hv 1 _ rfl⟩
end

end Go.Proofs.YtjphjbchhhembaaGreatDoor
