/- Each stop's own trip can be. -/
import Derived.Test.YtjphjbchhhembaaGreatDoorJob
namespace Go.Proofs.YtjphjbchhhembaaGreatDoor
open Go.RowKit

/-- Each stop's own trip can be. -/
def FitsP (cap lim : Int) (ls : List (List Int)) (st : List (Int × Int)) : Prop :=
  ∀ (i : Nat) (p : Int × Int), st[i]? = some p → p.2 ≤ cap ∧ stepC ls 0 (i + 1) < 1152921504606846976 ∧ stepC ls (i + 1) 0 < 1152921504606846976 ∧ add2 (stepC ls 0 (i + 1)) (stepC ls (i + 1) 0) < 1152921504606846976 ∧ add2 (stepC ls 0 (i + 1)) (stepC ls (i + 1) 0) ≤ lim

theorem costs_bd {n i j : Nat} {ls : List (List Int)} (hs : sqB n ls = true) (hi : i < n) (hj : j < n) : 0 ≤ stepC ls i j ∧ stepC ls i j ≤ INF := by
  obtain ⟨hlen, hrow⟩ := sq_of hs
  have h1 : ls[i]? = some ls[i] := List.getElem?_eq_getElem (by omega)
  have h2 := hrow i _ h1
  have h3 : ls[i][j]? = some ls[i][j] := List.getElem?_eq_getElem (by omega)
  rw [stepC_eq h1 h3]
  exact (sqB_get hs h1).2 _ (List.getElem_mem _)
end Go.Proofs.YtjphjbchhhembaaGreatDoor
