/- What the law knows: three stops, two of which are one round; plain. -/
import Derived.Test.YtjphjbchhhembaaGreatDoorPlA
namespace Go.Proofs.YtjphjbchhhembaaGreatDoor
open Go.RowKit

def kT : List (List Int) := [[0, 10, 10, 10], [10, 0, 3, 19], [10, 4, 0, 5], [10, 21, 5, 0]]
def kSt : List (Int × Int) := [(0, 1), (0, 1), (0, 1)]
def kL : List Sv := [(1, 2, 17), (2, 1, 16), (2, 3, 15), (3, 2, 15), (1, 3, 1)]
theorem svLt_asymm {a b : Sv} (h : svLt a b) (g : svLt b a) : False := by unfold svLt at *; omega
theorem sv_unique {L M : List Sv} (h : L.Perm M) (hL : L.Pairwise svLt) (hM : M.Pairwise svLt) : L = M := h.eq_of_pairwise (fun _ _ _ _ h1 h2 => (svLt_asymm h1 h2).elim) hL hM
theorem kL_perm : (allSv kT).Perm kL := by
  have : allSv kT = [(1, 2, 17), (1, 3, 1), (2, 1, 16), (2, 3, 15), (3, 2, 15)] := by decide +kernel
  rw [this]
  unfold kL
  decide +kernel
theorem kL_sorted : kL.Pairwise svLt := by
  unfold kL
  simp [svLt]
theorem k_join : kL.foldl (joinStep 2 1000 kT kSt) (singles 3) = [[1, 2], [3]] := by decide +kernel
theorem k_sq : sqB 4 kT = true := by decide +kernel
theorem k_fits : FitsP 2 1000 kT kSt := fun i p h => by
  match i, h with
  | 0, h => cases h; decide +kernel
  | 1, h => cases h; decide +kernel
  | 2, h => cases h; decide +kernel
  | i + 3, h => simp [kSt] at h
theorem k_ld : LdOk kSt := fun p h => by
  simp [kSt] at h
  rw [h]
  decide
theorem k_list {L : List Sv} (h : L.Perm (allSv kT)) (hL : L.Pairwise svLt) : L = kL := sv_unique (h.trans kL_perm) hL kL_sorted
theorem k_rounds {L : List Sv} {R : List (List Int)} (h : L.Perm (allSv kT)) (hL : L.Pairwise svLt) (hR : R.Perm (L.foldl (joinStep 2 1000 kT kSt) (singles 3))) (hd : R.Pairwise (fun a b => headI a < headI b)) : R = [[1, 2], [3]] := by
  rw [k_list h hL, k_join] at hR
  exact sorted_unique hR hd (by decide)
end Go.Proofs.YtjphjbchhhembaaGreatDoor
