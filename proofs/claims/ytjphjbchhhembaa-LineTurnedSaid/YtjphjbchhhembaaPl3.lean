/- Plain laws for LineTurned. No walk. -/
import Derived.Test.YtjphjbchhhembaaPl2
namespace Go.Proofs.Ytjphjbchhhembaa

def swapP (l : List (Int × Int)) : List (Int × Int) := l.map (fun p => (p.2, p.1))
def negP (l : List (Int × Int)) : List (Int × Int) := l.map (fun p => (0 - p.1, 0 - p.2))
theorem order_keys {l m : List (Int × Int)} {d e : Int} (h : keysOf l d = keysOf m e) : order l d = order m e := by
  have hl : l.length = m.length := by
    have := congrArg List.length h
    simpa [keysOf] using this
  apply order_eq
  rw [h, hl]
  exact order_ord m e
theorem order_swap1 (l : List (Int × Int)) : order (swapP l) 1 = order l 0 := order_keys (by simp [keysOf, swapP, key, Function.comp_def])
theorem order_swap0 (l : List (Int × Int)) : order (swapP l) 0 = order l 1 := order_keys (by simp [keysOf, swapP, key, Function.comp_def])
theorem order_swap2 (l : List (Int × Int)) : order (swapP l) 2 = order l 2 := order_keys (by
  simp only [keysOf, swapP, List.map_map]
  apply List.map_congr_left
  intro p _
  simp [key]; omega)

theorem key_bd {x y d : Int} (h0 : 0 ≤ d) (h3 : d ≤ 3) (a1 : -1048576 ≤ x) (a2 : x ≤ 1048576) (a3 : -1048576 ≤ y) (a4 : y ≤ 1048576) : -2097152 ≤ key (x, y) d ∧ key (x, y) d ≤ 2097152 := by
  rcases (show d = 0 ∨ d = 1 ∨ d = 2 ∨ d = 3 by omega) with rfl | rfl | rfl | rfl <;> simp [key] <;> omega
/-- the keys in their order -/
def kseq (l : List (Int × Int)) (d : Int) : List Int := (order l d).map (fun x => (keysOf l d).getD x.toNat 0)
theorem map_iota (ks : List Int) : (iota ks.length).map (fun x => ks.getD x.toNat 0) = ks := by
  apply List.ext_getElem?
  intro i
  simp only [iota, List.map_map, List.getElem?_map]
  by_cases h : i < ks.length
  · rw [List.getElem?_range h, List.getElem?_eq_getElem h]
    simp [List.getElem?_eq_getElem h]
  · rw [List.getElem?_eq_none (by simp; omega), List.getElem?_eq_none (by omega)]; rfl
theorem kseq_perm (l : List (Int × Int)) (d : Int) : (kseq l d).Perm (keysOf l d) := by
  have h := (order_ord l d).1.map (fun x => (keysOf l d).getD x.toNat 0)
  have h2 := map_iota (keysOf l d)
  rw [show (keysOf l d).length = l.length by simp [keysOf]] at h2
  rw [h2] at h
  exact h
theorem kseq_sorted (l : List (Int × Int)) (d : Int) : (kseq l d).Pairwise (· ≤ ·) :=
  List.Pairwise.map _ (fun a b h => by unfold klt at h; omega) (order_ord l d).2
theorem keys_neg (l : List (Int × Int)) (d : Int) (h0 : 0 ≤ d) (h3 : d ≤ 3) : keysOf (negP l) d = (keysOf l d).map (fun x => 0 - x) := by
  simp only [keysOf, negP, List.map_map]
  apply List.map_congr_left
  intro p _
  rcases (show d = 0 ∨ d = 1 ∨ d = 2 ∨ d = 3 by omega) with rfl | rfl | rfl | rfl <;> simp [key] <;> omega
theorem kseq_neg (l : List (Int × Int)) (d : Int) (h0 : 0 ≤ d) (h3 : d ≤ 3) : kseq l d = ((kseq (negP l) d).map (fun x => 0 - x)).reverse := by
  apply List.Perm.eq_of_pairwise (le := (· ≤ ·)) (fun a b _ _ h1 h2 => by omega) (kseq_sorted l d)
  · rw [List.pairwise_reverse]
    exact List.Pairwise.map _ (fun a b h => by omega) (kseq_sorted (negP l) d)
  · refine (kseq_perm l d).trans (List.Perm.symm ((List.reverse_perm _).trans ?_))
    have := (kseq_perm (negP l) d).map (fun x => 0 - x)
    refine this.trans ?_
    rw [keys_neg l d h0 h3, List.map_map]
    have e : ((fun x : Int => 0 - x) ∘ fun x => 0 - x) = id := by funext x; simp
    rw [e, List.map_id]
theorem kseq_at {l : List (Int × Int)} {d : Int} {i : Nat} {v : Nat} {p : Int × Int} (h : (order l d)[i]? = some (v : Int)) (hp : l[v]? = some p) : (kseq l d)[i]? = some (key p d) := by
  unfold kseq
  rw [List.getElem?_map, h]
  simp [keysOf, hp]
/-- Point a[i]'s key is that of point b[n - 1 - i] mirrored, below 0. -/
theorem keys_mirror {l : List (Int × Int)} {d : Int} (h0 : 0 ≤ d) (h3 : d ≤ 3) {i u v : Nat} {p q : Int × Int} (hi : i < l.length) (hu : (order l d)[i]? = some (u : Int)) (hv : (order (negP l) d)[l.length - 1 - i]? = some (v : Int))
    (hp : l[u]? = some p) (hq : (negP l)[v]? = some q) : key p d = 0 - key q d := by
  have h1 := kseq_at hu hp
  have h2 := kseq_at hv hq
  have hlen : (kseq (negP l) d).length = l.length := by
    unfold kseq; rw [List.length_map, order_len]; simp [negP]
  rw [kseq_neg l d h0 h3, List.getElem?_reverse (by simpa [hlen] using hi), List.getElem?_map] at h1
  simp only [List.length_map, hlen] at h1
  rw [h2] at h1
  simp only [Option.map_some, Option.some.injEq] at h1
  omega
end Go.Proofs.Ytjphjbchhhembaa
