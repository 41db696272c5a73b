/- Stops in a row: where they are, their table; plain. -/
import Derived.Test.YtjphjbchhhembaaDoorPlB
namespace Go.Proofs.YtjphjbchhhembaaDoor
open Go.RowKit

/-- How far the k-th stop is. -/
def posn (us : List Int) : Nat → Int
  | 0 => 0
  | k + 1 => posn us k + 1 + us.getD k 0
def ptsTo (us : List Int) (k : Nat) : List Int := (List.range k).map (posn us)
def rowTo (us : List Int) (i m : Nat) : List Int := (List.range m).map (fun j => max (posn us i) (posn us j) - min (posn us i) (posn us j))
def tabTo (us : List Int) (N k : Nat) : List (List Int) := (List.range k).map (fun i => rowTo us i N)
theorem ptsTo_next (us : List Int) (k : Nat) : ptsTo us (k + 1) = ptsTo us k ++ [posn us k] := by unfold ptsTo; rw [List.range_succ]; simp
theorem rowTo_next (us : List Int) (i m : Nat) : rowTo us i (m + 1) = rowTo us i m ++ [max (posn us i) (posn us m) - min (posn us i) (posn us m)] := by unfold rowTo; rw [List.range_succ]; simp
theorem tabTo_next (us : List Int) (N k : Nat) : tabTo us N (k + 1) = tabTo us N k ++ [rowTo us k N] := by unfold tabTo; rw [List.range_succ]; simp
theorem ptsTo_get {us : List Int} {k i : Nat} (h : i < k) : (ptsTo us k)[i]? = some (posn us i) := by unfold ptsTo; simp [h]
theorem tabTo_len (us : List Int) (N : Nat) : (tabTo us N N).length = N := by simp [tabTo]
theorem tabTo_step {us : List Int} {N i j : Nat} (hi : i < N) (hj : j < N) : stepC (tabTo us N N) i j = max (posn us i) (posn us j) - min (posn us i) (posn us j) := by
  have h1 : (tabTo us N N)[i]? = some (rowTo us i N) := by unfold tabTo; simp [hi]
  have h2 : (rowTo us i N)[j]? = some (max (posn us i) (posn us j) - min (posn us i) (posn us j)) := by unfold rowTo; simp [hj]
  exact stepC_eq h1 h2
theorem tab_lineT (us : List Int) (n : Nat) : LineT n (posn us) (tabTo us (n + 1) (n + 1)) := ⟨tabTo_len us (n + 1), fun _ _ hi hj => tabTo_step hi hj⟩
def Small (us : List Int) : Prop := ∀ u ∈ us, 0 ≤ u ∧ u ≤ 65535
theorem small_at {us : List Int} (h : Small us) (k : Nat) : 0 ≤ us.getD k 0 ∧ us.getD k 0 ≤ 65535 := by
  rw [List.getD_eq_getElem?_getD]
  cases e : us[k]? with
  | none => simp
  | some u => exact h u (List.mem_of_getElem? e)
theorem posn_bd {us : List Int} (h : Small us) : ∀ k : Nat, 0 ≤ posn us k ∧ posn us k ≤ k * 65536
  | 0 => by simp [posn]
  | k + 1 => by
    have h1 := posn_bd h k
    have h2 := small_at h k
    unfold posn
    omega
theorem posn_lt {us : List Int} (h : Small us) : ∀ (i j : Nat), i < j → posn us i < posn us j
  | i, 0, hij => by omega
  | i, j + 1, hij => by
    have h2 := small_at h j
    have h3 : posn us i ≤ posn us j := by
      rcases Nat.lt_or_eq_of_le (show i ≤ j by omega) with h4 | h4
      · have := posn_lt h i j h4; omega
      · rw [h4]; exact Int.le_refl _
    show posn us i < posn us j + 1 + us.getD j 0
    omega
theorem tab_sq {us : List Int} (h : Small us) {N : Nat} (hN : N ≤ 1000) : sqB N (tabTo us N N) = true := by
  refine sqB_all (tabTo_len us N) (fun i l hl => ?_)
  unfold tabTo at hl
  rw [List.getElem?_map] at hl
  cases hi : (List.range N)[i]? with
  | none => rw [hi] at hl; cases hl
  | some a =>
    rw [hi] at hl
    cases hl
    have ha : a < N := List.mem_range.1 (List.mem_of_getElem? hi)
    refine rowB_all (by simp [rowTo]) (fun j x hx => ?_)
    unfold rowTo at hx
    rw [List.getElem?_map] at hx
    cases hj : (List.range N)[j]? with
    | none => rw [hj] at hx; cases hx
    | some b =>
      rw [hj] at hx
      cases hx
      have hb : b < N := List.mem_range.1 (List.mem_of_getElem? hj)
      have p1 := posn_bd h a
      have p2 := posn_bd h b
      simp only
      omega

/-- Each stop's own trip, in a row. -/
theorem line_fits {n : Nat} {p : Nat → Int} {ls : List (List Int)} {st : List (Int × Int)} (hst : st.length = n) (hld : ∀ q ∈ st, q.2 = 1) (hT : LineT n p ls) (h0 : p 0 = 0) (hp : ∀ i j, i < j → j ≤ n → p i < p j) (hb : 2 * p n < INF) : FitsP 100 INF ls st := fun i q hq => by
  have hi := (List.getElem?_eq_some_iff.1 hq).1
  have h1 := hld q (List.mem_of_getElem? hq)
  have k1 := hp 0 (i + 1) (by omega) (by omega)
  have k3 : p (i + 1) ≤ p n := by
    rcases Nat.lt_or_eq_of_le (show i + 1 ≤ n by omega) with h5 | h5
    · have := hp _ _ h5 (Nat.le_refl _); omega
    · rw [h5]; exact Int.le_refl _
  rw [hT.2 _ _ (by omega) (by omega), hT.2 _ _ (by omega) (by omega), h0]
  rw [h0] at k1
  unfold INF at *
  rw [add2_eq (by omega) (by unfold INF; omega) (by omega) (by unfold INF; omega)]
  unfold INF
  omega
end Go.Proofs.YtjphjbchhhembaaDoor
