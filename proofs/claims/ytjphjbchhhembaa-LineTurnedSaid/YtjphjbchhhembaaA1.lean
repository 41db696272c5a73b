/- First walks: small functions of roundsmanref6 that only read. -/
import Derived.Test.YtjphjbchhhembaaVoc
import Derived.Deep.QuietTactic
import Derived.BigQuiet
namespace Go.Proofs.Ytjphjbchhhembaa
open Go.RowKit

theorem ret_int {k : IntKind} {a b : Int} (h : a = b) : Ending.returned (.int k a) = .returned (.int k b) := by rw [h]
theorem ret_bool {a b : Bool} (h : a = b) : Ending.returned (.bool a) = .returned (.bool b) := by rw [h]

def coordB (x : Int) : Bool := decide (-1048576 ≤ x) && decide (x ≤ 1048576)
theorem coord_any (x : Int) (w : World) : Calls Try.prog 16 #[.int .i64 x] w fun e w' => e = .returned (.bool (coordB x)) ∧ w = w' := by
  by_cases h1 : -1048576 ≤ x
  all_goals
    go_enter Try.func16, Try.ntmps16
    go_wp2
    go_ret
    exact ⟨ret_bool (by simp [coordB]; omega), rfl⟩

def place (l : List Int) (a : Int) : Int := if l.idxOf a < l.length then l.idxOf a else -1
theorem idxOf_of {a : Int} : ∀ {l : List Int} {k : Nat}, (∀ j, j < k → l[j]? ≠ some a) → l[k]? = some a → l.idxOf a = k
  | [], k, _, hk => by simp at hk
  | x :: t, 0, _, hk => by simp at hk; simp [hk]
  | x :: t, k + 1, h, hk => by
    have h0 := h 0 (by omega)
    simp at h0
    rw [List.idxOf_cons, idxOf_of (l := t) (k := k) (fun j hj => by have := h (j + 1) (by omega); simpa using this) (by simpa using hk)]
    rw [beq_eq_false_iff_ne.2 h0]; rfl
theorem place_hit {l : List Int} {a : Int} {k : Nat} (h : ∀ j, j < k → l[j]? ≠ some a) (hk : l[k]? = some a) : place l a = k := by
  unfold place
  rw [idxOf_of h hk, if_pos (List.getElem?_eq_some_iff.1 hk).1]
theorem place_miss {l : List Int} {a : Int} (h : ∀ j, j < l.length → l[j]? ≠ some a) : place l a = -1 := by
  unfold place
  rw [if_neg]
  intro hl
  have hm := List.idxOf_lt_length_iff.1 hl
  obtain ⟨j, hj, e⟩ := List.getElem_of_mem hm
  exact h j hj (by rw [List.getElem?_eq_getElem hj, e])

set_option maxHeartbeats 400000 in
theorem place_any (A : Option Addr) (n c : Nat) (l : List Int) (a : Int) (w : World) (h : RdI w A n l) (hn : n ≤ 1000000000) :
    Calls Try.prog 9 #[.slice A n c, .int .i64 a] w fun e w' => e = .returned (.int .i64 (place l a)) ∧ w = w' := by
  go_enter Try.func9, Try.ntmps9
  go_wp2
  go_loop [5] (fun i => ∃ k : Nat, k ≤ n ∧ i = .int .i64 k ∧ ∀ j, j < k → l[j]? ≠ some a) (fun i => n - (intOf i).toNat)
  case atStart => exact ⟨0, Nat.zero_le _, rfl, fun _ h => absurd h (by omega)⟩
  case round =>
    obtain ⟨k, hk, rfl, hj⟩ := hrel
    have HJ := Lib.hid hj; clear hj
    by_cases hlt : k < n
    · obtain ⟨b, o, x, rfl, hx, hc⟩ := h.at_ hlt
      have HX := Lib.hid hx; clear hx
      by_cases hxa : x = a
      · subst hxa
        go_wp2
        go_ret
        exact ⟨ret_int (place_hit HJ.out HX.out).symm, rfl⟩
      · have hne : (x == a) = false := by simpa using hxa
        have HN := Lib.hid hxa; clear hxa
        go_wp2
        go_round
        case rel => exact ⟨k + 1, by omega, by go_num, fun j hj => by
          rcases Nat.lt_or_ge j k with h1 | h1
          · exact HJ.out j h1
          · obtain rfl : j = k := by omega
            rw [HX.out]; simpa using HN.out⟩
        case measure => simp [intOf]; omega
    · go_wp2
      go_ret
      exact ⟨ret_int (place_miss (fun j hj => HJ.out j (by have := h.1; omega))).symm, rfl⟩

theorem ne_of_at {l m : List Int} {k : Nat} {x y : Int} (hx : l[k]? = some x) (hy : m[k]? = some y) (h : x ≠ y) : (l == m) = false := by
  simp only [beq_eq_false_iff_ne]
  rintro rfl
  rw [hx] at hy; cases hy; exact h rfl

theorem eq_of_all {l m : List Int} (h : l.length = m.length) (ha : ∀ j, j < l.length → l[j]? = m[j]?) : l = m := by
  apply List.ext_getElem?
  intro j
  rcases Nat.lt_or_ge j l.length with h1 | h1
  · exact ha j h1
  · rw [List.getElem?_eq_none h1, List.getElem?_eq_none (by omega)]

set_option maxHeartbeats 400000 in
theorem sameInts_any (A B : Option Addr) (n m c d : Nat) (l r : List Int) (w : World) (h : RdI w A n l) (g : RdI w B m r) (hn : n ≤ 1000000000) :
    Calls Try.prog 11 #[.slice A n c, .slice B m d] w fun e w' => e = .returned (.bool (l == r)) ∧ ∃ q, w' = w.drewN q := by
  by_cases hnm : n = m
  · subst hnm
    go_enter Try.func11, Try.ntmps11
    go_wp2
    go_loopw [5] (fun i W => ∃ k : Nat, k ≤ n ∧ i = .int .i64 k ∧ (∀ j, j < k → l[j]? = r[j]?) ∧ ∃ q, W = w.drewN q) (fun i _ => n - (intOf i).toNat)
    case atStart => exact ⟨0, Nat.zero_le _, rfl, fun _ h => absurd h (by omega), 0, rfl⟩
    case round =>
      obtain ⟨k, hk, rfl, hj, q, rfl⟩ := hrel
      have HJ := Lib.hid hj; clear hj
      by_cases hlt : k < n
      · obtain ⟨b, o, x, rfl, hx, hc⟩ := h.at_ hlt
        obtain ⟨b', o', y, rfl, hy, hd⟩ := g.at_ hlt
        have HX := Lib.hid hx; clear hx
        have HY := Lib.hid hy; clear hy
        have i1 : (0 : Int) ≤ (k : Int) := by omega
        have i2 : (k : Int) < (n : Int) := by omega
        by_cases hxa : x = y
        · subst hxa
          go_wp2
          go_quiet (fail)
          go_wp2
          go_roundw
          case rel => exact ⟨k + 1, by omega, by go_num, (fun j hj => by
            rcases Nat.lt_or_ge j k with h1 | h1
            · exact HJ.out j h1
            · obtain rfl : j = k := by omega
              rw [HX.out, HY.out]), q + nq, by simp⟩
          case measure => simp [intOf]; omega
        · have hne : (x == y) = false := by simpa using hxa
          have hne2 : (x != y) = true := by simpa using hxa
          have HN := Lib.hid hxa; clear hxa
          go_wp2
          go_quiet (fail)
          go_wp2
          go_ret
          exact ⟨ret_bool (ne_of_at HX.out HY.out HN.out).symm, q + nq, by simp⟩
      · go_wp2
        go_ret
        exact ⟨ret_bool (by rw [eq_of_all (by rw [h.1, g.1]) (fun j hj => HJ.out j (by have := h.1; omega))]; simp), _, rfl⟩
  · have hne : ((n : Int) == (m : Int)) = false := by simp; omega
    have hne2 : ((n : Int) != (m : Int)) = true := by simp; omega
    have HN := Lib.hid hnm; clear hnm
    go_enter Try.func11, Try.ntmps11
    go_wp2
    go_ret
    exact ⟨ret_bool (by symm; simp only [beq_eq_false_iff_ne]; rintro rfl; exact HN.out (by rw [← h.1, ← g.1])), 0, rfl⟩
end Go.Proofs.Ytjphjbchhhembaa
