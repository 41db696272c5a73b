/- Walks over points: Near, Key, ends, fresh. -/
import Derived.Test.YtjphjbchhhembaaA1
import Derived.Laws.CopyOwn
namespace Go.Proofs.Ytjphjbchhhembaa
open Go.RowKit

def near1 (p : Int × Int) : Bool := coordB p.1 && coordB p.2
def nearB (l : List (Int × Int)) : Bool := l.all near1 && decide (l.length ≤ 120)
theorem nearB_miss {l : List (Int × Int)} {k : Nat} {p : Int × Int} (h : l[k]? = some p) (hn : near1 p = false) : nearB l = false := by
  unfold nearB
  rw [Bool.and_eq_false_iff]
  left
  rw [List.all_eq_false]
  exact ⟨p, List.mem_of_getElem? h, by simp [hn]⟩
theorem nearB_all {l : List (Int × Int)} (h : ∀ j, j < l.length → ∀ p, l[j]? = some p → near1 p = true) : nearB l = decide (l.length ≤ 120) := by
  have : l.all near1 = true := List.all_eq_true.2 (fun p hp => by
    obtain ⟨j, hj, e⟩ := List.getElem_of_mem hp
    exact h j hj p (by rw [List.getElem?_eq_getElem hj, e]))
  simp [nearB, this]

set_option maxHeartbeats 400000 in
theorem near_any (A : Option Addr) (n c : Nat) (l : List (Int × Int)) (w : World) (h : RdP w A n l) (hn : n ≤ 4000000000000000000) :
    Calls Try.prog 7 #[.slice A n c] w fun e w' => e = .returned (.bool (nearB l)) ∧ w = w' := by
  go_enter Try.func7, Try.ntmps7
  go_wp2
  go_loop [3] (fun i => ∃ k : Nat, k ≤ n ∧ i = .int .i64 k ∧ (∀ j, j < k → ∀ p, l[j]? = some p → near1 p = true)) (fun i => n - (intOf i).toNat)
  case atStart => exact ⟨0, Nat.zero_le _, rfl, fun _ h => absurd h (by omega)⟩
  case round =>
    obtain ⟨k, hk, rfl, hj⟩ := hrel
    have HJ := Lib.hid hj; clear hj
    by_cases hlt : k < n
    · obtain ⟨b, o, x, y, rfl, hx, hc, hd⟩ := h.at_ hlt
      have HX := Lib.hid hx; clear hx
      cases hcx : coordB x
      · have HC := Lib.hid hcx
        go_wp2_with (go_at_call 16; refine (coord_any _ _).mono ?_; rintro e w' ⟨rfl, rfl⟩)
        go_ret
        exact ⟨ret_bool (nearB_miss HX.out (by simp [near1, HC.out])).symm, rfl⟩
      · cases hcy : coordB y
        · have HC := Lib.hid hcy
          go_wp2_with (go_at_call 16; refine (coord_any _ _).mono ?_; rintro e w' ⟨rfl, rfl⟩)
          go_ret
          exact ⟨ret_bool (nearB_miss HX.out (by simp [near1, HC.out])).symm, rfl⟩
        · have HC := Lib.hid hcx
          have HD := Lib.hid hcy
          go_wp2_with (go_at_call 16; refine (coord_any _ _).mono ?_; rintro e w' ⟨rfl, rfl⟩)
          go_round
          case rel => exact ⟨k + 1, by omega, by go_num, fun j hj p hp => by
            rcases Nat.lt_or_ge j k with h1 | h1
            · exact HJ.out j h1 p hp
            · obtain rfl : j = k := by omega
              rw [HX.out] at hp; cases hp; simp [near1, HC.out, HD.out]⟩
          case measure => simp [intOf]; omega
    · have hl : l.length = n := h.1
      have HL := Lib.hid hl; clear hl
      go_wp2
      go_ret
      exact ⟨ret_bool (by rw [nearB_all (fun j hj => HJ.out j (by rw [HL.out] at hj; omega)), HL.out]; simp; omega), rfl⟩

/-- Where a point stands in a direction. -/
def key (p : Int × Int) (d : Int) : Int := if d = 0 then p.1 else if d = 1 then p.2 else if d = 2 then p.1 + p.2 else if d = 3 then p.1 - p.2 else 0

theorem key_any (x y d : Int) (w : World) (hx : -1000000000000 ≤ x) (hx' : x ≤ 1000000000000) (hy : -1000000000000 ≤ y) (hy' : y ≤ 1000000000000) (hd : 0 ≤ d) (hd' : d ≤ 3) :
    Calls Try.prog 10 #[.agg #[.int .i64 x, .int .i64 y], .int .i64 d] w fun e w' => e = .returned (.int .i64 (key (x, y) d)) ∧ ∃ q, w' = (w.alloc (.cells #[.int .i64 x, .int .i64 y] 30)).drewN q := by
  rcases (show d = 0 ∨ d = 1 ∨ d = 2 ∨ d = 3 by omega) with rfl | rfl | rfl | rfl
  all_goals
    go_enter Try.func10, Try.ntmps10
    go_wp2
    go_quiet (fail)
    go_wp2
    go_ret
    exact ⟨ret_int (by simp [key] <;> omega), _, rfl⟩

def endsN (n : Nat) : Nat := if n < 2 then 0 else (n + 3) / 4
theorem ends_any (n : Nat) (w : World) (hn : n ≤ 4000000000000000000) :
    Calls Try.prog 20 #[.int .i64 n] w fun e w' => e = .returned (.int .i64 (endsN n)) ∧ w = w' := by
  by_cases h : n < 2
  all_goals
    go_enter Try.func20, Try.ntmps20
    go_wp2
    go_ret
    exact ⟨ret_int (by simp [endsN, h]), rfl⟩

theorem Try.info3 : (Try.prog.info? 3).map (fun i => (i.zero, i.size, i.bytes)) = some (some (.int .i64 0), 1, 8) := by kernel_rfl
end Go.Proofs.Ytjphjbchhhembaa
