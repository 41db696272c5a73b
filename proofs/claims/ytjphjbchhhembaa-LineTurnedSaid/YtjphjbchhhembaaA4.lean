/- cmp.Compare[int], line.Order's closure. -/
import Derived.Test.YtjphjbchhhembaaA3
namespace Go.Proofs.Ytjphjbchhhembaa
open Go.RowKit

def cmpI (a b : Int) : Int := if a < b then -1 else if b < a then 1 else 0
theorem isNaN_any (a : Int) (w : World) : Calls Try.prog 24 #[.int .i64 a] w fun e w' => e = .returned (.bool false) ∧ w = w' := by
  go_enter Try.func24, Try.ntmps24
  go_wp2
  go_ret
  exact ⟨ret_bool (by simp), rfl⟩
theorem compare_any (a b : Int) (w : World) : Calls Try.prog 19 #[.int .i64 a, .int .i64 b] w fun e w' => e = .returned (.int .i64 (cmpI a b)) ∧ w = w' := by
  by_cases h1 : a < b
  · go_enter Try.func19, Try.ntmps19
    go_wp2_with (go_at_call 24; (with_reducible refine (isNaN_any _ _).mono ?_); rintro e w' ⟨rfl, rfl⟩)
    go_ret
    exact ⟨ret_int (by simp [cmpI, h1]), rfl⟩
  · by_cases h2 : b < a
    all_goals
      go_enter Try.func19, Try.ntmps19
      go_wp2_with (go_at_call 24; (with_reducible refine (isNaN_any _ _).mono ?_); rintro e w' ⟨rfl, rfl⟩)
      go_ret
      exact ⟨ret_int (by unfold cmpI; rw [if_neg (by omega)]; first | rw [if_pos h2] | rw [if_neg (by omega)]), rfl⟩

/-- The closure of line.Order: by the keys, then by the places. -/
def cmpK (ks : List Int) (a b : Int) : Int :=
  if cmpI (ks.getD a.toNat 0) (ks.getD b.toNat 0) = 0 then cmpI a b else cmpI (ks.getD a.toNat 0) (ks.getD b.toNat 0)

theorem cmpI_neg (a b : Int) : cmpI a b < 0 ↔ a < b := by
  unfold cmpI
  split
  · simp [*]
  · split <;> omega
theorem cmpI_zero (a b : Int) : cmpI a b = 0 ↔ a = b := by
  unfold cmpI
  split
  · constructor <;> intro <;> omega
  · split <;> constructor <;> intro <;> omega
theorem cmpK_neg (ks : List Int) (a b : Int) : cmpK ks a b < 0 ↔ ks.getD a.toNat 0 < ks.getD b.toNat 0 ∨ (ks.getD a.toNat 0 = ks.getD b.toNat 0 ∧ a < b) := by
  unfold cmpK
  by_cases h : cmpI (ks.getD a.toNat 0) (ks.getD b.toNat 0) = 0
  · rw [if_pos h, cmpI_neg]
    rw [cmpI_zero] at h
    omega
  · rw [if_neg h, cmpI_neg]
    rw [cmpI_zero] at h
    omega

theorem quiet_left {P : Program} {f : FuncId} {args : Array Value} {w : World} {n : Nat} {v : Value}
    (h : Calls P f args (w.drewN n) fun e w' => e = .returned v ∧ w.drewN n = w') : Calls P f args (w.drewN n) fun e w' => e = .returned v ∧ ∃ m, w' = w.drewN m :=
  h.mono fun _ _ ⟨he, hm⟩ => ⟨he, n, hm.symm⟩

set_option maxHeartbeats 400000 in
theorem order1_any (g ga n c : Nat) (ks : List Int) (a b : Nat) (ha : a < n) (hb : b < n) (hl : ks.length = n) (w : World)
    (hc : w.cell? ⟨g, 0, none⟩ = some (.slice (some ⟨ga, 0, none⟩) n c)) (hr : RdI w (some ⟨ga, 0, none⟩) n ks) :
    Calls Try.prog 18 #[.int .i64 a, .int .i64 b, .pointer (some ⟨g, 0, none⟩)] w fun e w' => e = .returned (.int .i64 (cmpK ks a b)) ∧ ∃ q, w' = w.drewN q := by
  obtain ⟨_, _, x, e1, hx, hcx⟩ := hr.at_ ha
  cases e1
  obtain ⟨_, _, y, e2, hy, hcy⟩ := hr.at_ hb
  cases e2
  rw [Nat.zero_add] at hcx hcy
  have hk : cmpK ks a b = if cmpI x y = 0 then cmpI a b else cmpI x y := by
    unfold cmpK
    simp only [Int.toNat_natCast, List.getD_eq_getElem?_getD, hx, hy, Option.getD_some]
  have HK := Lib.hid hk
  clear hk hx hy hr
  have i1 : (0 : Int) ≤ (a : Int) := by omega
  have i2 : (a : Int) < (n : Int) := by omega
  have i3 : (0 : Int) ≤ (b : Int) := by omega
  have i4 : (b : Int) < (n : Int) := by omega
  obtain ⟨r, hr⟩ : ∃ r, r = cmpI x y := ⟨_, rfl⟩
  obtain ⟨r2, hr2⟩ : ∃ r, r = cmpI (a : Int) (b : Int) := ⟨_, rfl⟩
  have hC : ∀ W, Calls Try.prog 19 #[.int .i64 x, .int .i64 y] W fun e w' => e = .returned (.int .i64 r) ∧ W = w' := fun W => by rw [hr]; exact compare_any x y W
  have hD : ∀ W, Calls Try.prog 19 #[.int .i64 a, .int .i64 b] W fun e w' => e = .returned (.int .i64 r2) ∧ W = w' := fun W => by rw [hr2]; exact compare_any a b W
  have HC := Lib.hid hC; clear hC
  have HD := Lib.hid hD; clear hD
  rw [← hr, ← hr2] at HK
  clear hr hr2
  by_cases h0 : r = 0
  · have hz : (r != 0) = false := by simp [h0]
    have HZ := Lib.hid h0; clear h0
    go_enter Try.func18, Try.ntmps18
    go_wp2
    go_quiet ((go_at_call 19; exact quiet_left (HC.out _)))
    go_wp2_with (go_at_call 19; (with_reducible refine (HD.out _).mono ?_); rintro e w' ⟨rfl, rfl⟩)
    go_ret
    exact ⟨ret_int (by rw [HK.out, if_pos HZ.out]), _, rfl⟩
  · have hz : (r != 0) = true := by simp [h0]
    have HZ := Lib.hid h0; clear h0
    go_enter Try.func18, Try.ntmps18
    go_wp2
    go_quiet ((go_at_call 19; exact quiet_left (HC.out _)))
    go_wp2
    go_ret
    exact ⟨ret_int (by rw [HK.out, if_neg HZ.out]), _, rfl⟩
end Go.Proofs.Ytjphjbchhhembaa
