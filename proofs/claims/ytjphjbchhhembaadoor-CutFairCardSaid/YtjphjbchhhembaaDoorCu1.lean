/- The small functions of cut and of the document's chapter 11: marks, Cross, off, uneven, few, SameBools. -/
import Derived.Test.YtjphjbchhhembaaDoorCuQ
namespace Go.Proofs.YtjphjbchhhembaaDoor
open Go.RowKit

attribute [local go_sem ↓] Go.wp_at_zero Go.wp_at_succ

theorem sideF_neg {b : List Bool} {v : Int} (h : v < 0) : sideF b v = false := by unfold sideF; simp; omega
theorem sideF_far {b : List Bool} {v : Int} (h : (b.length : Int) ≤ v) : sideF b v = false := by
  unfold sideF
  rw [List.getD_eq_getElem?_getD, List.getElem?_eq_none (by omega)]
  simp
theorem sideF_at {b : List Bool} {v : Nat} {x : Bool} (h : b[v]? = some x) : sideF b (v : Int) = x := by
  rw [sideF_nat, List.getD_eq_getElem?_getD, h]; rfl

theorem marks_any (A : Option Addr) (n c : Nat) (b : List Bool) (v : Int) (w : World) (h : RdB w A n b) :
    Calls Tryd.prog 48 #[.slice A n c, .int .i64 v] w fun e w' => e = .returned (.bool (sideF b v)) ∧ w = w' := by
  have hl := h.1
  by_cases h0 : v < 0
  · have h1 : ¬ (0 ≤ v) := by omega
    have HS := Lib.hid (sideF_neg (b := b) h0)
    clear hl
    go_enter Tryd.func48, Tryd.ntmps48
    go_wp2
    go_ret
    exact ⟨ret_bool HS.out.symm, rfl⟩
  · obtain ⟨k, rfl⟩ : ∃ k : Nat, v = k := ⟨v.toNat, by omega⟩
    by_cases h1 : k < n
    · obtain ⟨g, o, x, rfl, hx, hc⟩ := h.at_ h1
      have HS := Lib.hid (sideF_at hx)
      have i1 : (0 : Int) ≤ (k : Int) := by omega
      have i2 : (k : Int) < (n : Int) := by omega
      clear hx hl h0
      go_enter Tryd.func48, Tryd.ntmps48
      go_wp2
      go_ret
      exact ⟨ret_bool HS.out.symm, rfl⟩
    · have HS := Lib.hid (sideF_far (b := b) (v := (k : Int)) (by omega))
      have i1 : (0 : Int) ≤ (k : Int) := by omega
      have i2 : ¬ (k : Int) < (n : Int) := by omega
      clear hl h0
      go_enter Tryd.func48, Tryd.ntmps48
      go_wp2
      go_ret
      exact ⟨ret_bool HS.out.symm, rfl⟩

theorem marked_any (A : Option Addr) (n c : Nat) (b : List Bool) (v : Int) (w : World) (h : RdB w A n b) :
    Calls Tryd.prog 51 #[.slice A n c, .int .i64 v] w fun e w' => e = .returned (.bool (sideF b v)) ∧ w = w' := by
  have hl := h.1
  by_cases h0 : v < 0
  · have h1 : ¬ (0 ≤ v) := by omega
    have HS := Lib.hid (sideF_neg (b := b) h0)
    clear hl
    go_enter Tryd.func51, Tryd.ntmps51
    go_wp2
    go_ret
    exact ⟨ret_bool HS.out.symm, rfl⟩
  · obtain ⟨k, rfl⟩ : ∃ k : Nat, v = k := ⟨v.toNat, by omega⟩
    by_cases h1 : k < n
    · obtain ⟨g, o, x, rfl, hx, hc⟩ := h.at_ h1
      have HS := Lib.hid (sideF_at hx)
      have i1 : (0 : Int) ≤ (k : Int) := by omega
      have i2 : (k : Int) < (n : Int) := by omega
      clear hx hl h0
      go_enter Tryd.func51, Tryd.ntmps51
      go_wp2
      go_ret
      exact ⟨ret_bool HS.out.symm, rfl⟩
    · have HS := Lib.hid (sideF_far (b := b) (v := (k : Int)) (by omega))
      have i1 : (0 : Int) ≤ (k : Int) := by omega
      have i2 : ¬ (k : Int) < (n : Int) := by omega
      clear hl h0
      go_enter Tryd.func51, Tryd.ntmps51
      go_wp2
      go_ret
      exact ⟨ret_bool HS.out.symm, rfl⟩

theorem cr_take {b : List Bool} {E : List Edg} {k : Nat} {x y : Int} (h : E[k]? = some (x, y)) : cr b (E.take (k + 1)) = cr b (E.take k) + if sideF b x = sideF b y then 0 else 1 := by
  unfold cr
  rw [List.take_succ_eq_append_getElem (List.getElem?_eq_some_iff.1 h).1, (List.getElem?_eq_some_iff.1 h).2, crossN_app, cross_one]
theorem cr_le (b : List Bool) (E : List Edg) (k : Nat) : cr b (E.take k) ≤ k := Nat.le_trans (crossN_le _ _) (List.length_take_le _ _)

set_option maxHeartbeats 1000000 in
set_option maxRecDepth 100000 in
theorem cutCross_any (A AE : Option Addr) (n c m ce : Nat) (b : List Bool) (E : List Edg) (w : World) (h : RdB w A n b) (hE : RdP w AE m E) (hm : m ≤ 1000000000) :
    Calls Tryd.prog 22 #[.slice A n c, .slice AE m ce] w fun e w' => e = .returned (.int .i64 (cr b E)) ∧ Below w.heap.size w w' := by
  have HL := Lib.hid hE.1
  go_enter Tryd.func22, Tryd.ntmps22
  go_wp2
  go_loopw [5, 10] (fun t i W => Below w.heap.size w W ∧ ∃ k : Nat, k ≤ m ∧ i = .int .i64 k ∧ t = .int .i64 (cr b (E.take k))) (fun _ i _ => m - (intOf i).toNat)
  case atStart => exact ⟨Below.refl _ _, 0, Nat.zero_le _, rfl, by simp [cr, crossN]⟩
  case round =>
    obtain ⟨hbl, k, hk, rfl, rfl⟩ := hrel
    have hle := cr_le b E k
    by_cases hlt : k < m
    · obtain ⟨g, o, x, y, rfl, hx, cx, cy⟩ := hE.at_ hlt
      have HT := Lib.hid (cr_take (b := b) hx)
      have j1 := Below.cellOf hbl (Nat.le_refl _) cx
      have j2 := Below.cellOf hbl (Nat.le_refl _) cy
      have i1 : (0 : Int) ≤ (k : Int) := by omega
      have i2 : (k : Int) < (m : Int) := by omega
      obtain ⟨W2, hW2⟩ : ∃ W2, W2 = wr.alloc (.cells #[.int .i64 x, .int .i64 y] 62) := ⟨_, rfl⟩
      have hbox : Blk W2 wr.heap.size 62 #[.int .i64 x, .int .i64 y] := by rw [hW2]; exact Blk.new _ _ _
      have hbl2 : Below w.heap.size w W2 := by rw [hW2]; exact (by repeat (first | exact Below.refl _ _ | assumption | apply Below.drew | apply below_drewN | apply Bel.alloc | (refine Bel.setCell_ ?_ ?_; rotate_left; omega) | (refine Bel.step ?_ (by assumption))))
      have hr2 := h.below hbl2
      have HM := Lib.hid (show ∀ v q, Calls Tryd.prog 48 #[.slice A n c, .int .i64 v] (W2.drewN q) fun e w' => e = .returned (.bool (sideF b v)) ∧ W2.drewN q = w' from fun v q => marks_any A n c b v _ hr2)
      have v1 := hbox.two.1
      have v2 := hbox.two.2.1
      clear hx cx cy hr2 hbox
      generalize cr b (E.take k) = t at *
      go_wp2_with fail
      rw [← hW2]
      clear hW2
      go_quiet ((go_at_call 48; exact quiet_left (HM.out _ _)))
      go_wp2
      · have ht : (sideF b x != sideF b y) = true := by assumption
        go_roundw
        case rel => exact ⟨(by repeat (first | exact Below.refl _ _ | assumption | apply Below.drew | apply below_drewN | apply Bel.alloc | (refine Bel.setCell_ ?_ ?_; rotate_left; omega) | (refine Bel.step ?_ (by assumption)))), k + 1, by omega, by go_num, by rw [HT.out, if_neg (by simpa using ht)]; go_num⟩
        case measure => simp [intOf]; omega
      · have ht : (sideF b x != sideF b y) = false := by first | assumption | (simp; assumption)
        go_roundw
        case rel => exact ⟨(by repeat (first | exact Below.refl _ _ | assumption | apply Below.drew | apply below_drewN | apply Bel.alloc | (refine Bel.setCell_ ?_ ?_; rotate_left; omega) | (refine Bel.step ?_ (by assumption)))), k + 1, by omega, by go_num, by rw [HT.out, if_pos (by simpa using ht)]; rfl⟩
        case measure => simp [intOf]; omega
    · obtain rfl : k = m := by omega
      have ht : E.take k = E := List.take_of_length_le (by rw [HL.out]; exact Nat.le_refl _)
      rw [ht]
      clear ht
      go_wp2
      go_ret
      exact ⟨rfl, hbl⟩

theorem few_any (A B : Option Addr) (n c m d : Nat) (w : World) : Calls Tryd.prog 14 #[.slice A n c, .slice B m d] w fun e w' => e = .returned (.bool (decide (n ≤ 24) && decide (m ≤ 80))) ∧ w = w' := by
  by_cases h1 : n ≤ 24
  · go_enter Tryd.func14, Tryd.ntmps14
    go_wp2
    go_ret
    exact ⟨ret_bool (by simp [h1]; omega), rfl⟩
  · go_enter Tryd.func14, Tryd.ntmps14
    go_wp2
    go_ret
    exact ⟨rfl, rfl⟩

def half2 (b : List Bool) (k n : Nat) : Int := 2 * (cnt (b.take k) : Int) - n
theorem half2_take {b : List Bool} {k n : Nat} {x : Bool} (h : b[k]? = some x) : half2 b (k + 1) n = half2 b k n + if x then 2 else 0 := by
  unfold half2
  rw [cnt_take h]
  cases x <;> simp <;> omega
theorem half2_bd (b : List Bool) (k n : Nat) (hk : k ≤ n) : -(n : Int) ≤ half2 b k n ∧ half2 b k n ≤ n := by
  have := cnt_le b k
  unfold half2
  omega
theorem offB_half {b : List Bool} {n : Nat} (h : b.length = n) : offB b = max (half2 b n n) (-half2 b n n) := by
  unfold offB half2
  rw [h, List.take_of_length_le (by omega)]
theorem off_any (A : Option Addr) (n c : Nat) (b : List Bool) (w : World) (h : RdB w A n b) (hn : n ≤ 1000000000) :
    Calls Tryd.prog 46 #[.slice A n c] w fun e w' => e = .returned (.int .i64 (offB b)) ∧ w = w' := by
  have HO := Lib.hid (offB_half h.1)
  go_enter Tryd.func46, Tryd.ntmps46
  go_wp2
  go_loop [3, 11] (fun t i => ∃ k : Nat, k ≤ n ∧ i = .int .i64 k ∧ t = .int .i64 (half2 b k n)) (fun _ i => n - (intOf i).toNat)
  case atStart => exact ⟨0, Nat.zero_le _, rfl, by simp [half2, cnt]⟩
  case round =>
    obtain ⟨k, hk, rfl, rfl⟩ := hrel
    have hbd := half2_bd b k n hk
    by_cases hlt : k < n
    · obtain ⟨g, o, x, rfl, hx, hc⟩ := h.at_ hlt
      have HS := Lib.hid (half2_take (n := n) hx)
      have i1 : (0 : Int) ≤ (k : Int) := by omega
      have i2 : (k : Int) < (n : Int) := by omega
      clear hx
      generalize half2 b k n = t at *
      cases x
      all_goals
        go_wp2
        go_round
        case rel => exact ⟨k + 1, by omega, by go_num, by first | (rw [HS.out]; done) | (rw [HS.out]; rfl) | (rw [HS.out]; simp; done) | (rw [HS.out]; go_num)⟩
        case measure => simp [intOf]; omega
    · obtain rfl : k = n := by omega
      generalize half2 b k k = t at *
      go_wp2
      all_goals
        go_ret
        exact ⟨ret_int (by first | (rw [HO.out]; done) | (rw [HO.out]; omega)), rfl⟩

theorem uneven_any (A : Option Addr) (n c : Nat) (b : List Bool) (w : World) (h : RdB w A n b) (hn : n ≤ 1000000000) :
    Calls Tryd.prog 18 #[.slice A n c] w fun e w' => e = .returned (.int .i64 (offB b)) ∧ w = w' := by
  have HO := Lib.hid (offB_half h.1)
  go_enter Tryd.func18, Tryd.ntmps18
  go_wp2
  go_loop [3, 4] (fun t i => ∃ k : Nat, k ≤ n ∧ i = .int .i64 k ∧ t = .int .i64 (half2 b k n)) (fun _ i => n - (intOf i).toNat)
  case atStart => exact ⟨0, Nat.zero_le _, rfl, by simp [half2, cnt]⟩
  case round =>
    obtain ⟨k, hk, rfl, rfl⟩ := hrel
    have hbd := half2_bd b k n hk
    by_cases hlt : k < n
    · obtain ⟨g, o, x, rfl, hx, hc⟩ := h.at_ hlt
      have HS := Lib.hid (half2_take (n := n) hx)
      have i1 : (0 : Int) ≤ (k : Int) := by omega
      have i2 : (k : Int) < (n : Int) := by omega
      clear hx
      generalize half2 b k n = t at *
      cases x
      all_goals
        go_wp2
        go_round
        case rel => exact ⟨k + 1, by omega, by go_num, by first | (rw [HS.out]; done) | (rw [HS.out]; rfl) | (rw [HS.out]; simp; done) | (rw [HS.out]; go_num)⟩
        case measure => simp [intOf]; omega
    · obtain rfl : k = n := by omega
      generalize half2 b k k = t at *
      go_wp2
      all_goals
        go_ret
        exact ⟨ret_int (by first | (rw [HO.out]; done) | (rw [HO.out]; omega)), rfl⟩

set_option maxHeartbeats 400000 in
theorem sameBools_any (A B : Option Addr) (n m c d : Nat) (l k0 : List Bool) (w : World) (h : RdB w A n l) (g : RdB w B m k0) (hn : n ≤ 1000000000) (he : l = k0) :
    Calls Tryd.prog 19 #[.slice A n c, .slice B m d] w fun e w' => e = .returned (.bool true) ∧ ∃ q, w' = w.drewN q := by
  subst he
  obtain rfl : n = m := by rw [← h.1, ← g.1]
  go_enter Tryd.func19, Tryd.ntmps19
  go_wp2
  go_loopw [5] (fun i W => ∃ k : Nat, k ≤ n ∧ i = .int .i64 k ∧ ∃ q, W = w.drewN q) (fun i _ => n - (intOf i).toNat)
  case atStart => exact ⟨0, Nat.zero_le _, rfl, 0, rfl⟩
  case round =>
    obtain ⟨k, hk, rfl, q, rfl⟩ := hrel
    by_cases hlt : k < n
    · obtain ⟨b, o, x, rfl, hx, hc⟩ := h.at_ hlt
      obtain ⟨b', o', y, rfl, hy, hd⟩ := g.at_ hlt
      obtain rfl : x = y := by rw [hx] at hy; exact Option.some.inj hy
      have i1 : (0 : Int) ≤ (k : Int) := by omega
      have i2 : (k : Int) < (n : Int) := by omega
      clear hx hy
      cases x
      all_goals
        go_wp2
        go_quiet (fail)
        go_wp2
        go_roundw
        case rel => exact ⟨k + 1, by omega, by go_num, q + nq, by simp⟩
        case measure => simp [intOf]; omega
    · go_wp2
      go_ret
      exact ⟨rfl, _, rfl⟩
end Go.Proofs.YtjphjbchhhembaaDoor
