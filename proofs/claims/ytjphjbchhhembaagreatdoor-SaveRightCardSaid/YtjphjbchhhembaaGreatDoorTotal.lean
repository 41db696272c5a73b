/- The document's Total. -/
import Derived.Test.YtjphjbchhhembaaGreatDoorRight
namespace Go.Proofs.YtjphjbchhhembaaGreatDoor
open Go.RowKit

attribute [local go_sem ↓] Go.wp_at_zero Go.wp_at_succ

set_option maxHeartbeats 2000000 in
theorem refTotal_any (A R : Option Addr) (n c m d : Nat) (ls rs : List (List Int)) (w : World) (h : RdT w A n ls) (hs : Sq n ls) (hn0 : 0 < n) (hr : RdT w R m rs) (hsh : Short rs) (hm : m ≤ 4000000000000000000) :
    Calls Tryz.prog 10 #[.slice A n c, .slice R m d] w fun e w' => e = .returned (.int .i64 (totalR ls rs)) ∧ Below w.heap.size w w' := by
  have HK := Lib.hid (show ∀ V, Below w.heap.size w V → ∀ A' n' c' l, RdI V A' n' l → l.length ≤ 1000000000 → Calls Tryz.prog 32 #[.slice A n c, .slice A' n' c'] V fun e w' => e = .returned (.int .i64 (lenR ls l)) ∧ Below V.heap.size V w' from fun V hV A' n' c' l hl hll => refLength_any A A' n c n' c' ls l V (h.below hV) hs hn0 hl (by have := hl.1; omega))
  have HA := Lib.hid refAdd_any
  have HM := Lib.hid hr.1
  have HS := Lib.hid hsh
  clear h hs hsh
  go_enter Tryz.func10, Tryz.ntmps10
  go_wp2_with fail
  go_loopw [5, 6] (fun a i W => Below w.heap.size w W ∧ ∃ k : Nat, k ≤ m ∧ i = .int .i64 k ∧ a = .int .i64 (totalR ls (rs.take k))) (fun _ i _ => m - (intOf i).toNat)
  case atStart => exact ⟨Below.refl _ _, 0, Nat.zero_le _, rfl, by simp [totalR]⟩
  case round =>
    obtain ⟨hbl, k, hk, rfl, rfl⟩ := hrel
    by_cases hlt : k < m
    · obtain ⟨b, o, A', n', c', l, rfl, hl, hc, hr', _, _⟩ := hr.at_ hlt
      have hx := Lib.hid (totalR_next (ls := ls) hl)
      have hll := HS.out l (List.mem_of_getElem? hl)
      have hr2 := hr'.below hbl
      have j1 := Below.cellOf hbl (Nat.le_refl _) hc
      clear hl
      generalize totalR ls (rs.take k) = x at *
      go_wp2_with fail
      with_reducible refine (HK.out _ hbl _ _ _ _ hr2 hll).mono ?_
      rintro e w2 ⟨rfl, hb2⟩
      go_wp2_with fail
      with_reducible refine (HA.out _ _ _).mono ?_
      rintro e w3 ⟨rfl, rfl⟩
      go_wp2_with fail
      go_roundw
      case rel => exact ⟨(by repeat (first | exact Below.refl _ _ | assumption | apply Below.drew | apply below_drewN | apply Bel.alloc | (refine Bel.setCell_ ?_ ?_; rotate_left; omega) | (refine Bel.step ?_ (by assumption)))), k + 1, by omega, by go_num, by rw [hx.out]⟩
      case measure => simp [intOf]; omega
    · obtain rfl : k = m := by omega
      rw [List.take_of_length_le (by rw [HM.out]; exact Nat.le_refl _)]
      go_wp2_with fail
      go_ret
      exact ⟨rfl, (by repeat (first | exact Below.refl _ _ | assumption | apply Below.drew | apply below_drewN | apply Bel.alloc | (refine Bel.setCell_ ?_ ?_; rotate_left; omega) | (refine Bel.step ?_ (by assumption))))⟩

end Go.Proofs.YtjphjbchhhembaaGreatDoor
