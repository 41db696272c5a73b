/- The law's own conditions: CheckJob, Fits of roundsmanref28, Few, Some, Fit. -/
import Derived.Test.YtjphjbchhhembaaGreatDoorRefSq
import Derived.Test.YtjphjbchhhembaaGreatDoorRef
namespace Go.Proofs.YtjphjbchhhembaaGreatDoor
open Go.RowKit

attribute [local go_sem ↓] Go.wp_at_zero Go.wp_at_succ

set_option maxHeartbeats 4000000 in
/-- CheckJob of roundsmanref28: OK of loads that may be alone. -/
theorem refCheckJob_any (N dep cap lim : Int) (A : Option Addr) (n c : Nat) (st : List (Int × Int)) (w : World) (h : RdP w A n st) (hn : n ≤ 1000000000) :
    Calls Tryz.prog 43 #[.int .i64 N, jobV dep cap lim A n c] w fun e w' => ∃ ok v, e = .returned v ∧ WOk ok v ∧ (ok = true → LdOk st) ∧ Below w.heap.size w w' := by
  by_cases g1 : dep < 0
  ·
    go_enter Tryz.func43, Tryz.ntmps43
    go_wp2_with fail
    (refine calls_named ?_; intro w5 hw5)
    have hB5 : Blk w5 (w.heap.size + 1) 55 #[.slice none 0 0, .int .i64 0] := by rw [hw5]; exact (by repeat (first | assumption | (refine Blk.new' _ _ _ ?_; first | with_unfolding_all rfl | (simp; done)) | apply Blk.drewN | apply Blk.drew | apply Blk.alloc | (refine Blk.far_ ?_ ?_ _; rotate_left; omega)))
    have hb5 : Below w.heap.size w w5 := by rw [hw5]; exact (by repeat (first | exact Below.refl _ _ | assumption | apply Below.drew | apply below_drewN | apply Bel.alloc | (refine Bel.setCell_ ?_ ?_; rotate_left; omega) | (refine Bel.step ?_ (by assumption))))
    clear hw5
    with_reducible refine (refAt_any _ _ _ _).mono ?_
    rintro e w2 ⟨v, rfl, ⟨A4, n4, m4, rfl, h4, h5⟩, hb⟩
    have hB2 := Blk.below hB5 hb hB5.lt
    obtain ⟨c0, c1, f0, f1⟩ := hB2.two
    have hb2 : Below w.heap.size w w2 := Bel.step hb5 hb
    go_wp2_with fail
    refine bodyPost_ret (v := .agg #[.slice A4 n4 m4, .int .i64 5]) (by simp [results, Tryz.results43, go_sem, c0, c1]) rfl ?_
    exact ⟨false, _, rfl, ⟨_, _, _, _, rfl, by simp⟩, (fun h => by cases h), (by repeat (first | exact Below.refl _ _ | assumption | apply Below.drew | apply below_drewN | apply Bel.alloc | (refine Bel.setCell_ ?_ ?_; rotate_left; omega) | (refine Bel.step ?_ (by assumption))))⟩
  by_cases g2 : dep ≥ N
  ·
    go_enter Tryz.func43, Tryz.ntmps43
    go_wp2_with fail
    (refine calls_named ?_; intro w5 hw5)
    have hB5 : Blk w5 (w.heap.size + 1) 55 #[.slice none 0 0, .int .i64 0] := by rw [hw5]; exact (by repeat (first | assumption | (refine Blk.new' _ _ _ ?_; first | with_unfolding_all rfl | (simp; done)) | apply Blk.drewN | apply Blk.drew | apply Blk.alloc | (refine Blk.far_ ?_ ?_ _; rotate_left; omega)))
    have hb5 : Below w.heap.size w w5 := by rw [hw5]; exact (by repeat (first | exact Below.refl _ _ | assumption | apply Below.drew | apply below_drewN | apply Bel.alloc | (refine Bel.setCell_ ?_ ?_; rotate_left; omega) | (refine Bel.step ?_ (by assumption))))
    clear hw5
    with_reducible refine (refAt_any _ _ _ _).mono ?_
    rintro e w2 ⟨v, rfl, ⟨A4, n4, m4, rfl, h4, h5⟩, hb⟩
    have hB2 := Blk.below hB5 hb hB5.lt
    obtain ⟨c0, c1, f0, f1⟩ := hB2.two
    have hb2 : Below w.heap.size w w2 := Bel.step hb5 hb
    go_wp2_with fail
    refine bodyPost_ret (v := .agg #[.slice A4 n4 m4, .int .i64 5]) (by simp [results, Tryz.results43, go_sem, c0, c1]) rfl ?_
    exact ⟨false, _, rfl, ⟨_, _, _, _, rfl, by simp⟩, (fun h => by cases h), (by repeat (first | exact Below.refl _ _ | assumption | apply Below.drew | apply below_drewN | apply Bel.alloc | (refine Bel.setCell_ ?_ ?_; rotate_left; omega) | (refine Bel.step ?_ (by assumption))))⟩
  by_cases g3 : cap < 0
  ·
    go_enter Tryz.func43, Tryz.ntmps43
    go_wp2_with fail
    (refine calls_named ?_; intro w5 hw5)
    have hB5 : Blk w5 (w.heap.size + 1) 55 #[.slice none 0 0, .int .i64 0] := by rw [hw5]; exact (by repeat (first | assumption | (refine Blk.new' _ _ _ ?_; first | with_unfolding_all rfl | (simp; done)) | apply Blk.drewN | apply Blk.drew | apply Blk.alloc | (refine Blk.far_ ?_ ?_ _; rotate_left; omega)))
    have hb5 : Below w.heap.size w w5 := by rw [hw5]; exact (by repeat (first | exact Below.refl _ _ | assumption | apply Below.drew | apply below_drewN | apply Bel.alloc | (refine Bel.setCell_ ?_ ?_; rotate_left; omega) | (refine Bel.step ?_ (by assumption))))
    clear hw5
    with_reducible refine (refAt_any _ _ _ _).mono ?_
    rintro e w2 ⟨v, rfl, ⟨A4, n4, m4, rfl, h4, h5⟩, hb⟩
    have hB2 := Blk.below hB5 hb hB5.lt
    obtain ⟨c0, c1, f0, f1⟩ := hB2.two
    have hb2 : Below w.heap.size w w2 := Bel.step hb5 hb
    go_wp2_with fail
    refine bodyPost_ret (v := .agg #[.slice A4 n4 m4, .int .i64 1]) (by simp [results, Tryz.results43, go_sem, c0, c1]) rfl ?_
    exact ⟨false, _, rfl, ⟨_, _, _, _, rfl, by simp⟩, (fun h => by cases h), (by repeat (first | exact Below.refl _ _ | assumption | apply Below.drew | apply below_drewN | apply Bel.alloc | (refine Bel.setCell_ ?_ ?_; rotate_left; omega) | (refine Bel.step ?_ (by assumption))))⟩
  by_cases g4 : cap > 2147483648
  ·
    go_enter Tryz.func43, Tryz.ntmps43
    go_wp2_with fail
    (refine calls_named ?_; intro w5 hw5)
    have hB5 : Blk w5 (w.heap.size + 1) 55 #[.slice none 0 0, .int .i64 0] := by rw [hw5]; exact (by repeat (first | assumption | (refine Blk.new' _ _ _ ?_; first | with_unfolding_all rfl | (simp; done)) | apply Blk.drewN | apply Blk.drew | apply Blk.alloc | (refine Blk.far_ ?_ ?_ _; rotate_left; omega)))
    have hb5 : Below w.heap.size w w5 := by rw [hw5]; exact (by repeat (first | exact Below.refl _ _ | assumption | apply Below.drew | apply below_drewN | apply Bel.alloc | (refine Bel.setCell_ ?_ ?_; rotate_left; omega) | (refine Bel.step ?_ (by assumption))))
    clear hw5
    with_reducible refine (refAt_any _ _ _ _).mono ?_
    rintro e w2 ⟨v, rfl, ⟨A4, n4, m4, rfl, h4, h5⟩, hb⟩
    have hB2 := Blk.below hB5 hb hB5.lt
    obtain ⟨c0, c1, f0, f1⟩ := hB2.two
    have hb2 : Below w.heap.size w w2 := Bel.step hb5 hb
    go_wp2_with fail
    refine bodyPost_ret (v := .agg #[.slice A4 n4 m4, .int .i64 1]) (by simp [results, Tryz.results43, go_sem, c0, c1]) rfl ?_
    exact ⟨false, _, rfl, ⟨_, _, _, _, rfl, by simp⟩, (fun h => by cases h), (by repeat (first | exact Below.refl _ _ | assumption | apply Below.drew | apply below_drewN | apply Bel.alloc | (refine Bel.setCell_ ?_ ?_; rotate_left; omega) | (refine Bel.step ?_ (by assumption))))⟩
  by_cases g5 : lim < 0
  ·
    go_enter Tryz.func43, Tryz.ntmps43
    go_wp2_with fail
    (refine calls_named ?_; intro w5 hw5)
    have hB5 : Blk w5 (w.heap.size + 1) 55 #[.slice none 0 0, .int .i64 0] := by rw [hw5]; exact (by repeat (first | assumption | (refine Blk.new' _ _ _ ?_; first | with_unfolding_all rfl | (simp; done)) | apply Blk.drewN | apply Blk.drew | apply Blk.alloc | (refine Blk.far_ ?_ ?_ _; rotate_left; omega)))
    have hb5 : Below w.heap.size w w5 := by rw [hw5]; exact (by repeat (first | exact Below.refl _ _ | assumption | apply Below.drew | apply below_drewN | apply Bel.alloc | (refine Bel.setCell_ ?_ ?_; rotate_left; omega) | (refine Bel.step ?_ (by assumption))))
    clear hw5
    with_reducible refine (refAt_any _ _ _ _).mono ?_
    rintro e w2 ⟨v, rfl, ⟨A4, n4, m4, rfl, h4, h5⟩, hb⟩
    have hB2 := Blk.below hB5 hb hB5.lt
    obtain ⟨c0, c1, f0, f1⟩ := hB2.two
    have hb2 : Below w.heap.size w w2 := Bel.step hb5 hb
    go_wp2_with fail
    refine bodyPost_ret (v := .agg #[.slice A4 n4 m4, .int .i64 1]) (by simp [results, Tryz.results43, go_sem, c0, c1]) rfl ?_
    exact ⟨false, _, rfl, ⟨_, _, _, _, rfl, by simp⟩, (fun h => by cases h), (by repeat (first | exact Below.refl _ _ | assumption | apply Below.drew | apply below_drewN | apply Bel.alloc | (refine Bel.setCell_ ?_ ?_; rotate_left; omega) | (refine Bel.step ?_ (by assumption))))⟩
  by_cases g6 : lim > 1152921504606846976
  ·
    go_enter Tryz.func43, Tryz.ntmps43
    go_wp2_with fail
    (refine calls_named ?_; intro w5 hw5)
    have hB5 : Blk w5 (w.heap.size + 1) 55 #[.slice none 0 0, .int .i64 0] := by rw [hw5]; exact (by repeat (first | assumption | (refine Blk.new' _ _ _ ?_; first | with_unfolding_all rfl | (simp; done)) | apply Blk.drewN | apply Blk.drew | apply Blk.alloc | (refine Blk.far_ ?_ ?_ _; rotate_left; omega)))
    have hb5 : Below w.heap.size w w5 := by rw [hw5]; exact (by repeat (first | exact Below.refl _ _ | assumption | apply Below.drew | apply below_drewN | apply Bel.alloc | (refine Bel.setCell_ ?_ ?_; rotate_left; omega) | (refine Bel.step ?_ (by assumption))))
    clear hw5
    with_reducible refine (refAt_any _ _ _ _).mono ?_
    rintro e w2 ⟨v, rfl, ⟨A4, n4, m4, rfl, h4, h5⟩, hb⟩
    have hB2 := Blk.below hB5 hb hB5.lt
    obtain ⟨c0, c1, f0, f1⟩ := hB2.two
    have hb2 : Below w.heap.size w w2 := Bel.step hb5 hb
    go_wp2_with fail
    refine bodyPost_ret (v := .agg #[.slice A4 n4 m4, .int .i64 1]) (by simp [results, Tryz.results43, go_sem, c0, c1]) rfl ?_
    exact ⟨false, _, rfl, ⟨_, _, _, _, rfl, by simp⟩, (fun h => by cases h), (by repeat (first | exact Below.refl _ _ | assumption | apply Below.drew | apply below_drewN | apply Bel.alloc | (refine Bel.setCell_ ?_ ?_; rotate_left; omega) | (refine Bel.step ?_ (by assumption))))⟩
  by_cases g7 : n > 32
  ·
    have g8 : (n : Int) > 32 := by omega
    go_enter Tryz.func43, Tryz.ntmps43
    go_wp2_with fail
    (refine calls_named ?_; intro w5 hw5)
    have hB5 : Blk w5 (w.heap.size + 1) 55 #[.slice none 0 0, .int .i64 0] := by rw [hw5]; exact (by repeat (first | assumption | (refine Blk.new' _ _ _ ?_; first | with_unfolding_all rfl | (simp; done)) | apply Blk.drewN | apply Blk.drew | apply Blk.alloc | (refine Blk.far_ ?_ ?_ _; rotate_left; omega)))
    have hb5 : Below w.heap.size w w5 := by rw [hw5]; exact (by repeat (first | exact Below.refl _ _ | assumption | apply Below.drew | apply below_drewN | apply Bel.alloc | (refine Bel.setCell_ ?_ ?_; rotate_left; omega) | (refine Bel.step ?_ (by assumption))))
    clear hw5
    with_reducible refine (refAt_any _ _ _ _).mono ?_
    rintro e w2 ⟨v, rfl, ⟨A4, n4, m4, rfl, h4, h5⟩, hb⟩
    have hB2 := Blk.below hB5 hb hB5.lt
    obtain ⟨c0, c1, f0, f1⟩ := hB2.two
    have hb2 : Below w.heap.size w w2 := Bel.step hb5 hb
    go_wp2_with fail
    refine bodyPost_ret (v := .agg #[.slice A4 n4 m4, .int .i64 4]) (by simp [results, Tryz.results43, go_sem, c0, c1]) rfl ?_
    exact ⟨false, _, rfl, ⟨_, _, _, _, rfl, by simp⟩, (fun h => by cases h), (by repeat (first | exact Below.refl _ _ | assumption | apply Below.drew | apply below_drewN | apply Bel.alloc | (refine Bel.setCell_ ?_ ?_; rotate_left; omega) | (refine Bel.step ?_ (by assumption))))⟩
  have g8 : ¬ (n : Int) > 32 := by omega
  go_enter Tryz.func43, Tryz.ntmps43
  go_wp2_with fail
  (refine wp_named ?_; intro w1 hw1)
  have hb1 : Below w.heap.size w w1 := by rw [hw1]; exact (by repeat (first | exact Below.refl _ _ | assumption | apply Below.drew | apply below_drewN | apply Bel.alloc | (refine Bel.setCell_ ?_ ?_; rotate_left; omega) | (refine Bel.step ?_ (by assumption))))
  have hJ : Blk w1 w.heap.size 24 #[.int .i64 dep, .int .i64 cap, .int .i64 lim, .slice A n c] := by rw [hw1]; exact (Blk.new _ _ _).alloc _
  have hB : Blk w1 (w.heap.size + 1) 55 #[.slice none 0 0, .int .i64 0] := by rw [hw1]; exact Blk.new' _ _ _ (by simp)
  obtain ⟨j0, j1, j2, j3⟩ := hJ.four
  have h1 := h.below hb1
  have HL := Lib.hid h.1
  clear hw1 h
  go_loopw [5] (fun i W => Below w1.heap.size w1 W ∧ ∃ k : Nat, k ≤ n ∧ i = .int .i64 k ∧ ∀ (j : Nat) p, j < k → st[j]? = some p → 0 ≤ p.2 ∧ p.2 ≤ 2147483648) (fun i _ => n - (intOf i).toNat)
  case atStart => exact ⟨Below.refl _ _, 0, Nat.zero_le _, rfl, fun _ _ h => absurd h (by omega)⟩
  case round =>
    obtain ⟨hbl, k, hk, rfl, hj⟩ := hrel
    have HJ := Lib.hid hj
    have hBr := hB.below hbl hB.lt
    have hJr := hJ.below hbl hJ.lt
    have hbw : Below w.heap.size w wr := Bel.step hb1 hbl
    clear j0 j1 j2 j3 hj
    obtain ⟨j0, j1, j2, j3⟩ := hJr.four
    clear hJ hB
    by_cases hlt : k < n
    · obtain ⟨sb, so, x, y, rfl, hx, cx, cy⟩ := h1.at_ hlt
      have HX := Lib.hid hx
      have dx := Below.cellOf hbl (Nat.le_refl _) cx
      have dy := Below.cellOf hbl (Nat.le_refl _) cy
      clear hx cx cy
      by_cases q1 : x < 0
      ·
        go_wp2_with fail
        (refine calls_named ?_; intro w5 hw5)
        have hB5 : Blk w5 (w.heap.size + 1) 55 #[.slice none 0 0, .int .i64 0] := by rw [hw5]; exact (by repeat (first | assumption | (refine Blk.new' _ _ _ ?_; first | with_unfolding_all rfl | (simp; done)) | apply Blk.drewN | apply Blk.drew | apply Blk.alloc | (refine Blk.far_ ?_ ?_ _; rotate_left; omega)))
        have hb5 : Below w.heap.size w w5 := by rw [hw5]; exact (by repeat (first | exact Below.refl _ _ | assumption | apply Below.drew | apply below_drewN | apply Bel.alloc | (refine Bel.setCell_ ?_ ?_; rotate_left; omega) | (refine Bel.step ?_ (by assumption))))
        clear hw5
        with_reducible refine (refAt_any _ _ _ _).mono ?_
        rintro e w2 ⟨v, rfl, ⟨A4, n4, m4, rfl, h4, h5⟩, hb⟩
        have hB2 := Blk.below hB5 hb hB5.lt
        obtain ⟨c0, c1, f0, f1⟩ := hB2.two
        have hb2 : Below w.heap.size w w2 := Bel.step hb5 hb
        go_wp2_with fail
        refine bodyPost_ret (v := .agg #[.slice A4 n4 m4, .int .i64 5]) (by simp [results, Tryz.results43, go_sem, c0, c1]) rfl ?_
        exact ⟨false, _, rfl, ⟨_, _, _, _, rfl, by simp⟩, (fun h => by cases h), (by repeat (first | exact Below.refl _ _ | assumption | apply Below.drew | apply below_drewN | apply Bel.alloc | (refine Bel.setCell_ ?_ ?_; rotate_left; omega) | (refine Bel.step ?_ (by assumption))))⟩
      by_cases q2 : x ≥ N
      ·
        go_wp2_with fail
        (refine calls_named ?_; intro w5 hw5)
        have hB5 : Blk w5 (w.heap.size + 1) 55 #[.slice none 0 0, .int .i64 0] := by rw [hw5]; exact (by repeat (first | assumption | (refine Blk.new' _ _ _ ?_; first | with_unfolding_all rfl | (simp; done)) | apply Blk.drewN | apply Blk.drew | apply Blk.alloc | (refine Blk.far_ ?_ ?_ _; rotate_left; omega)))
        have hb5 : Below w.heap.size w w5 := by rw [hw5]; exact (by repeat (first | exact Below.refl _ _ | assumption | apply Below.drew | apply below_drewN | apply Bel.alloc | (refine Bel.setCell_ ?_ ?_; rotate_left; omega) | (refine Bel.step ?_ (by assumption))))
        clear hw5
        with_reducible refine (refAt_any _ _ _ _).mono ?_
        rintro e w2 ⟨v, rfl, ⟨A4, n4, m4, rfl, h4, h5⟩, hb⟩
        have hB2 := Blk.below hB5 hb hB5.lt
        obtain ⟨c0, c1, f0, f1⟩ := hB2.two
        have hb2 : Below w.heap.size w w2 := Bel.step hb5 hb
        go_wp2_with fail
        refine bodyPost_ret (v := .agg #[.slice A4 n4 m4, .int .i64 5]) (by simp [results, Tryz.results43, go_sem, c0, c1]) rfl ?_
        exact ⟨false, _, rfl, ⟨_, _, _, _, rfl, by simp⟩, (fun h => by cases h), (by repeat (first | exact Below.refl _ _ | assumption | apply Below.drew | apply below_drewN | apply Bel.alloc | (refine Bel.setCell_ ?_ ?_; rotate_left; omega) | (refine Bel.step ?_ (by assumption))))⟩
      by_cases q3 : y < 0
      ·
        go_wp2_with fail
        (refine calls_named ?_; intro w5 hw5)
        have hB5 : Blk w5 (w.heap.size + 1) 55 #[.slice none 0 0, .int .i64 0] := by rw [hw5]; exact (by repeat (first | assumption | (refine Blk.new' _ _ _ ?_; first | with_unfolding_all rfl | (simp; done)) | apply Blk.drewN | apply Blk.drew | apply Blk.alloc | (refine Blk.far_ ?_ ?_ _; rotate_left; omega)))
        have hb5 : Below w.heap.size w w5 := by rw [hw5]; exact (by repeat (first | exact Below.refl _ _ | assumption | apply Below.drew | apply below_drewN | apply Bel.alloc | (refine Bel.setCell_ ?_ ?_; rotate_left; omega) | (refine Bel.step ?_ (by assumption))))
        clear hw5
        with_reducible refine (refAt_any _ _ _ _).mono ?_
        rintro e w2 ⟨v, rfl, ⟨A4, n4, m4, rfl, h4, h5⟩, hb⟩
        have hB2 := Blk.below hB5 hb hB5.lt
        obtain ⟨c0, c1, f0, f1⟩ := hB2.two
        have hb2 : Below w.heap.size w w2 := Bel.step hb5 hb
        go_wp2_with fail
        refine bodyPost_ret (v := .agg #[.slice A4 n4 m4, .int .i64 1]) (by simp [results, Tryz.results43, go_sem, c0, c1]) rfl ?_
        exact ⟨false, _, rfl, ⟨_, _, _, _, rfl, by simp⟩, (fun h => by cases h), (by repeat (first | exact Below.refl _ _ | assumption | apply Below.drew | apply below_drewN | apply Bel.alloc | (refine Bel.setCell_ ?_ ?_; rotate_left; omega) | (refine Bel.step ?_ (by assumption))))⟩
      by_cases q4 : y > 2147483648
      ·
        go_wp2_with fail
        (refine calls_named ?_; intro w5 hw5)
        have hB5 : Blk w5 (w.heap.size + 1) 55 #[.slice none 0 0, .int .i64 0] := by rw [hw5]; exact (by repeat (first | assumption | (refine Blk.new' _ _ _ ?_; first | with_unfolding_all rfl | (simp; done)) | apply Blk.drewN | apply Blk.drew | apply Blk.alloc | (refine Blk.far_ ?_ ?_ _; rotate_left; omega)))
        have hb5 : Below w.heap.size w w5 := by rw [hw5]; exact (by repeat (first | exact Below.refl _ _ | assumption | apply Below.drew | apply below_drewN | apply Bel.alloc | (refine Bel.setCell_ ?_ ?_; rotate_left; omega) | (refine Bel.step ?_ (by assumption))))
        clear hw5
        with_reducible refine (refAt_any _ _ _ _).mono ?_
        rintro e w2 ⟨v, rfl, ⟨A4, n4, m4, rfl, h4, h5⟩, hb⟩
        have hB2 := Blk.below hB5 hb hB5.lt
        obtain ⟨c0, c1, f0, f1⟩ := hB2.two
        have hb2 : Below w.heap.size w w2 := Bel.step hb5 hb
        go_wp2_with fail
        refine bodyPost_ret (v := .agg #[.slice A4 n4 m4, .int .i64 1]) (by simp [results, Tryz.results43, go_sem, c0, c1]) rfl ?_
        exact ⟨false, _, rfl, ⟨_, _, _, _, rfl, by simp⟩, (fun h => by cases h), (by repeat (first | exact Below.refl _ _ | assumption | apply Below.drew | apply below_drewN | apply Bel.alloc | (refine Bel.setCell_ ?_ ?_; rotate_left; omega) | (refine Bel.step ?_ (by assumption))))⟩
      go_wp2_with fail
      have hbn : Below w1.heap.size w1 (wr.alloc (.cells #[.int .i64 x, .int .i64 y] 42)) := by refine Below.alloc hbl ?_ _; exact hbl.size
      go_roundw
      case rel => exact ⟨hbn, k + 1, by omega, by go_num, fun j p hj hp => by
        rcases Nat.lt_or_ge j k with h1 | h1
        · exact HJ.out j p h1 hp
        · obtain rfl : j = k := by omega
          rw [HX.out] at hp; cases hp; simp only; omega⟩
      case measure => simp [intOf]; omega
    · obtain rfl : k = n := by omega
      obtain ⟨c0, c1, f0, f1⟩ := hBr.two
      go_wp2_with fail
      refine bodyPost_ret (v := .agg #[.slice none 0 0, .int .i64 0]) (by simp [results, Tryz.results43, go_sem, c0, c1]) rfl ?_
      exact ⟨true, _, rfl, ⟨_, _, _, _, rfl, by simp⟩, (fun _ p hp => by
        obtain ⟨i, hi, e⟩ := List.getElem_of_mem hp
        exact HJ.out i p (by rw [← HL.out]; exact hi) (by rw [List.getElem?_eq_getElem hi, e])), (by repeat (first | exact Below.refl _ _ | assumption | apply Below.drew | apply below_drewN | apply Bel.alloc | (refine Bel.setCell_ ?_ ?_; rotate_left; omega) | (refine Bel.step ?_ (by assumption))))⟩

theorem fieldErr (A : Option Addr) (n m : Nat) (c : Int) (V : World) : (Instr.field 55 (.agg #[.slice A n m, .int .i64 c]) 1).run Tryz.prog V = .ok (.int .i64 c) V := by kernel_rfl
/-- A truth of which P follows. -/
def RetIf (P : Prop) (e : Ending) : Prop := ∃ ok : Bool, e = .returned (.bool ok) ∧ (ok = true → P)
set_option maxHeartbeats 1000000 in
/-- Few. -/
theorem few_any (A : Option Addr) (n c : Nat) (ls : List (List Int)) (w : World) (h : RdT w A n ls) (hn : n ≤ 4000000000000000000) :
    Calls Tryz.prog 17 #[.slice A n c] w fun e w' => RetIf (n ≤ 60) e ∧ Below w.heap.size w w' := by
  go_enter Tryz.func17, Tryz.ntmps17
  go_wp2_with fail
  go_loop [3] (fun i => ∃ k : Nat, k ≤ n ∧ i = .int .i64 k) (fun i => n - (intOf i).toNat)
  case atStart => exact ⟨0, Nat.zero_le _, rfl⟩
  case round =>
    obtain ⟨k, hk, rfl⟩ := hrel
    by_cases hlt : k < n
    · obtain ⟨b, o, A1, n1, c1, l, rfl, hl, hc, hr, hr1, hr2⟩ := h.at_ hlt
      clear hl
      by_cases g : n1 > 60
      · have g1 : (n1 : Int) > 60 := by omega
        go_wp2_with fail
        go_ret
        exact ⟨⟨false, rfl, (fun h => by cases h)⟩, (by repeat (first | exact Below.refl _ _ | assumption | apply Below.drew | apply below_drewN | apply Bel.alloc | (refine Bel.setCell_ ?_ ?_; rotate_left; omega) | (refine Bel.step ?_ (by assumption))))⟩
      · have g1 : ¬ (n1 : Int) > 60 := by omega
        go_wp2_with fail
        go_round
        case rel => exact ⟨k + 1, by omega, by go_num⟩
        case measure => simp [intOf]; omega
    · obtain rfl : k = n := by omega
      go_wp2_with fail
      go_ret
      exact ⟨⟨_, rfl, fun h => by simp at h; omega⟩, (by repeat (first | exact Below.refl _ _ | assumption | apply Below.drew | apply below_drewN | apply Bel.alloc | (refine Bel.setCell_ ?_ ?_; rotate_left; omega) | (refine Bel.step ?_ (by assumption))))⟩

set_option maxHeartbeats 1000000 in
set_option maxRecDepth 10000 in
theorem some_any (dep cap lim : Int) (A : Option Addr) (n c : Nat) (st : List (Int × Int)) (w : World) (h : RdP w A n st) (hn : n ≤ 1000000000) :
    Calls Tryz.prog 18 #[jobV dep cap lim A n c] w fun e w' => RetIf (LdOk st) e ∧ Below w.heap.size w w' := by
  have HC := Lib.hid (show ∀ V, Below w.heap.size w V → Calls Tryz.prog 43 #[.int .i64 4611686018427387904, jobV dep cap lim A n c] V fun e w' => ∃ ok v, e = .returned v ∧ WOk ok v ∧ (ok = true → LdOk st) ∧ Below V.heap.size V w' from fun V hV => refCheckJob_any _ dep cap lim A n c st V (h.below hV) hn)
  have hfe := fieldErr
  clear h
  go_enter Tryz.func18, Tryz.ntmps18
  go_wp2_with fail
  with_reducible refine (HC.out _ ?_).mono ?_
  · exact (by repeat (first | exact Below.refl _ _ | assumption | apply Below.drew | apply below_drewN | apply Bel.alloc | (refine Bel.setCell_ ?_ ?_; rotate_left; omega) | (refine Bel.step ?_ (by assumption))))
  rintro e w2 ⟨ok, v, rfl, ⟨A2, n2, m2, c2, rfl, hok⟩, hld, hb⟩
  have hb2 : Below w.heap.size w w2 := Bel.step (by repeat (first | exact Below.refl _ _ | assumption | apply Below.drew | apply below_drewN | apply Bel.alloc | (refine Bel.setCell_ ?_ ?_; rotate_left; omega) | (refine Bel.step ?_ (by assumption)))) hb
  have HK := Lib.hid hok
  have HD := Lib.hid hld
  clear hok hld
  go_wp2_with fail
  go_ret
  exact ⟨⟨_, rfl, fun h => HD.out (HK.out.1 (by simpa using h))⟩, (by repeat (first | exact Below.refl _ _ | assumption | apply Below.drew | apply below_drewN | apply Bel.alloc | (refine Bel.setCell_ ?_ ?_; rotate_left; omega) | (refine Bel.step ?_ (by assumption))))⟩
end Go.Proofs.YtjphjbchhhembaaGreatDoor
