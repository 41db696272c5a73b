/- The document's CheckTable. -/
import Derived.Test.YtgkeolddpielpaaGreatNt3
namespace Go.Proofs.YtgkeolddpielpaaGreat
open Go.RowKit

attribute [local go_sem ↓] Go.wp_at_zero Go.wp_at_succ

set_option maxHeartbeats 1000000 in
theorem refCheckTable_any (A : Option Addr) (n c : Nat) (t : TabD) (w : World) (h : RdI w A n t.costs) (hn : n ≤ 9223372036854775807) :
    Calls Tryz.prog 132 #[.agg #[.int .i64 t.ins, .int .i64 t.outs, .slice A n c]] w fun e w' => CkRes (TabOk t) w.heap.size e w' ∧ Below w.heap.size w w' := by
  obtain ⟨i, o, cs⟩ := t
  have h : RdI w A n cs := h
  simp only
  by_cases i0 : i < 0
  · go_enter Tryz.func132, Tryz.ntmps132
    go_wp2_with fail
    (refine calls_named ?_; intro w5 hw5)
    have hB5 : Blk w5 (w.heap.size + 1) 126 #[.slice none 0 0, .int .i64 0] := by rw [hw5]; exact (by repeat (first | assumption | (refine Blk.new' _ _ _ ?_; first | with_unfolding_all rfl | (simp; done)) | apply Blk.drewN | apply Blk.drew | apply Blk.alloc | (refine Blk.far_ ?_ ?_ _; rotate_left; omega)))
    have hb5 : Below w.heap.size w w5 := by rw [hw5]; exact (by repeat (first | exact Below.refl _ _ | assumption | apply Below.drew | apply below_drewN | apply Bel.alloc | (refine Bel.setCell_ ?_ ?_; rotate_left; omega) | (refine Bel.step ?_ (by assumption))))
    clear hw5
    with_reducible refine (refAt0_any _ _ _ _).mono ?_
    rintro e w2 ⟨⟨A4, n4, m4, rfl, hg4⟩, hb⟩
    have hB2 := Blk.below hB5 hb hB5.lt
    obtain ⟨c0, c1, f0, f1⟩ := hB2.two
    have hb2 : Below w.heap.size w w2 := Bel.step hb5 hb
    go_wp2_with fail
    refine bodyPost_ret (v := .agg #[.slice A4 n4 m4, .int .i64 1]) (by simp [results, Tryz.results132, go_sem, c0, c1]) rfl ?_
    first | exact ⟨CkRes0.no (by decide), (by repeat (first | exact Below.refl _ _ | assumption | apply Below.drew | apply below_drewN | apply Bel.alloc | (refine Bel.setCell_ ?_ ?_; rotate_left; omega) | (refine Bel.step ?_ (by assumption))))⟩ | exact ⟨CkRes.no (Wg.mono (B := w5.heap.size) (Wg.setCell (Wg.setCell hg4 hB5.lt _) hB5.lt _) hb5.size) (by decide), (by repeat (first | exact Below.refl _ _ | assumption | apply Below.drew | apply below_drewN | apply Bel.alloc | (refine Bel.setCell_ ?_ ?_; rotate_left; omega) | (refine Bel.step ?_ (by assumption))))⟩
  by_cases i1 : i > 16
  · go_enter Tryz.func132, Tryz.ntmps132
    go_wp2_with fail
    (refine calls_named ?_; intro w5 hw5)
    have hB5 : Blk w5 (w.heap.size + 1) 126 #[.slice none 0 0, .int .i64 0] := by rw [hw5]; exact (by repeat (first | assumption | (refine Blk.new' _ _ _ ?_; first | with_unfolding_all rfl | (simp; done)) | apply Blk.drewN | apply Blk.drew | apply Blk.alloc | (refine Blk.far_ ?_ ?_ _; rotate_left; omega)))
    have hb5 : Below w.heap.size w w5 := by rw [hw5]; exact (by repeat (first | exact Below.refl _ _ | assumption | apply Below.drew | apply below_drewN | apply Bel.alloc | (refine Bel.setCell_ ?_ ?_; rotate_left; omega) | (refine Bel.step ?_ (by assumption))))
    clear hw5
    with_reducible refine (refAt0_any _ _ _ _).mono ?_
    rintro e w2 ⟨⟨A4, n4, m4, rfl, hg4⟩, hb⟩
    have hB2 := Blk.below hB5 hb hB5.lt
    obtain ⟨c0, c1, f0, f1⟩ := hB2.two
    have hb2 : Below w.heap.size w w2 := Bel.step hb5 hb
    go_wp2_with fail
    refine bodyPost_ret (v := .agg #[.slice A4 n4 m4, .int .i64 1]) (by simp [results, Tryz.results132, go_sem, c0, c1]) rfl ?_
    first | exact ⟨CkRes0.no (by decide), (by repeat (first | exact Below.refl _ _ | assumption | apply Below.drew | apply below_drewN | apply Bel.alloc | (refine Bel.setCell_ ?_ ?_; rotate_left; omega) | (refine Bel.step ?_ (by assumption))))⟩ | exact ⟨CkRes.no (Wg.mono (B := w5.heap.size) (Wg.setCell (Wg.setCell hg4 hB5.lt _) hB5.lt _) hb5.size) (by decide), (by repeat (first | exact Below.refl _ _ | assumption | apply Below.drew | apply below_drewN | apply Bel.alloc | (refine Bel.setCell_ ?_ ?_; rotate_left; omega) | (refine Bel.step ?_ (by assumption))))⟩
  by_cases o0 : o < 0
  · go_enter Tryz.func132, Tryz.ntmps132
    go_wp2_with fail
    (refine calls_named ?_; intro w5 hw5)
    have hB5 : Blk w5 (w.heap.size + 1) 126 #[.slice none 0 0, .int .i64 0] := by rw [hw5]; exact (by repeat (first | assumption | (refine Blk.new' _ _ _ ?_; first | with_unfolding_all rfl | (simp; done)) | apply Blk.drewN | apply Blk.drew | apply Blk.alloc | (refine Blk.far_ ?_ ?_ _; rotate_left; omega)))
    have hb5 : Below w.heap.size w w5 := by rw [hw5]; exact (by repeat (first | exact Below.refl _ _ | assumption | apply Below.drew | apply below_drewN | apply Bel.alloc | (refine Bel.setCell_ ?_ ?_; rotate_left; omega) | (refine Bel.step ?_ (by assumption))))
    clear hw5
    with_reducible refine (refAt0_any _ _ _ _).mono ?_
    rintro e w2 ⟨⟨A4, n4, m4, rfl, hg4⟩, hb⟩
    have hB2 := Blk.below hB5 hb hB5.lt
    obtain ⟨c0, c1, f0, f1⟩ := hB2.two
    have hb2 : Below w.heap.size w w2 := Bel.step hb5 hb
    go_wp2_with fail
    refine bodyPost_ret (v := .agg #[.slice A4 n4 m4, .int .i64 1]) (by simp [results, Tryz.results132, go_sem, c0, c1]) rfl ?_
    first | exact ⟨CkRes0.no (by decide), (by repeat (first | exact Below.refl _ _ | assumption | apply Below.drew | apply below_drewN | apply Bel.alloc | (refine Bel.setCell_ ?_ ?_; rotate_left; omega) | (refine Bel.step ?_ (by assumption))))⟩ | exact ⟨CkRes.no (Wg.mono (B := w5.heap.size) (Wg.setCell (Wg.setCell hg4 hB5.lt _) hB5.lt _) hb5.size) (by decide), (by repeat (first | exact Below.refl _ _ | assumption | apply Below.drew | apply below_drewN | apply Bel.alloc | (refine Bel.setCell_ ?_ ?_; rotate_left; omega) | (refine Bel.step ?_ (by assumption))))⟩
  by_cases o1 : o > 16
  · go_enter Tryz.func132, Tryz.ntmps132
    go_wp2_with fail
    (refine calls_named ?_; intro w5 hw5)
    have hB5 : Blk w5 (w.heap.size + 1) 126 #[.slice none 0 0, .int .i64 0] := by rw [hw5]; exact (by repeat (first | assumption | (refine Blk.new' _ _ _ ?_; first | with_unfolding_all rfl | (simp; done)) | apply Blk.drewN | apply Blk.drew | apply Blk.alloc | (refine Blk.far_ ?_ ?_ _; rotate_left; omega)))
    have hb5 : Below w.heap.size w w5 := by rw [hw5]; exact (by repeat (first | exact Below.refl _ _ | assumption | apply Below.drew | apply below_drewN | apply Bel.alloc | (refine Bel.setCell_ ?_ ?_; rotate_left; omega) | (refine Bel.step ?_ (by assumption))))
    clear hw5
    with_reducible refine (refAt0_any _ _ _ _).mono ?_
    rintro e w2 ⟨⟨A4, n4, m4, rfl, hg4⟩, hb⟩
    have hB2 := Blk.below hB5 hb hB5.lt
    obtain ⟨c0, c1, f0, f1⟩ := hB2.two
    have hb2 : Below w.heap.size w w2 := Bel.step hb5 hb
    go_wp2_with fail
    refine bodyPost_ret (v := .agg #[.slice A4 n4 m4, .int .i64 1]) (by simp [results, Tryz.results132, go_sem, c0, c1]) rfl ?_
    first | exact ⟨CkRes0.no (by decide), (by repeat (first | exact Below.refl _ _ | assumption | apply Below.drew | apply below_drewN | apply Bel.alloc | (refine Bel.setCell_ ?_ ?_; rotate_left; omega) | (refine Bel.step ?_ (by assumption))))⟩ | exact ⟨CkRes.no (Wg.mono (B := w5.heap.size) (Wg.setCell (Wg.setCell hg4 hB5.lt _) hB5.lt _) hb5.size) (by decide), (by repeat (first | exact Below.refl _ _ | assumption | apply Below.drew | apply below_drewN | apply Bel.alloc | (refine Bel.setCell_ ?_ ?_; rotate_left; omega) | (refine Bel.step ?_ (by assumption))))⟩
  have hm := mul_bd (a := i) (b := o) (by omega) (by omega) (by omega) (by omega)
  have j1 : IntKind.i64.wrap (i * o) = i * o := IntWalk.i64_in _ (by omega)
  by_cases hl : (n : Int) = i * o
  rotate_left
  · have j2 : ((n : Int) != i * o) = true := by simpa using hl
    have j3 : ((n : Int) == i * o) = false := by simpa using hl
    clear hl
    go_enter Tryz.func132, Tryz.ntmps132
    go_wp2_with fail
    (refine calls_named ?_; intro w5 hw5)
    have hB5 : Blk w5 (w.heap.size + 1) 126 #[.slice none 0 0, .int .i64 0] := by rw [hw5]; exact (by repeat (first | assumption | (refine Blk.new' _ _ _ ?_; first | with_unfolding_all rfl | (simp; done)) | apply Blk.drewN | apply Blk.drew | apply Blk.alloc | (refine Blk.far_ ?_ ?_ _; rotate_left; omega)))
    have hb5 : Below w.heap.size w w5 := by rw [hw5]; exact (by repeat (first | exact Below.refl _ _ | assumption | apply Below.drew | apply below_drewN | apply Bel.alloc | (refine Bel.setCell_ ?_ ?_; rotate_left; omega) | (refine Bel.step ?_ (by assumption))))
    clear hw5
    with_reducible refine (refAt0_any _ _ _ _).mono ?_
    rintro e w2 ⟨⟨A4, n4, m4, rfl, hg4⟩, hb⟩
    have hB2 := Blk.below hB5 hb hB5.lt
    obtain ⟨c0, c1, f0, f1⟩ := hB2.two
    have hb2 : Below w.heap.size w w2 := Bel.step hb5 hb
    go_wp2_with fail
    refine bodyPost_ret (v := .agg #[.slice A4 n4 m4, .int .i64 9]) (by simp [results, Tryz.results132, go_sem, c0, c1]) rfl ?_
    first | exact ⟨CkRes0.no (by decide), (by repeat (first | exact Below.refl _ _ | assumption | apply Below.drew | apply below_drewN | apply Bel.alloc | (refine Bel.setCell_ ?_ ?_; rotate_left; omega) | (refine Bel.step ?_ (by assumption))))⟩ | exact ⟨CkRes.no (Wg.mono (B := w5.heap.size) (Wg.setCell (Wg.setCell hg4 hB5.lt _) hB5.lt _) hb5.size) (by decide), (by repeat (first | exact Below.refl _ _ | assumption | apply Below.drew | apply below_drewN | apply Bel.alloc | (refine Bel.setCell_ ?_ ?_; rotate_left; omega) | (refine Bel.step ?_ (by assumption))))⟩
  have j2 : ((n : Int) != i * o) = false := by simpa using hl
  have j3 : ((n : Int) == i * o) = true := by simpa using hl
  have hn : n ≤ 256 := by omega
  have HL := Lib.hid hl
  clear hl
  go_enter Tryz.func132, Tryz.ntmps132
  go_wp2_with fail
  (refine wp_named ?_; intro w1 hw1)
  have hb1 : Below w.heap.size w w1 := by rw [hw1]; exact (by repeat (first | exact Below.refl _ _ | assumption | apply Below.drew | apply below_drewN | apply Bel.alloc | (refine Bel.setCell_ ?_ ?_; rotate_left; omega) | (refine Bel.step ?_ (by assumption))))
  have hT1 : Blk w1 w.heap.size 119 #[.int .i64 i, .int .i64 o, .slice A n c] := by rw [hw1]; exact (by repeat (first | assumption | (refine Blk.new' _ _ _ ?_; first | with_unfolding_all rfl | (simp; done)) | apply Blk.drewN | apply Blk.drew | apply Blk.alloc | (refine Blk.far_ ?_ ?_ _; rotate_left; omega)))
  have hB1 : Blk w1 (w.heap.size + 1) 126 #[.slice none 0 0, .int .i64 0] := by rw [hw1]; exact (by repeat (first | assumption | (refine Blk.new' _ _ _ ?_; first | with_unfolding_all rfl | (simp; done)) | apply Blk.drewN | apply Blk.drew | apply Blk.alloc | (refine Blk.far_ ?_ ?_ _; rotate_left; omega)))
  clear hw1
  go_loopw [3] (fun q W => ∃ k : Nat, k ≤ n ∧ q = .int .i64 k ∧ Below w.heap.size w W ∧ Blk W w.heap.size 119 #[.int .i64 i, .int .i64 o, .slice A n c] ∧ Blk W (w.heap.size + 1) 126 #[.slice none 0 0, .int .i64 0] ∧ ∀ j x, j < k → cs[j]? = some x → wOk x = true) (fun q _ => n - (intOf q).toNat)
  case atStart => exact ⟨0, Nat.zero_le _, rfl, hb1, hT1, hB1, fun _ _ h => absurd h (Nat.not_lt_zero _)⟩
  case round =>
    clear hb1 hT1 hB1
    obtain ⟨k, hk, rfl, hbl, hT, hB, hall⟩ := hrel
    have HA := Lib.hid hall
    clear hall
    obtain ⟨t0, t1, t2⟩ := hT.three
    have zT := hT.lt
    by_cases hlt : k < n
    · obtain ⟨b, oo, x, rfl, hx, hc⟩ := (h.below hbl).at_ hlt
      have i2 : (0 : Int) ≤ (k : Int) := by omega
      have i3 : (k : Int) < (n : Int) := by omega
      have HX := Lib.hid hx
      clear hx
      cases hw : wOk x
      · have HW := Lib.hid (show ∀ V, Calls Tryz.prog 23 #[.int .i64 x] V fun e w' => e = .returned (.bool false) ∧ V = w' from fun V => by
          have := refWeight_any x V
          rw [hw] at this
          exact this)
        go_wp2_with fail
        with_reducible refine (HW.out _).mono ?_
        rintro e w' ⟨rfl, rfl⟩
        go_wp2_with fail
        (refine calls_named ?_; intro w5 hw5)
        have hB5 : Blk w5 (w.heap.size + 1) 126 #[.slice none 0 0, .int .i64 0] := by rw [hw5]; exact (by repeat (first | assumption | (refine Blk.new' _ _ _ ?_; first | with_unfolding_all rfl | (simp; done)) | apply Blk.drewN | apply Blk.drew | apply Blk.alloc | (refine Blk.far_ ?_ ?_ _; rotate_left; omega)))
        have hb5 : Below w.heap.size w w5 := by rw [hw5]; exact (by repeat (first | exact Below.refl _ _ | assumption | apply Below.drew | apply below_drewN | apply Bel.alloc | (refine Bel.setCell_ ?_ ?_; rotate_left; omega) | (refine Bel.step ?_ (by assumption))))
        clear hw5
        with_reducible refine (refAt0_any _ _ _ _).mono ?_
        rintro e w2 ⟨⟨A4, n4, m4, rfl, hg4⟩, hb⟩
        have hB2 := Blk.below hB5 hb hB5.lt
        obtain ⟨c0, c1, f0, f1⟩ := hB2.two
        have hb2 : Below w.heap.size w w2 := Bel.step hb5 hb
        go_wp2_with fail
        refine bodyPost_ret (v := .agg #[.slice A4 n4 m4, .int .i64 8]) (by simp [results, Tryz.results132, go_sem, c0, c1]) rfl ?_
        first | exact ⟨CkRes0.no (by decide), (by repeat (first | exact Below.refl _ _ | assumption | apply Below.drew | apply below_drewN | apply Bel.alloc | (refine Bel.setCell_ ?_ ?_; rotate_left; omega) | (refine Bel.step ?_ (by assumption))))⟩ | exact ⟨CkRes.no (Wg.mono (B := w5.heap.size) (Wg.setCell (Wg.setCell hg4 hB5.lt _) hB5.lt _) hb5.size) (by decide), (by repeat (first | exact Below.refl _ _ | assumption | apply Below.drew | apply below_drewN | apply Bel.alloc | (refine Bel.setCell_ ?_ ?_; rotate_left; omega) | (refine Bel.step ?_ (by assumption))))⟩
      · have HW := Lib.hid (show ∀ V, Calls Tryz.prog 23 #[.int .i64 x] V fun e w' => e = .returned (.bool true) ∧ V = w' from fun V => by
          have := refWeight_any x V
          rw [hw] at this
          exact this)
        have HW2 := Lib.hid hw
        clear hw
        go_wp2_with fail
        with_reducible refine (HW.out _).mono ?_
        rintro e w' ⟨rfl, rfl⟩
        go_wp2_with fail
        go_roundw
        case rel =>
          refine ⟨k + 1, by omega, by go_num, hbl, hT, hB, fun j y hj hy => ?_⟩
          by_cases e : j = k
          · subst e
            rw [HX.out] at hy
            cases hy
            exact HW2.out
          · exact HA.out j y (by omega) hy
        case measure => simp [intOf]; omega
    · obtain rfl : k = n := by omega
      have zB := hB.lt
      obtain ⟨c0, c1, f0, f1⟩ := hB.two
      go_wp2_with fail
      refine bodyPost_ret (v := .agg #[.slice none 0 0, .int .i64 0]) (by simp [results, Tryz.results132, go_sem, c0, c1]) rfl ?_
      refine ⟨⟨_, _, _, _, rfl, Wg.none _ _, .inl ⟨rfl, ⟨by simp only; omega, by simp only; omega, by simp only; omega, by simp only; omega, ?_, ?_⟩⟩⟩, (by repeat (first | exact Below.refl _ _ | assumption | apply Below.drew | apply below_drewN | apply Bel.alloc | (refine Bel.setCell_ ?_ ?_; rotate_left; omega) | (refine Bel.step ?_ (by assumption))))⟩
      · simp only
        rw [h.1]
        exact HL.out
      · intro y hy
        obtain ⟨j, hj⟩ := List.getElem?_of_mem hy
        exact HA.out j y (by rw [← h.1]; exact (List.getElem?_eq_some_iff.1 hj).1) hj
end Go.Proofs.YtgkeolddpielpaaGreat
