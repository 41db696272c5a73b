/- Parts of the proof: Nt4, Nt5. -/
import Derived.Test.YtpffhoefmcpniaaGreatDoorW1
import Derived.Test.YtpffhoefmcpniaaGreatDoorW19
/- The document's CheckTable. -/
namespace Go.Proofs.YtpffhoefmcpniaaGreatDoor
open Go.RowKit

attribute [local go_sem ↓] Go.wp_at_zero Go.wp_at_succ

set_option maxHeartbeats 1000000 in
theorem refCheckTable_any (A : Option Addr) (n c : Nat) (t : TabD) (w : World) (h : RdI w A n t.costs) (hn : n ≤ 9223372036854775807) :
    Calls Tryz.prog 71 #[.agg #[.int .i64 t.ins, .int .i64 t.outs, .slice A n c]] w fun e w' => CkRes (TabOk t) w.heap.size e w' ∧ Below w.heap.size w w' := by
  obtain ⟨i, o, cs⟩ := t
  have h : RdI w A n cs := h
  simp only
  by_cases i0 : i < 0
  · go_enter Tryz.func71, Tryz.ntmps71
    go_wp2_with fail
    (refine calls_named ?_; intro w5 hw5)
    have hB5 : Blk w5 (w.heap.size + 1) 42 #[.slice none 0 0, .int .i64 0] := by rw [hw5]; exact bLNt
    have hb5 : Below w.heap.size w w5 := by rw [hw5]; exact bELt
    clear hw5
    with_reducible refine (refAt0_any _ _ _ _).mono ?_
    rintro e w2 ⟨⟨A4, n4, m4, rfl, hg4⟩, hb⟩
    have hB2 := Blk.below hB5 hb hB5.lt
    obtain ⟨c0, c1, f0, f1⟩ := hB2.two
    have hb2 : Below w.heap.size w w2 := Bel.step hb5 hb
    go_wp2_with fail
    refine bodyPost_ret (v := .agg #[.slice A4 n4 m4, .int .i64 1]) (by simp [results, Tryz.results71, go_sem, c0, c1]) rfl ?_
    first | exact ⟨CkRes0.no (by decide), bELt⟩ | exact ⟨CkRes.no (Wg.mono (B := w5.heap.size) (Wg.setCell (Wg.setCell hg4 hB5.lt _) hB5.lt _) hb5.size) (by decide), bELt⟩
  by_cases i1 : i > 16
  · go_enter Tryz.func71, Tryz.ntmps71
    go_wp2_with fail
    (refine calls_named ?_; intro w5 hw5)
    have hB5 : Blk w5 (w.heap.size + 1) 42 #[.slice none 0 0, .int .i64 0] := by rw [hw5]; exact bLNt
    have hb5 : Below w.heap.size w w5 := by rw [hw5]; exact bELt
    clear hw5
    with_reducible refine (refAt0_any _ _ _ _).mono ?_
    rintro e w2 ⟨⟨A4, n4, m4, rfl, hg4⟩, hb⟩
    have hB2 := Blk.below hB5 hb hB5.lt
    obtain ⟨c0, c1, f0, f1⟩ := hB2.two
    have hb2 : Below w.heap.size w w2 := Bel.step hb5 hb
    go_wp2_with fail
    refine bodyPost_ret (v := .agg #[.slice A4 n4 m4, .int .i64 1]) (by simp [results, Tryz.results71, go_sem, c0, c1]) rfl ?_
    first | exact ⟨CkRes0.no (by decide), bELt⟩ | exact ⟨CkRes.no (Wg.mono (B := w5.heap.size) (Wg.setCell (Wg.setCell hg4 hB5.lt _) hB5.lt _) hb5.size) (by decide), bELt⟩
  by_cases o0 : o < 0
  · go_enter Tryz.func71, Tryz.ntmps71
    go_wp2_with fail
    (refine calls_named ?_; intro w5 hw5)
    have hB5 : Blk w5 (w.heap.size + 1) 42 #[.slice none 0 0, .int .i64 0] := by rw [hw5]; exact bLNt
    have hb5 : Below w.heap.size w w5 := by rw [hw5]; exact bELt
    clear hw5
    with_reducible refine (refAt0_any _ _ _ _).mono ?_
    rintro e w2 ⟨⟨A4, n4, m4, rfl, hg4⟩, hb⟩
    have hB2 := Blk.below hB5 hb hB5.lt
    obtain ⟨c0, c1, f0, f1⟩ := hB2.two
    have hb2 : Below w.heap.size w w2 := Bel.step hb5 hb
    go_wp2_with fail
    refine bodyPost_ret (v := .agg #[.slice A4 n4 m4, .int .i64 1]) (by simp [results, Tryz.results71, go_sem, c0, c1]) rfl ?_
    first | exact ⟨CkRes0.no (by decide), bELt⟩ | exact ⟨CkRes.no (Wg.mono (B := w5.heap.size) (Wg.setCell (Wg.setCell hg4 hB5.lt _) hB5.lt _) hb5.size) (by decide), bELt⟩
  by_cases o1 : o > 16
  · go_enter Tryz.func71, Tryz.ntmps71
    go_wp2_with fail
    (refine calls_named ?_; intro w5 hw5)
    have hB5 : Blk w5 (w.heap.size + 1) 42 #[.slice none 0 0, .int .i64 0] := by rw [hw5]; exact bLNt
    have hb5 : Below w.heap.size w w5 := by rw [hw5]; exact bELt
    clear hw5
    with_reducible refine (refAt0_any _ _ _ _).mono ?_
    rintro e w2 ⟨⟨A4, n4, m4, rfl, hg4⟩, hb⟩
    have hB2 := Blk.below hB5 hb hB5.lt
    obtain ⟨c0, c1, f0, f1⟩ := hB2.two
    have hb2 : Below w.heap.size w w2 := Bel.step hb5 hb
    go_wp2_with fail
    refine bodyPost_ret (v := .agg #[.slice A4 n4 m4, .int .i64 1]) (by simp [results, Tryz.results71, go_sem, c0, c1]) rfl ?_
    first | exact ⟨CkRes0.no (by decide), bELt⟩ | exact ⟨CkRes.no (Wg.mono (B := w5.heap.size) (Wg.setCell (Wg.setCell hg4 hB5.lt _) hB5.lt _) hb5.size) (by decide), bELt⟩
  have hm := mul_bd (a := i) (b := o) (by omega) (by omega) (by omega) (by omega)
  have j1 : IntKind.i64.wrap (i * o) = i * o := IntWalk.i64_in _ (by omega)
  by_cases hl : (n : Int) = i * o
  rotate_left
  · have j2 : ((n : Int) != i * o) = true := by simpa using hl
    have j3 : ((n : Int) == i * o) = false := by simpa using hl
    clear hl
    go_enter Tryz.func71, Tryz.ntmps71
    go_wp2_with fail
    (refine calls_named ?_; intro w5 hw5)
    have hB5 : Blk w5 (w.heap.size + 1) 42 #[.slice none 0 0, .int .i64 0] := by rw [hw5]; exact bLNt
    have hb5 : Below w.heap.size w w5 := by rw [hw5]; exact bELt
    clear hw5
    with_reducible refine (refAt0_any _ _ _ _).mono ?_
    rintro e w2 ⟨⟨A4, n4, m4, rfl, hg4⟩, hb⟩
    have hB2 := Blk.below hB5 hb hB5.lt
    obtain ⟨c0, c1, f0, f1⟩ := hB2.two
    have hb2 : Below w.heap.size w w2 := Bel.step hb5 hb
    go_wp2_with fail
    refine bodyPost_ret (v := .agg #[.slice A4 n4 m4, .int .i64 9]) (by simp [results, Tryz.results71, go_sem, c0, c1]) rfl ?_
    first | exact ⟨CkRes0.no (by decide), bELt⟩ | exact ⟨CkRes.no (Wg.mono (B := w5.heap.size) (Wg.setCell (Wg.setCell hg4 hB5.lt _) hB5.lt _) hb5.size) (by decide), bELt⟩
  have j2 : ((n : Int) != i * o) = false := by simpa using hl
  have j3 : ((n : Int) == i * o) = true := by simpa using hl
  have hn : n ≤ 256 := by omega
  have HL := Lib.hid hl
  clear hl
  go_enter Tryz.func71, Tryz.ntmps71
  go_wp2_with fail
  (refine wp_named ?_; intro w1 hw1)
  have hb1 : Below w.heap.size w w1 := by rw [hw1]; exact bELt
  have hT1 : Blk w1 w.heap.size 61 #[.int .i64 i, .int .i64 o, .slice A n c] := by rw [hw1]; exact bLNt
  have hB1 : Blk w1 (w.heap.size + 1) 42 #[.slice none 0 0, .int .i64 0] := by rw [hw1]; exact bLNt
  clear hw1
  go_loopw [3] (fun q W => ∃ k : Nat, k ≤ n ∧ q = .int .i64 k ∧ Below w.heap.size w W ∧ Blk W w.heap.size 61 #[.int .i64 i, .int .i64 o, .slice A n c] ∧ Blk W (w.heap.size + 1) 42 #[.slice none 0 0, .int .i64 0] ∧ ∀ j x, j < k → cs[j]? = some x → wOk x = true) (fun q _ => n - (intOf q).toNat)
  case atStart => exact ⟨0, Nat.zero_le _, rfl, hb1, hT1, hB1, fun _ _ h => absurd h (Nat.not_lt_zero _)⟩
  case round =>
    clear hb1 hT1 hB1
    obtain ⟨k, hk, rfl, hbl, hT, hB, hall⟩ := hrel
    have HA := Lib.hid hall
    clear hall
    obtain ⟨t0, t1, t2⟩ := hT.three
    have zT := hT.lt
    by_cases hlt : k < n
    · obtain ⟨b, oo, x, rfl, hx, hc⟩ := (h.below hbl).at_ hlt
      have i2 : (0 : Int) ≤ (k : Int) := by omega
      have i3 : (k : Int) < (n : Int) := by omega
      have HX := Lib.hid hx
      clear hx
      cases hw : wOk x
      · have HW := Lib.hid (show ∀ V, Calls Tryz.prog 25 #[.int .i64 x] V fun e w' => e = .returned (.bool false) ∧ V = w' from fun V => by
          have := refWeight_any x V
          rw [hw] at this
          exact this)
        go_wp2_with fail
        with_reducible refine (HW.out _).mono ?_
        rintro e w' ⟨rfl, rfl⟩
        go_wp2_with fail
        (refine calls_named ?_; intro w5 hw5)
        have hB5 : Blk w5 (w.heap.size + 1) 42 #[.slice none 0 0, .int .i64 0] := by rw [hw5]; exact bLNt
        have hb5 : Below w.heap.size w w5 := by rw [hw5]; exact bELt
        clear hw5
        with_reducible refine (refAt0_any _ _ _ _).mono ?_
        rintro e w2 ⟨⟨A4, n4, m4, rfl, hg4⟩, hb⟩
        have hB2 := Blk.below hB5 hb hB5.lt
        obtain ⟨c0, c1, f0, f1⟩ := hB2.two
        have hb2 : Below w.heap.size w w2 := Bel.step hb5 hb
        go_wp2_with fail
        refine bodyPost_ret (v := .agg #[.slice A4 n4 m4, .int .i64 8]) (by simp [results, Tryz.results71, go_sem, c0, c1]) rfl ?_
        first | exact ⟨CkRes0.no (by decide), bELt⟩ | exact ⟨CkRes.no (Wg.mono (B := w5.heap.size) (Wg.setCell (Wg.setCell hg4 hB5.lt _) hB5.lt _) hb5.size) (by decide), bELt⟩
      · have HW := Lib.hid (show ∀ V, Calls Tryz.prog 25 #[.int .i64 x] V fun e w' => e = .returned (.bool true) ∧ V = w' from fun V => by
          have := refWeight_any x V
          rw [hw] at this
          exact this)
        have HW2 := Lib.hid hw
        clear hw
        go_wp2_with fail
        with_reducible refine (HW.out _).mono ?_
        rintro e w' ⟨rfl, rfl⟩
        go_wp2_with fail
        go_roundw
        case rel =>
          refine ⟨k + 1, by omega, by go_num, hbl, hT, hB, fun j y hj hy => ?_⟩
          by_cases e : j = k
          · subst e
            rw [HX.out] at hy
            cases hy
            exact HW2.out
          · exact HA.out j y (by omega) hy
        case measure => simp [intOf]; omega
    · obtain rfl : k = n := by omega
      have zB := hB.lt
      obtain ⟨c0, c1, f0, f1⟩ := hB.two
      go_wp2_with fail
      refine bodyPost_ret (v := .agg #[.slice none 0 0, .int .i64 0]) (by simp [results, Tryz.results71, go_sem, c0, c1]) rfl ?_
      refine ⟨⟨_, _, _, _, rfl, Wg.none _ _, .inl ⟨rfl, ⟨by simp only; omega, by simp only; omega, by simp only; omega, by simp only; omega, ?_, ?_⟩⟩⟩, bELt⟩
      · simp only
        rw [h.1]
        exact HL.out
      · intro y hy
        obtain ⟨j, hj⟩ := List.getElem?_of_mem hy
        exact HA.out j y (by rw [← h.1]; exact (List.getElem?_eq_some_iff.1 hj).1) hj
end Go.Proofs.YtpffhoefmcpniaaGreatDoor

/- The document's Within. -/
namespace Go.Proofs.YtpffhoefmcpniaaGreatDoor
open Go.RowKit

attribute [local go_sem ↓] Go.wp_at_zero Go.wp_at_succ

theorem infoPart : (Tryz.prog.info? 101).map (fun i => (i.zero, i.size, i.bytes)) = some (some (.agg #[.string ⟨#[]⟩, .int .i64 0]), 2, 24) := by kernel_rfl
set_option maxHeartbeats 1000000 in
theorem refWithin_any (s : ByteArray) (at_ : Int) (A : Option Addr) (k c B : Nat) (x : Int) (w : World) (hx : x ≠ 0) (hg : Wg B w A k c) :
    Calls Tryz.prog 72 #[.string s, .int .i64 at_, .agg #[.slice A k c, .int .i64 x]] w fun e w' => (∃ A' k' c', e = .returned (.agg #[.slice A' k' c', .int .i64 x])) ∧ Below w.heap.size w w' := by
  obtain ⟨xs, ho, hone, hk⟩ := hg
  have hr := ho.rds
  have HR := Lib.hid hr
  have HO := Lib.hid hone
  clear ho hone hr
  go_enter Tryz.func72, Tryz.ntmps72
  go_wp2_with fail
  (refine wp_named ?_; intro w1 hw1)
  have hb1 : Below w.heap.size w w1 := by rw [hw1]; exact bELt
  have hT1 : Blk w1 w.heap.size 42 #[.slice A k c, .int .i64 x] := by rw [hw1]; exact bLNt
  have hB1 : Blk w1 (w.heap.size + 1) 42 #[.slice none 0 0, .int .i64 0] := by rw [hw1]; exact bLNt
  have hz1 : w1.heap.size = w.heap.size + 1 + 1 := by rw [hw1]; simp
  clear hw1
  obtain ⟨t0, t1, _, _⟩ := hT1.two
  go_wp2_with fail
  have hb0 : Below (w.heap.size + 1) w1 w1.drew := (Below.refl _ _).drew
  have HSX := Lib.hid (show ∀ V, Below (w.heap.size + 1) w1 V → V.cell? ⟨w.heap.size, 0, none⟩ = some (.slice A k c) ∧ V.cell? ⟨w.heap.size, 1, none⟩ = some (.int .i64 x) from fun V hV => ⟨(hV.cell (Nat.lt_succ_self _)).trans t0, (hV.cell (Nat.lt_succ_self _)).trans t1⟩)
  refine wp_region_held_drew (S := fun V => Below (w.heap.size + 1) w1 V) (by kernel_rfl) hb0 (fun _ => ?_)
  refine tk 0 11 (h := ⟨_, tv, ?_⟩)
  simp only [pE, List.set]
  refine tk 1 12 (h := ⟨_, tv, ?_⟩)
  simp only [pE, List.set]
  refine tk 2 13 (h := ⟨_, tv, ?_⟩)
  simp only [pE, List.set]
  refine tk 4 15 (h := ⟨_, tv, ?_⟩)
  simp only [pE, List.set]
  refine tk 5 16 (h := ⟨_, tv, ?_⟩)
  simp only [pE, List.set]
  refine tk 7 18 (h := ⟨_, tv, ?_⟩)
  simp only [pE, List.set]
  refine tk 8 19 (h := ⟨_, tv, ?_⟩)
  simp only [pE, List.set]
  refine wpAnyH_ready (rs := [3]) (by kernel_rfl) (by simp) ?_
  refine AllReadyH.cons (o := _) rfl (fun K hK => ?_) AllReadyH.nil
  go_simp
  obtain ⟨W, hW⟩ : ∃ W, W = (w1.alloc (.cells #[.string s, .int .i64 at_] 101)).drew := ⟨_, rfl⟩
  rw [← hW]
  have hownW : Own W (w.heap.size + 1 + 1) 101 2 (some ⟨w1.heap.size, 0, none⟩) 1 1 [.string s, .int .i64 at_] := by
    rw [hW]; exact Own.drew (Own.lit w1 #[.string s, .int .i64 at_] 1 (by omega) (by omega) rfl)
  rw [hz1] at hownW
  have hbW : Below (w.heap.size + 1) w1 W := by rw [hW]; exact ((Below.refl _ _).alloc (by omega) _).drew
  have hB2 : Blk W (w.heap.size + 1) 42 #[.slice none 0 0, .int .i64 0] := by rw [hW]; exact bLKt
  have hrW : Rds W 2 A k xs := HR.out.below (hb1.trans (hbW.mono (by omega)))
  have hzW : w.heap.size + 1 + 1 ≤ W.heap.size := by have := hbW.size; omega
  have hbwW : Below w.heap.size w W := hb1.trans (hbW.mono (by omega))
  clear hW
  refine hK.out _ _ hbW (fun _ => ?_)
  clear hK K
  refine wpAnyH_ready (rs := [6]) (by kernel_rfl) (by simp) ?_
  refine AllReadyH.cons (o := _) rfl (fun K hK => ?_) AllReadyH.nil
  with_reducible refine step_app' (some 17) rfl rfl (.tmp 14) (.tmp 16) 40 rfl 101 _ 2 24 infoPart Tryz.underlying40 rfl (by omega) rfl rfl hownW hrW HO.out (by omega) (by omega) hzW ?_
  intro A' c' w' hown' hg' _
  have hb5 : Below (w.heap.size + 1) w1 w' := Bel.grownOwn hbW hg' (hownW.mono (by omega)) (by omega)
  have hb6 : Below w.heap.size w w' := Bel.grownOwn hbwW hg' (hownW.mono (by omega)) (by omega)
  have hB' := hB2.grown hg' (hownW.ne (by omega))
  refine hK.out _ _ hb5 (fun _ => ?_)
  clear hK K hownW hrW hg' hown'
  simp only [Act.put, List.setIfInBounds_toArray, List.set_cons_zero, List.set_cons_succ]
  obtain ⟨c0, c1, f0, f1⟩ := hB'.two
  refine tk 9 20 (h := ⟨_, tv, ?_⟩)
  simp only [pE, List.set]
  refine wpAnyH_ready (rs := [10]) (by kernel_rfl) (by simp) ?_
  refine AllReadyH.cons (o := _) rfl (fun K hK => ?_) AllReadyH.nil
  go_simp
  refine hK.out _ _ ((hb5.setCell (by simp only; omega) _).setCell (by simp only; omega) _) (fun _ => ?_)
  clear hK K
  refine wpAnyH_done (by kernel_rfl) ?_ _
  go_wp2_with fail
  refine bodyPost_ret (v := .agg #[.slice A' (1 + k) c', .int .i64 x]) (by simp [results, Tryz.results72, go_sem, c0, c1]) rfl ?_
  exact ⟨⟨_, _, _, rfl⟩, bELt⟩
end Go.Proofs.YtpffhoefmcpniaaGreatDoor
