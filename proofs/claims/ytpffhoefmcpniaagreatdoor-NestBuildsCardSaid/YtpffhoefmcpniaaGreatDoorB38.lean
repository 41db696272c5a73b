/- Parts of the proof: Nf7, Ne9. -/
import Derived.Test.YtpffhoefmcpniaaGreatDoorB1
import Derived.Test.YtpffhoefmcpniaaGreatDoorB36
import Derived.Test.YtpffhoefmcpniaaGreatDoorB37
namespace Go.Proofs.YtpffhoefmcpniaaGreatDoor
open Go.RowKit

attribute [local go_sem ↓] Go.wp_at_zero Go.wp_at_succ

def RPBad (ps : List (ByteArray × Int)) (c : Int) (w : World) (e : Ending) (w' : World) : Prop := ∃ A4 n4 m4, e = .returned (.tuple #[.slice none 0 0, .agg #[.slice A4 n4 m4, .int .i64 c]]) ∧ RdW w' A4 n4 ps ∧ n4 ≤ 1000000 ∧ Below w.heap.size w w'
set_option maxHeartbeats 2000000 in
theorem refPieces_low (A B C AV : Option Addr) (n m k c d e kv cv : Nat) (bd : Int) (w : World) (hbd : bd < 1) :
 Calls Tryz.prog 20 #[.agg #[.slice A n c, .slice B m d, .slice C k e], .slice AV kv cv, .int .i64 bd] w (RPBad [((⟨#[110, 101, 115, 116]⟩ : ByteArray), 0)] 1 w) := by
 obtain ⟨W5, hW5⟩ : ∃ W, W = (w.alloc (.cells #[.slice A n c, .slice B m d, .slice C k e] 26)).alloc (.cells #[.slice none 0 0, .int .i64 0] 42) := ⟨_, rfl⟩
 have hbW : Below w.heap.size w W5 := by rw [hW5]; exact bELt
 have hR : Blk W5 (w.heap.size + 1) 42 #[.slice none 0 0, .int .i64 0] := by rw [hW5]; exact bLNt
 have HW5 := Lib.hid hW5
 clear hW5
 go_enter Tryz.func20, Tryz.ntmps20
 go_wp2_with fail
 rw [← HW5.out]
 go_wp2_with fail
 (refine calls_named ?_; intro w4 hw4)
 have hb4 : Below W5.heap.size W5 w4 := by rw [hw4]; exact bELt
 have hR4 := hR.below hb4 hR.lt
 have hbw4 := Bel.step hbW hb4
 clear hw4 hb4
 with_reducible refine (refAt_x _ _ _ _).mono ?_
 rintro r w5 ⟨A4, n4, m4, rfl, h4, hfr, hn4, hb5⟩
 have hR5 := hR4.below hb5 hR4.lt
 obtain ⟨c0, c1⟩ : w5.cell? ⟨w.heap.size + 1, 0, none⟩ = some (.slice none 0 0) ∧ w5.cell? ⟨w.heap.size + 1, 1, none⟩ = some (.int .i64 0) := ⟨by rw [hR5.cell]; rfl, by rw [hR5.cell]; rfl⟩
 have f0 := hR5.frozen 0
 have f1 := hR5.frozen 1
 have hlt4 := hR4.lt
 have HRW := Lib.hid ((h4.setFar (w.heap.size + 1) 0 (.slice A4 n4 m4) (fun b hb => ⟨by have := (hfr b hb).1; omega, (hfr b hb).2⟩)).setFar (w.heap.size + 1) 1 (.int .i64 1) (fun b hb => ⟨by have := (hfr b hb).1; omega, by simpa [World.setCell] using (hfr b hb).2⟩))
 have hb3 := Bel.step hbw4 hb5
 have HB3 := Lib.hid ((hb3.setCell (p := ⟨w.heap.size + 1, 0, none⟩) (show w.heap.size ≤ w.heap.size + 1 by omega) (.slice A4 n4 m4)).setCell (p := ⟨w.heap.size + 1, 1, none⟩) (show w.heap.size ≤ w.heap.size + 1 by omega) (.int .i64 1))
 have hR9 := (hR5.set_ 0 (.slice A4 n4 m4)).set_ 1 (.int .i64 1)
 have d0 : ((w5.setCell ⟨w.heap.size + 1, 0, none⟩ (.slice A4 n4 m4)).setCell ⟨w.heap.size + 1, 1, none⟩ (.int .i64 1)).cell? ⟨w.heap.size + 1, 0, none⟩ = some (.slice A4 n4 m4) := by rw [hR9.cell]; rfl
 have d1 : ((w5.setCell ⟨w.heap.size + 1, 0, none⟩ (.slice A4 n4 m4)).setCell ⟨w.heap.size + 1, 1, none⟩ (.int .i64 1)).cell? ⟨w.heap.size + 1, 1, none⟩ = some (.int .i64 1) := by rw [hR9.cell]; rfl
 have HD := Lib.hid (And.intro d0 d1)
 have HN4 := Lib.hid hn4
 clear h4 hfr hb5 hb3 hR4 hR5 hR9 d0 d1 hn4 hR
 go_wp2_with fail
 obtain ⟨d0, d1⟩ := HD.out
 refine bodyPost_ret (v := .tuple #[.slice none 0 0, .agg #[.slice A4 n4 m4, .int .i64 1]]) (by simp [results, Tryz.results20, go_sem, d0, d1]) rfl ?_
 exact ⟨A4, n4, m4, rfl, HRW.out, HN4.out, HB3.out⟩
set_option maxHeartbeats 8000000 in
set_option maxRecDepth 20000 in
theorem refPieces_bad (A B C AV : Option Addr) (n m k c d e kv cv bd i0 : Nat) (c0_ : Int) (N : NetD) (vs : List Int) (w : World) (h : RdNet w A B C n m k N) (hv : RdI w AV kv vs) (hok : VrtBad N.vs.length 5 6 vs i0 c0_) (hbd : 1 ≤ bd) (hk9 : kv ≤ 1000000) :
 Calls Tryz.prog 20 #[.agg #[.slice A n c, .slice B m d, .slice C k e], .slice AV kv cv, .int .i64 (bd : Int)] w (RPBad [((⟨#[118, 101, 114, 116]⟩ : ByteArray), (i0 : Int))] c0_ w) := by
 have HV := Lib.hid hv
 have hnl : N.vs.length = n := h.1.1
 have hkl : vs.length = kv := hv.1
 obtain ⟨hi0, hall, y0, hy0, hbad⟩ := hok
 rw [hkl] at hi0
 rw [hnl] at hall hbad
 have HOK := Lib.hid hall
 have HX0 := Lib.hid hy0
 have HBAD := Lib.hid hbad
 have hb0 : ¬ (bd : Int) < 1 := by omega
 clear h hv hall hy0 hbad hkl hnl
 go_enter Tryz.func20, Tryz.ntmps20
 go_wp2_with fail
 (refine wp_named ?_; intro w1 hw1)
 have hb1 : Below w.heap.size w w1 := by rw [hw1]; exact bELt
 have HX1 := Lib.hid (show Blk w1 w.heap.size 26 #[.slice A n c, .slice B m d, .slice C k e] by rw [hw1]; exact bLNt)
 have HR1 := Lib.hid (show Blk w1 (w.heap.size + 1) 42 #[.slice none 0 0, .int .i64 0] by rw [hw1]; exact bLNt)
 have HB1 := Lib.hid hb1
 clear hw1 hb1
 go_loopw [8] (fun q W => Below w1.heap.size w1 W ∧ ∃ j : Nat, j ≤ i0 ∧ q = .int .i64 (j : Int)) (fun q _ => kv - (intOf q).toNat)
 case atStart => exact ⟨Below.refl _ _, 0, Nat.zero_le _, rfl⟩
 case round =>
  obtain ⟨hbl, j, hj, rfl⟩ := hrel
  have HBL := Lib.hid hbl
  have p0 : wr.cell? ⟨w.heap.size, 0, none⟩ = some (.slice A n c) := by rw [(HX1.out.below hbl HX1.out.lt).cell]; rfl
  clear hbl
  have hjk : j < kv := by omega
  obtain ⟨vb, vo, x, rfl, hx, hc⟩ := (HV.out.below (Bel.step HB1.out HBL.out)).at_ hjk
  have HX := Lib.hid hx
  clear hx
  by_cases hjo : j < i0
  · skip
    have i1 : (0 : Int) ≤ (j : Int) := by omega
    have i2 : (j : Int) < (kv : Int) := by omega
    obtain ⟨x', hx', x0, x1, xa⟩ := HOK.out j hjo
    rw [HX.out] at hx'
    obtain rfl : x = x' := by injection hx'
    have HXA := Lib.hid xa
    have x2 : decide (x < 0) = false := decide_eq_false (by omega)
    have x3 : decide (x ≥ (n : Int)) = false := decide_eq_false (by omega)
    have x4 : decide ((n : Int) ≤ x) = false := decide_eq_false (by omega)
    have HSX := Lib.hid (show ∀ V, Below wr.heap.size wr V → V.cell? ⟨vb, vo + j, none⟩ = some (.int .i64 x) ∧ V.cell? ⟨w.heap.size, 0, none⟩ = some (.slice A n c) ∧ decide (x < 0) = false ∧ decide (x ≥ (n : Int)) = false ∧ decide ((n : Int) ≤ x) = false ∧ (0 : Int) ≤ (j : Int) ∧ (j : Int) < (kv : Int) from fun V hV => ⟨Below.cellOf hV (Nat.le_refl _) hc, Below.cellOf hV (Nat.le_refl _) p0, x2, x3, x4, i1, i2⟩)
    clear hx' xa x2 x3 x4
    go_wp2_with fail
    refine wp_region_held_drew (S := fun V => Below wr.heap.size wr V) (by kernel_rfl) (Below.refl _ _).drew (fun _ => ?_)
    refine tk 0 18 (h := ⟨_, tv, ?_⟩)
    simp only [pE, List.set]
    refine tk 1 19 (h := ⟨_, tv, ?_⟩)
    simp only [pE, List.set]
    refine tk 2 20 (h := ⟨_, tv, ?_⟩)
    simp only [pE, List.set]
    refine tk 3 21 (h := ⟨_, tv, ?_⟩)
    simp only [pE, List.set]
    refine tk 4 22 (h := ⟨_, tv, ?_⟩)
    simp only [pE, List.set]
    refine tk 5 23 (h := ⟨_, tv, ?_⟩)
    simp only [pE, List.set]
    refine tk 6 24 (h := ⟨_, tv, ?_⟩)
    simp only [pE, List.set]
    refine tk 7 25 (h := ⟨_, tv, ?_⟩)
    simp only [pE, List.set]
    refine tk 8 26 (h := ⟨_, tv, ?_⟩)
    simp only [pE, List.set]
    refine tk 9 27 (h := ⟨_, tv, ?_⟩)
    simp only [pE, List.set]
    refine tk 10 28 (h := ⟨_, tv, ?_⟩)
    simp only [pE, List.set]
    refine tk 11 29 (h := ⟨_, tv, ?_⟩)
    simp only [pE, List.set]
    refine tk 12 30 (h := ⟨_, tv, ?_⟩)
    simp only [pE, List.set]
    refine tk 13 31 (h := ⟨_, tv, ?_⟩)
    simp only [pE, List.set]
    refine tk 14 32 (h := ⟨_, tv, ?_⟩)
    simp only [pE, List.set]
    refine wpAnyH_done (by kernel_rfl) ?_ _
    clear HSX
    by_cases hz : j = 0
    · have e0 : decide ((j : Int) > 0) = false := decide_eq_false (by omega)
      have e00 : decide (0 < j) = false := decide_eq_false (by omega)
      have HSX := Lib.hid (show ∀ V, Below wr.heap.size wr V → decide ((j : Int) > 0) = false ∧ decide (0 < j) = false from fun V hV => ⟨e0, e00⟩)
      clear hz e0 e00
      go_wp2_with fail
      refine wp_region_held_drew (S := fun V => Below wr.heap.size wr V) (by kernel_rfl) (Below.refl _ _).drew.drew (fun _ => ?_)
      refine tk 0 35 (h := ⟨_, tv, ?_⟩)
      simp only [pE, List.set]
      refine tk 1 36 (h := ⟨_, tv, ?_⟩)
      simp only [pE, List.set]
      refine tk 2 37 (h := ⟨_, tv, ?_⟩)
      simp only [pE, List.set]
      refine tu 3 38 (h := ?_)
      simp only [pE, List.set]
      refine tu 4 39 (h := ?_)
      simp only [pE, List.set]
      refine tu 5 40 (h := ?_)
      simp only [pE, List.set]
      refine tu 6 41 (h := ?_)
      simp only [pE, List.set]
      refine tu 7 42 (h := ?_)
      simp only [pE, List.set]
      refine tu 8 43 (h := ?_)
      simp only [pE, List.set]
      refine tu 9 44 (h := ?_)
      simp only [pE, List.set]
      refine tu 10 45 (h := ?_)
      simp only [pE, List.set]
      refine tu 11 46 (h := ?_)
      simp only [pE, List.set]
      refine tu 12 47 (h := ?_)
      simp only [pE, List.set]
      refine tk 13 48 (h := ⟨_, tv, ?_⟩)
      simp only [pE, List.set]
      refine wpAnyH_done (by kernel_rfl) ?_ _
      have hbd := HBL.out.drew.drew
      go_wp2_with fail
      go_roundw
      case rel => exact ⟨hbd, j + 1, by omega, by go_num⟩
      case measure => simp [intOf]; omega
    · obtain ⟨i, rfl⟩ : ∃ i, j = i + 1 := ⟨j - 1, by omega⟩
      obtain ⟨b', o', y, e, hy, hcy⟩ := (HV.out.below (Bel.step HB1.out HBL.out)).at_ (show i < kv by omega)
      cases e
      have y1 := HXA.out y (by omega) hy
      have e3 : (i : Int) < (kv : Int) := by omega
      have HSX := Lib.hid (show ∀ V, Below wr.heap.size wr V → V.cell? ⟨vb, vo + (i + 1), none⟩ = some (.int .i64 x) ∧ V.cell? ⟨vb, vo + i, none⟩ = some (.int .i64 y) ∧ decide (((i + 1 : Nat) : Int) > 0) = true ∧ decide ((i : Int) + 1 > 0) = true ∧ decide (0 < (i : Int) + 1) = true ∧ decide (x ≤ y) = false ∧ (i : Int) + 1 - 1 = (i : Int) ∧ IntKind.i64.wrap (i : Int) = (i : Int) ∧ (0 : Int) ≤ (i : Int) ∧ (i : Int) < (kv : Int) ∧ (0 : Int) ≤ (i : Int) + 1 ∧ (i : Int) + 1 < (kv : Int) from fun V hV => ⟨Below.cellOf hV (Nat.le_refl _) hc, Below.cellOf hV (Nat.le_refl _) hcy, decide_eq_true (by omega), decide_eq_true (by omega), decide_eq_true (by omega), decide_eq_false (by omega), by omega, IntWalk.i64_in _ (by omega), by omega, e3, by omega, by omega⟩)
      clear hz hy y1 hcy
      go_wp2_with fail
      refine wp_region_held_drew (S := fun V => Below wr.heap.size wr V) (by kernel_rfl) (Below.refl _ _).drew.drew (fun _ => ?_)
      refine tk 0 35 (h := ⟨_, tv, ?_⟩)
      simp only [pE, List.set]
      refine tk 1 36 (h := ⟨_, tv, ?_⟩)
      simp only [pE, List.set]
      refine tk 2 37 (h := ⟨_, tv, ?_⟩)
      simp only [pE, List.set]
      refine tk 3 38 (h := ⟨_, tv, ?_⟩)
      simp only [pE, List.set]
      refine tk 4 39 (h := ⟨_, tv, ?_⟩)
      simp only [pE, List.set]
      refine tk 5 40 (h := ⟨_, tv, ?_⟩)
      simp only [pE, List.set]
      refine tk 6 41 (h := ⟨_, tv, ?_⟩)
      simp only [pE, List.set]
      refine tk 7 42 (h := ⟨_, tv, ?_⟩)
      simp only [pE, List.set]
      refine tk 8 43 (h := ⟨_, tv, ?_⟩)
      simp only [pE, List.set]
      refine tk 9 44 (h := ⟨_, tv, ?_⟩)
      simp only [pE, List.set]
      refine tk 10 45 (h := ⟨_, tv, ?_⟩)
      simp only [pE, List.set]
      refine tk 11 46 (h := ⟨_, tv, ?_⟩)
      simp only [pE, List.set]
      refine tk 12 47 (h := ⟨_, tv, ?_⟩)
      simp only [pE, List.set]
      refine tk 13 48 (h := ⟨_, tv, ?_⟩)
      simp only [pE, List.set]
      refine wpAnyH_done (by kernel_rfl) ?_ _
      have hbd := HBL.out.drew.drew
      go_wp2_with fail
      go_roundw
      case rel => exact ⟨hbd, i + 1 + 1, by omega, by go_num⟩
      case measure => simp [intOf]; omega
  obtain rfl : j = i0 := by omega
  have hxx := HX0.out
  rw [HX.out] at hxx
  obtain rfl : x = y0 := by injection hxx
  have i1 : (0 : Int) ≤ (j : Int) := by omega
  have i2 : (j : Int) < (kv : Int) := by omega
  have hR := HR1.out.below HBL.out HR1.out.lt
  have hbW := Bel.step HB1.out HBL.out
  obtain ⟨W5, rfl⟩ : ∃ W, W = wr := ⟨_, rfl⟩
  clear hxx hjo hj
  rcases HBAD.out with ⟨hr, rfl⟩ | ⟨h0, h1, hz, rfl, y, hy, hle⟩
  · by_cases hneg : x < 0
    · have HSX := Lib.hid (show ∀ V, Below W5.heap.size W5 V → V.cell? ⟨vb, vo + j, none⟩ = some (.int .i64 x) ∧ decide (x < 0) = true ∧ (0 : Int) ≤ (j : Int) ∧ (j : Int) < (kv : Int) from fun V hV => ⟨Below.cellOf hV (Nat.le_refl _) hc, decide_eq_true hneg, i1, i2⟩)
      clear hr hneg
      go_wp2_with fail
      refine wp_region_held_drew (S := fun V => Below W5.heap.size W5 V) (by kernel_rfl) (Below.refl _ _).drew (fun _ => ?_)
      refine tk 0 18 (h := ⟨_, tv, ?_⟩)
      simp only [pE, List.set]
      refine tk 1 19 (h := ⟨_, tv, ?_⟩)
      simp only [pE, List.set]
      refine tk 2 20 (h := ⟨_, tv, ?_⟩)
      simp only [pE, List.set]
      refine tk 3 21 (h := ⟨_, tv, ?_⟩)
      simp only [pE, List.set]
      refine tk 4 22 (h := ⟨_, tv, ?_⟩)
      simp only [pE, List.set]
      refine tk 5 23 (h := ⟨_, tv, ?_⟩)
      simp only [pE, List.set]
      refine tu 6 24 (h := ?_)
      simp only [pE, List.set]
      refine tu 7 25 (h := ?_)
      simp only [pE, List.set]
      refine tu 8 26 (h := ?_)
      simp only [pE, List.set]
      refine tu 9 27 (h := ?_)
      simp only [pE, List.set]
      refine tu 10 28 (h := ?_)
      simp only [pE, List.set]
      refine tu 11 29 (h := ?_)
      simp only [pE, List.set]
      refine tu 12 30 (h := ?_)
      simp only [pE, List.set]
      refine tu 13 31 (h := ?_)
      simp only [pE, List.set]
      refine tk 14 32 (h := ⟨_, tv, ?_⟩)
      simp only [pE, List.set]
      refine wpAnyH_done (by kernel_rfl) ?_ _
      go_wp2_with fail
      (refine calls_named ?_; intro w4 hw4)
      have hb4 : Below W5.heap.size W5 w4 := by rw [hw4]; exact bELt
      have hR4 := hR.below hb4 hR.lt
      have hbw4 := Bel.step hbW hb4
      clear hw4 hb4
      with_reducible refine (refAt_x _ _ _ _).mono ?_
      rintro r w5 ⟨A4, n4, m4, rfl, h4, hfr, hn4, hb5⟩
      have hR5 := hR4.below hb5 hR4.lt
      obtain ⟨c0, c1⟩ : w5.cell? ⟨w.heap.size + 1, 0, none⟩ = some (.slice none 0 0) ∧ w5.cell? ⟨w.heap.size + 1, 1, none⟩ = some (.int .i64 0) := ⟨by rw [hR5.cell]; rfl, by rw [hR5.cell]; rfl⟩
      have f0 := hR5.frozen 0
      have f1 := hR5.frozen 1
      have hlt4 := hR4.lt
      have HRW := Lib.hid ((h4.setFar (w.heap.size + 1) 0 (.slice A4 n4 m4) (fun b hb => ⟨by have := (hfr b hb).1; omega, (hfr b hb).2⟩)).setFar (w.heap.size + 1) 1 (.int .i64 5) (fun b hb => ⟨by have := (hfr b hb).1; omega, by simpa [World.setCell] using (hfr b hb).2⟩))
      have hb3 := Bel.step hbw4 hb5
      have HB3 := Lib.hid ((hb3.setCell (p := ⟨w.heap.size + 1, 0, none⟩) (show w.heap.size ≤ w.heap.size + 1 by omega) (.slice A4 n4 m4)).setCell (p := ⟨w.heap.size + 1, 1, none⟩) (show w.heap.size ≤ w.heap.size + 1 by omega) (.int .i64 5))
      have hR9 := (hR5.set_ 0 (.slice A4 n4 m4)).set_ 1 (.int .i64 5)
      have d0 : ((w5.setCell ⟨w.heap.size + 1, 0, none⟩ (.slice A4 n4 m4)).setCell ⟨w.heap.size + 1, 1, none⟩ (.int .i64 5)).cell? ⟨w.heap.size + 1, 0, none⟩ = some (.slice A4 n4 m4) := by rw [hR9.cell]; rfl
      have d1 : ((w5.setCell ⟨w.heap.size + 1, 0, none⟩ (.slice A4 n4 m4)).setCell ⟨w.heap.size + 1, 1, none⟩ (.int .i64 5)).cell? ⟨w.heap.size + 1, 1, none⟩ = some (.int .i64 5) := by rw [hR9.cell]; rfl
      have HD := Lib.hid (And.intro d0 d1)
      have HN4 := Lib.hid hn4
      clear h4 hfr hb5 hb3 hR4 hR5 hR9 d0 d1 hn4 hR
      go_wp2_with fail
      obtain ⟨d0, d1⟩ := HD.out
      refine bodyPost_ret (v := .tuple #[.slice none 0 0, .agg #[.slice A4 n4 m4, .int .i64 5]]) (by simp [results, Tryz.results20, go_sem, d0, d1]) rfl ?_
      exact ⟨A4, n4, m4, rfl, HRW.out, HN4.out, HB3.out⟩
    · have HSX := Lib.hid (show ∀ V, Below W5.heap.size W5 V → V.cell? ⟨vb, vo + j, none⟩ = some (.int .i64 x) ∧ V.cell? ⟨w.heap.size, 0, none⟩ = some (.slice A n c) ∧ decide (x < 0) = false ∧ decide (x ≥ (n : Int)) = true ∧ decide ((n : Int) ≤ x) = true ∧ (0 : Int) ≤ (j : Int) ∧ (j : Int) < (kv : Int) from fun V hV => ⟨Below.cellOf hV (Nat.le_refl _) hc, Below.cellOf hV (Nat.le_refl _) p0, decide_eq_false hneg, decide_eq_true (by omega), decide_eq_true (by omega), i1, i2⟩)
      clear hr hneg
      go_wp2_with fail
      refine wp_region_held_drew (S := fun V => Below W5.heap.size W5 V) (by kernel_rfl) (Below.refl _ _).drew (fun _ => ?_)
      refine tk 0 18 (h := ⟨_, tv, ?_⟩)
      simp only [pE, List.set]
      refine tk 1 19 (h := ⟨_, tv, ?_⟩)
      simp only [pE, List.set]
      refine tk 2 20 (h := ⟨_, tv, ?_⟩)
      simp only [pE, List.set]
      refine tk 3 21 (h := ⟨_, tv, ?_⟩)
      simp only [pE, List.set]
      refine tk 4 22 (h := ⟨_, tv, ?_⟩)
      simp only [pE, List.set]
      refine tk 5 23 (h := ⟨_, tv, ?_⟩)
      simp only [pE, List.set]
      refine tk 6 24 (h := ⟨_, tv, ?_⟩)
      simp only [pE, List.set]
      refine tk 7 25 (h := ⟨_, tv, ?_⟩)
      simp only [pE, List.set]
      refine tk 8 26 (h := ⟨_, tv, ?_⟩)
      simp only [pE, List.set]
      refine tk 9 27 (h := ⟨_, tv, ?_⟩)
      simp only [pE, List.set]
      refine tk 10 28 (h := ⟨_, tv, ?_⟩)
      simp only [pE, List.set]
      refine tk 11 29 (h := ⟨_, tv, ?_⟩)
      simp only [pE, List.set]
      refine tk 12 30 (h := ⟨_, tv, ?_⟩)
      simp only [pE, List.set]
      refine tk 13 31 (h := ⟨_, tv, ?_⟩)
      simp only [pE, List.set]
      refine tk 14 32 (h := ⟨_, tv, ?_⟩)
      simp only [pE, List.set]
      refine wpAnyH_done (by kernel_rfl) ?_ _
      go_wp2_with fail
      (refine calls_named ?_; intro w4 hw4)
      have hb4 : Below W5.heap.size W5 w4 := by rw [hw4]; exact bELt
      have hR4 := hR.below hb4 hR.lt
      have hbw4 := Bel.step hbW hb4
      clear hw4 hb4
      with_reducible refine (refAt_x _ _ _ _).mono ?_
      rintro r w5 ⟨A4, n4, m4, rfl, h4, hfr, hn4, hb5⟩
      have hR5 := hR4.below hb5 hR4.lt
      obtain ⟨c0, c1⟩ : w5.cell? ⟨w.heap.size + 1, 0, none⟩ = some (.slice none 0 0) ∧ w5.cell? ⟨w.heap.size + 1, 1, none⟩ = some (.int .i64 0) := ⟨by rw [hR5.cell]; rfl, by rw [hR5.cell]; rfl⟩
      have f0 := hR5.frozen 0
      have f1 := hR5.frozen 1
      have hlt4 := hR4.lt
      have HRW := Lib.hid ((h4.setFar (w.heap.size + 1) 0 (.slice A4 n4 m4) (fun b hb => ⟨by have := (hfr b hb).1; omega, (hfr b hb).2⟩)).setFar (w.heap.size + 1) 1 (.int .i64 5) (fun b hb => ⟨by have := (hfr b hb).1; omega, by simpa [World.setCell] using (hfr b hb).2⟩))
      have hb3 := Bel.step hbw4 hb5
      have HB3 := Lib.hid ((hb3.setCell (p := ⟨w.heap.size + 1, 0, none⟩) (show w.heap.size ≤ w.heap.size + 1 by omega) (.slice A4 n4 m4)).setCell (p := ⟨w.heap.size + 1, 1, none⟩) (show w.heap.size ≤ w.heap.size + 1 by omega) (.int .i64 5))
      have hR9 := (hR5.set_ 0 (.slice A4 n4 m4)).set_ 1 (.int .i64 5)
      have d0 : ((w5.setCell ⟨w.heap.size + 1, 0, none⟩ (.slice A4 n4 m4)).setCell ⟨w.heap.size + 1, 1, none⟩ (.int .i64 5)).cell? ⟨w.heap.size + 1, 0, none⟩ = some (.slice A4 n4 m4) := by rw [hR9.cell]; rfl
      have d1 : ((w5.setCell ⟨w.heap.size + 1, 0, none⟩ (.slice A4 n4 m4)).setCell ⟨w.heap.size + 1, 1, none⟩ (.int .i64 5)).cell? ⟨w.heap.size + 1, 1, none⟩ = some (.int .i64 5) := by rw [hR9.cell]; rfl
      have HD := Lib.hid (And.intro d0 d1)
      have HN4 := Lib.hid hn4
      clear h4 hfr hb5 hb3 hR4 hR5 hR9 d0 d1 hn4 hR
      go_wp2_with fail
      obtain ⟨d0, d1⟩ := HD.out
      refine bodyPost_ret (v := .tuple #[.slice none 0 0, .agg #[.slice A4 n4 m4, .int .i64 5]]) (by simp [results, Tryz.results20, go_sem, d0, d1]) rfl ?_
      exact ⟨A4, n4, m4, rfl, HRW.out, HN4.out, HB3.out⟩
  · obtain ⟨i, rfl⟩ : ∃ i, j = i + 1 := ⟨j - 1, by omega⟩
    obtain ⟨b', o', y', e, hy', hcy⟩ := (HV.out.below hbW).at_ (show i < kv by omega)
    cases e
    simp only [Nat.add_sub_cancel] at hy
    rw [hy] at hy'
    obtain rfl : y = y' := by injection hy'
    have e3 : (i : Int) < (kv : Int) := by omega
    have HSX := Lib.hid (show ∀ V, Below W5.heap.size W5 V → V.cell? ⟨vb, vo + (i + 1), none⟩ = some (.int .i64 x) ∧ V.cell? ⟨w.heap.size, 0, none⟩ = some (.slice A n c) ∧ decide (x < 0) = false ∧ decide (x ≥ (n : Int)) = false ∧ decide ((n : Int) ≤ x) = false ∧ V.cell? ⟨vb, vo + i, none⟩ = some (.int .i64 y) ∧ decide (((i + 1 : Nat) : Int) > 0) = true ∧ decide ((i : Int) + 1 > 0) = true ∧ decide (0 < (i : Int) + 1) = true ∧ decide (x ≤ y) = true ∧ (i : Int) + 1 - 1 = (i : Int) ∧ IntKind.i64.wrap (i : Int) = (i : Int) ∧ (0 : Int) ≤ (i : Int) ∧ (i : Int) < (kv : Int) ∧ (0 : Int) ≤ (i : Int) + 1 ∧ (i : Int) + 1 < (kv : Int) from fun V hV => ⟨Below.cellOf hV (Nat.le_refl _) hc, Below.cellOf hV (Nat.le_refl _) p0, decide_eq_false (by omega), decide_eq_false (by omega), decide_eq_false (by omega), Below.cellOf hV (Nat.le_refl _) hcy, decide_eq_true (by omega), decide_eq_true (by omega), decide_eq_true (by omega), decide_eq_true hle, by omega, IntWalk.i64_in _ (by omega), by omega, e3, by omega, by omega⟩)
    clear hy hy' hcy hz hle h0 h1
    go_wp2_with fail
    refine wp_region_held_drew (S := fun V => Below W5.heap.size W5 V) (by kernel_rfl) (Below.refl _ _).drew (fun _ => ?_)
    refine tk 0 18 (h := ⟨_, tv, ?_⟩)
    simp only [pE, List.set]
    refine tk 1 19 (h := ⟨_, tv, ?_⟩)
    simp only [pE, List.set]
    refine tk 2 20 (h := ⟨_, tv, ?_⟩)
    simp only [pE, List.set]
    refine tk 3 21 (h := ⟨_, tv, ?_⟩)
    simp only [pE, List.set]
    refine tk 4 22 (h := ⟨_, tv, ?_⟩)
    simp only [pE, List.set]
    refine tk 5 23 (h := ⟨_, tv, ?_⟩)
    simp only [pE, List.set]
    refine tk 6 24 (h := ⟨_, tv, ?_⟩)
    simp only [pE, List.set]
    refine tk 7 25 (h := ⟨_, tv, ?_⟩)
    simp only [pE, List.set]
    refine tk 8 26 (h := ⟨_, tv, ?_⟩)
    simp only [pE, List.set]
    refine tk 9 27 (h := ⟨_, tv, ?_⟩)
    simp only [pE, List.set]
    refine tk 10 28 (h := ⟨_, tv, ?_⟩)
    simp only [pE, List.set]
    refine tk 11 29 (h := ⟨_, tv, ?_⟩)
    simp only [pE, List.set]
    refine tk 12 30 (h := ⟨_, tv, ?_⟩)
    simp only [pE, List.set]
    refine tk 13 31 (h := ⟨_, tv, ?_⟩)
    simp only [pE, List.set]
    refine tk 14 32 (h := ⟨_, tv, ?_⟩)
    simp only [pE, List.set]
    refine wpAnyH_done (by kernel_rfl) ?_ _
    go_wp2_with fail
    refine wp_region_held_drew (S := fun V => Below W5.heap.size W5 V) (by kernel_rfl) (Below.refl _ _).drew.drew (fun _ => ?_)
    refine tk 0 35 (h := ⟨_, tv, ?_⟩)
    simp only [pE, List.set]
    refine tk 1 36 (h := ⟨_, tv, ?_⟩)
    simp only [pE, List.set]
    refine tk 2 37 (h := ⟨_, tv, ?_⟩)
    simp only [pE, List.set]
    refine tk 3 38 (h := ⟨_, tv, ?_⟩)
    simp only [pE, List.set]
    refine tk 4 39 (h := ⟨_, tv, ?_⟩)
    simp only [pE, List.set]
    refine tk 5 40 (h := ⟨_, tv, ?_⟩)
    simp only [pE, List.set]
    refine tk 6 41 (h := ⟨_, tv, ?_⟩)
    simp only [pE, List.set]
    refine tk 7 42 (h := ⟨_, tv, ?_⟩)
    simp only [pE, List.set]
    refine tk 8 43 (h := ⟨_, tv, ?_⟩)
    simp only [pE, List.set]
    refine tk 9 44 (h := ⟨_, tv, ?_⟩)
    simp only [pE, List.set]
    refine tk 10 45 (h := ⟨_, tv, ?_⟩)
    simp only [pE, List.set]
    refine tk 11 46 (h := ⟨_, tv, ?_⟩)
    simp only [pE, List.set]
    refine tk 12 47 (h := ⟨_, tv, ?_⟩)
    simp only [pE, List.set]
    refine tk 13 48 (h := ⟨_, tv, ?_⟩)
    simp only [pE, List.set]
    refine wpAnyH_done (by kernel_rfl) ?_ _
    go_wp2_with fail
    (refine calls_named ?_; intro w4 hw4)
    have hb4 : Below W5.heap.size W5 w4 := by rw [hw4]; exact bELt
    have hR4 := hR.below hb4 hR.lt
    have hbw4 := Bel.step hbW hb4
    clear hw4 hb4
    with_reducible refine (refAt_x _ _ _ _).mono ?_
    rintro r w5 ⟨A4, n4, m4, rfl, h4, hfr, hn4, hb5⟩
    have hR5 := hR4.below hb5 hR4.lt
    obtain ⟨c0, c1⟩ : w5.cell? ⟨w.heap.size + 1, 0, none⟩ = some (.slice none 0 0) ∧ w5.cell? ⟨w.heap.size + 1, 1, none⟩ = some (.int .i64 0) := ⟨by rw [hR5.cell]; rfl, by rw [hR5.cell]; rfl⟩
    have f0 := hR5.frozen 0
    have f1 := hR5.frozen 1
    have hlt4 := hR4.lt
    have HRW := Lib.hid ((h4.setFar (w.heap.size + 1) 0 (.slice A4 n4 m4) (fun b hb => ⟨by have := (hfr b hb).1; omega, (hfr b hb).2⟩)).setFar (w.heap.size + 1) 1 (.int .i64 6) (fun b hb => ⟨by have := (hfr b hb).1; omega, by simpa [World.setCell] using (hfr b hb).2⟩))
    have hb3 := Bel.step hbw4 hb5
    have HB3 := Lib.hid ((hb3.setCell (p := ⟨w.heap.size + 1, 0, none⟩) (show w.heap.size ≤ w.heap.size + 1 by omega) (.slice A4 n4 m4)).setCell (p := ⟨w.heap.size + 1, 1, none⟩) (show w.heap.size ≤ w.heap.size + 1 by omega) (.int .i64 6))
    have hR9 := (hR5.set_ 0 (.slice A4 n4 m4)).set_ 1 (.int .i64 6)
    have d0 : ((w5.setCell ⟨w.heap.size + 1, 0, none⟩ (.slice A4 n4 m4)).setCell ⟨w.heap.size + 1, 1, none⟩ (.int .i64 6)).cell? ⟨w.heap.size + 1, 0, none⟩ = some (.slice A4 n4 m4) := by rw [hR9.cell]; rfl
    have d1 : ((w5.setCell ⟨w.heap.size + 1, 0, none⟩ (.slice A4 n4 m4)).setCell ⟨w.heap.size + 1, 1, none⟩ (.int .i64 6)).cell? ⟨w.heap.size + 1, 1, none⟩ = some (.int .i64 6) := by rw [hR9.cell]; rfl
    have HD := Lib.hid (And.intro d0 d1)
    have HN4 := Lib.hid hn4
    clear h4 hfr hb5 hb3 hR4 hR5 hR9 d0 d1 hn4 hR
    go_wp2_with fail
    obtain ⟨d0, d1⟩ := HD.out
    refine bodyPost_ret (v := .tuple #[.slice none 0 0, .agg #[.slice A4 n4 m4, .int .i64 6]]) (by simp [results, Tryz.results20, go_sem, d0, d1]) rfl ?_
    exact ⟨A4, n4, m4, rfl, HRW.out, HN4.out, HB3.out⟩
end Go.Proofs.YtpffhoefmcpniaaGreatDoor

namespace Go.Proofs.YtpffhoefmcpniaaGreatDoor
open Go.RowKit

theorem RdK.notBlk {k : IntKind} {W : World} {A : Option Addr} {n g : Nat} {l : List Int} {t : TypeId} {cur : Array Value} (h : RdK k W A n l) (hn : 0 < n) (hB : Blk W g t cur) (hs : ∀ (j : Nat) v, cur[j]? = some v → ∃ D m c, v = .slice D m c) : blkOf A ≠ some g := fun e => by
 obtain ⟨b, o, x, rfl, _, hc⟩ := h.at_ hn
 have e : some b = some g := e
 injection e with e
 subst e
 rw [hB.cell] at hc
 obtain ⟨D, m, c, hv⟩ := hs _ _ hc
 cases hv
structure CelI (W : World) (g L i n T : Nat) (rw_ : Nat → List Int) : Prop where
 ex : ∃ cur : Array Value, Blk W g 27 cur ∧ cur.size = L ∧ (∀ (j : Nat) v, cur[j]? = some v → ∃ D m c, v = .slice D m c) ∧ ∀ j, i ≤ j → j < L → ∃ A, cur[j]? = some (.slice A n n) ∧ RdI W A n (rw_ j) ∧ ∀ q, blkOf A = some q → g < q ∧ q < T
 gT : g < T
 TW : T ≤ W.heap.size
section
variable {W W' : World} {g L i n T T' gr : Nat} {rw_ : Nat → List Int}
theorem CelI.start (h : Blk W g 27 (zeros (.slice none 0 0) L)) : CelI W g L L n W.heap.size rw_ := by
 refine ⟨⟨_, h, by simp [zeros], fun j v hv => ?_, fun j h1 h2 => by omega⟩, h.lt, Nat.le_refl _⟩
 unfold zeros at hv
 rw [List.getElem?_toArray, List.getElem?_replicate] at hv
 split at hv
 · exact ⟨none, 0, 0, (Option.some.inj hv).symm⟩
 · cases hv
theorem CelI.below (h : CelI W g L i n T rw_) (hb : Below W.heap.size W W') : CelI W' g L i n T rw_ := by
 obtain ⟨⟨cur, h1, h2, h3, h4⟩, h5, h6⟩ := h
 exact ⟨⟨cur, h1.below hb h1.lt, h2, h3, fun j a b => by
  obtain ⟨A, k1, k2, k3⟩ := h4 j a b
  exact ⟨A, k1, k2.below hb, k3⟩⟩, h5, Nat.le_trans h6 hb.size⟩
theorem CelI.far {r : Option Nat} (h : CelI W g L i n T rw_) (hg : W.grownBy W' r) (hr : ∀ k, r = some k → T ≤ k) : CelI W' g L i n T rw_ := by
 obtain ⟨⟨cur, h1, h2, h3, h4⟩, h5, h6⟩ := h
 exact ⟨⟨cur, h1.grown hg (fun e => by have := hr g e; omega), h2, h3, fun j a b => by
  obtain ⟨A, k1, k2, k3⟩ := h4 j a b
  exact ⟨A, k1, k2.grownN hg (fun q hq e => by have := hr q e; have := (k3 q hq).2; omega), k3⟩⟩, h5, Nat.le_trans h6 hg.size⟩
theorem CelI.put {D : Option Addr} {m c : Nat} (h : CelI W g L (i + 1) n T rw_) : CelI (W.setCell ⟨g, i, none⟩ (.slice D m c)) g L (i + 1) n T rw_ := by
 obtain ⟨⟨cur, h1, h2, h3, h4⟩, h5, h6⟩ := h
 refine ⟨⟨_, h1.set_ i _, by simp [h2], fun j v hv => ?_, fun j a b => ?_⟩, h5, by simpa [World.setCell] using h6⟩
 · rw [Array.getElem?_setIfInBounds] at hv
   split at hv
   · split at hv
     · exact ⟨D, m, c, (Option.some.inj hv).symm⟩
     · cases hv
   · exact h3 j v hv
 · obtain ⟨A, k1, k2, k3⟩ := h4 j a b
   refine ⟨A, ?_, k2.far _ (fun e => Nat.lt_irrefl _ (k3 g e).1), k3⟩
   rw [Array.getElem?_setIfInBounds, if_neg (by omega)]
   exact k1
theorem CelI.cells (h : CelI W g L i n T rw_) {j : Nat} (hj : j < L) : (∃ v, W.cell? ⟨g, j, none⟩ = some v) ∧ W.frozen? ⟨g, j, none⟩ = false ∧ g < W.heap.size := by
 obtain ⟨⟨cur, h1, h2, h3, h4⟩, h5, h6⟩ := h
 exact ⟨⟨cur[j]'(by omega), by rw [h1.cell]; exact Array.getElem?_eq_getElem _⟩, h1.frozen j, h1.lt⟩
theorem CelI.fin {t : TypeId} (h : CelI W g L (i + 1) n T rw_) (hc : W.cell? ⟨g, i, none⟩ = some (.slice (some ⟨gr, 0, none⟩) n n)) (hr : Blk W gr t (ints (rw_ i))) (hl : (rw_ i).length = n) (hne : g < gr) : CelI W g L i n W.heap.size rw_ := by
 obtain ⟨⟨cur, h1, h2, h3, h4⟩, h5, h6⟩ := h
 refine ⟨⟨cur, h1, h2, h3, fun j a b => ?_⟩, h1.lt, Nat.le_refl _⟩
 by_cases e : j = i
 · subst e
   refine ⟨some ⟨gr, 0, none⟩, by rw [← h1.cell]; exact hc, hr.rdI hl, fun q hq => ?_⟩
   have hq : some gr = some q := hq
   injection hq with hq
   subst hq
   exact ⟨hne, hr.lt⟩
 · obtain ⟨A, k1, k2, k3⟩ := h4 j (by omega) b
   exact ⟨A, k1, k2, fun q hq => ⟨(k3 q hq).1, Nat.lt_of_lt_of_le (k3 q hq).2 h6⟩⟩
theorem CelI.notBlk (h : CelI W g L i n T rw_) {A : Option Addr} {m : Nat} {l : List Int} (hr : RdI W A m l) (hm : 0 < m) : blkOf A ≠ some g := by
 obtain ⟨⟨cur, h1, _, h3, _⟩, _⟩ := h
 exact hr.notBlk hm h1 h3
theorem CelI.rdT (h : CelI W g L 0 n T rw_) (hn : n ≤ 9223372036854775807) : RdT W (some ⟨g, 0, none⟩) L ((List.range L).map rw_) := by
 obtain ⟨⟨cur, h1, h2, h3, h4⟩, _⟩ := h
 refine ⟨by simp, fun j l hl => ?_⟩
 have hj : j < L := by have := (List.getElem?_eq_some_iff.1 hl).1; simpa using this
 rw [List.getElem?_map, List.getElem?_range hj] at hl
 have hl : rw_ j = l := Option.some.inj hl
 obtain ⟨A, k1, k2, _⟩ := h4 j (Nat.zero_le _) hj
 exact ⟨g, 0, A, n, n, rfl, by rw [Nat.zero_add, h1.cell]; exact k1, by rw [← hl]; exact k2, Nat.le_refl _, hn⟩
theorem CelI.rdTm (h : CelI W g L 0 n T rw_) (hn : n ≤ 9223372036854775807) {G : Nat → Prop} (hG : ∀ q, g ≤ q → G q) : RdT (msk W G) (some ⟨g, 0, none⟩) L ((List.range L).map rw_) := by
 obtain ⟨⟨cur, h1, h2, h3, h4⟩, _⟩ := h
 refine ⟨by simp, fun j l hl => ?_⟩
 have hj : j < L := by have := (List.getElem?_eq_some_iff.1 hl).1; simpa using this
 rw [List.getElem?_map, List.getElem?_range hj] at hl
 have hl : rw_ j = l := Option.some.inj hl
 obtain ⟨A, k1, k2, k3⟩ := h4 j (Nat.zero_le _) hj
 exact ⟨g, 0, A, n, n, rfl, msk_cell.2 ⟨hG g (Nat.le_refl _), by rw [Nat.zero_add, h1.cell]; exact k1⟩, by rw [← hl]; exact k2.msk (fun q hq => hG q (Nat.le_of_lt (k3 q hq).1)), Nat.le_refl _, hn⟩
end
theorem PcR.far {N : NetD} {AL A : Option Addr} {W W' : World} {B n c : Nat} {xs : List Value} {ps : List (List Nat)} {r : Option Nat} (h : PcR N AL W B A n c xs ps) (hg : W.grownBy W' r) (hA : ∀ k, r = some k → blkOf A ≠ some k) (hE : ∀ (D : Option Addr) (m : Nat) (l : List Int), 0 < m → RdI W D m l → ∀ g, blkOf D = some g → r ≠ some g) : PcR N AL W' B A n c xs ps := by
 refine ⟨h.own.far hg ?_, h.len, fun j p hp => ?_⟩
 · cases e : blkOf A with
   | none => exact .inl rfl
   | some q => exact .inr (fun e2 => hA q e2.symm e)
 · obtain ⟨A1, c1, A2, c2, h1, h2, h3, h4⟩ := h.at_ j p hp
   exact ⟨A1, c1, A2, c2, h1, h2, h3.grown hg (fun q h0 hq => hE _ _ _ h0 h3.r1 q hq) (fun q h0 hq => hE _ _ _ h0 h3.r2 q hq), fun q hq => ⟨Nat.lt_of_lt_of_le (h4 q hq).1 hg.size, (h4 q hq).2⟩⟩
theorem rowsN_range (N : NetD) (bs : List Nat) : rowsN N bs = (List.range bs.length).map (fun j => rowN N.vs.length (downP N (bs.drop j))) := by
 apply List.ext_getElem?
 intro i
 rcases Nat.lt_or_ge i bs.length with h | h
 · rw [rowsN_get N bs i h, List.getElem?_map, List.getElem?_range h]
   rfl
 · rw [List.getElem?_eq_none (by rw [rowsN_len]; exact h), List.getElem?_eq_none (by simpa using h)]
theorem downP_ok (N : NetD) (bs : List Nat) : ∀ p ∈ downP N bs, PcOk N.vs.length p := (downP_perm N bs).2
theorem downP_drop (N : NetD) {bs : List Nat} {i b : Nat} (h : bs[i]? = some b) : downP N (bs.drop i) = nxt N b (downP N (bs.drop (i + 1))) := by
 obtain ⟨h1, e1⟩ := List.getElem?_eq_some_iff.1 h
 rw [List.drop_eq_getElem_cons h1, e1]
 rfl
end Go.Proofs.YtpffhoefmcpniaaGreatDoor
