/- What the law knows, walked. -/
import Derived.Test.YtjphjbchhhembaaGreatDoorKnP
import Derived.Test.YtjphjbchhhembaaGreatDoorSame
import Derived.Test.YtjphjbchhhembaaGreatDoorJoin2
namespace Go.Proofs.YtjphjbchhhembaaGreatDoor
open Go.RowKit

attribute [local go_sem ↓] Go.wp_at_zero Go.wp_at_succ

theorem k_stops {W : World} {g : Nat} {t : TypeId} (h : Blk W g t #[.int .i64 0, .int .i64 1, .int .i64 0, .int .i64 1, .int .i64 0, .int .i64 1]) : RdP W (some ⟨g, 0, none⟩) 3 kSt :=
  ⟨rfl, fun i x hx => by
    match i, hx with
    | 0, hx => cases hx; exact ⟨g, 0, rfl, by rw [h.cell]; rfl, by rw [h.cell]; rfl⟩
    | 1, hx => cases hx; exact ⟨g, 0, rfl, by rw [h.cell]; rfl, by rw [h.cell]; rfl⟩
    | 2, hx => cases hx; exact ⟨g, 0, rfl, by rw [h.cell]; rfl, by rw [h.cell]; rfl⟩
    | i + 3, hx => simp [kSt] at hx⟩
theorem k_table {W : World} {g g0 g1 g2 g3 : Nat} {t t2 : TypeId} (h : Blk W g t #[.slice (some ⟨g0, 0, none⟩) 4 4, .slice (some ⟨g1, 0, none⟩) 4 4, .slice (some ⟨g2, 0, none⟩) 4 4, .slice (some ⟨g3, 0, none⟩) 4 4])
    (h0 : Blk W g0 t2 (ints [0, 10, 10, 10])) (h1 : Blk W g1 t2 (ints [10, 0, 3, 19])) (h2 : Blk W g2 t2 (ints [10, 4, 0, 5])) (h3 : Blk W g3 t2 (ints [10, 21, 5, 0])) : RdT W (some ⟨g, 0, none⟩) 4 kT :=
  ⟨rfl, fun i x hx => by
    match i, hx with
    | 0, hx => cases hx; exact ⟨g, 0, _, 4, 4, rfl, by rw [h.cell]; rfl, h0.rdI rfl, by omega, by omega⟩
    | 1, hx => cases hx; exact ⟨g, 0, _, 4, 4, rfl, by rw [h.cell]; rfl, h1.rdI rfl, by omega, by omega⟩
    | 2, hx => cases hx; exact ⟨g, 0, _, 4, 4, rfl, by rw [h.cell]; rfl, h2.rdI rfl, by omega, by omega⟩
    | 3, hx => cases hx; exact ⟨g, 0, _, 4, 4, rfl, by rw [h.cell]; rfl, h3.rdI rfl, by omega, by omega⟩
    | i + 4, hx => simp [kT] at hx⟩

set_option maxHeartbeats 4000000 in
theorem known_any (w : World) (hg : w.cell? ⟨0, 0, none⟩ = some errT) : Calls Tryz.prog 5 #[] w fun e w' => e = .returned (.bool true) ∧ Below w.heap.size w w' := by
  go_enter Tryz.func5, Tryz.ntmps5
  go_wp2_with fail
  (refine calls_named ?_; intro w1 hw1)
  have hb1 : Below w.heap.size w w1 := by rw [hw1]; exact (by repeat (first | exact Below.refl _ _ | assumption | apply Below.drew | apply below_drewN | apply Bel.alloc | (refine Bel.setCell_ ?_ ?_; rotate_left; omega) | (refine Bel.step ?_ (by assumption))))
  have hP0 : Blk w1 w.heap.size 46 #[.int .i64 0, .int .i64 1, .int .i64 0, .int .i64 1, .int .i64 0, .int .i64 1] := by rw [hw1]; exact (by repeat (first | assumption | (refine Blk.new' _ _ _ ?_; first | with_unfolding_all rfl | (simp; done)) | apply Blk.drewN | apply Blk.drew | apply Blk.alloc | (refine Blk.far_ ?_ ?_ _; rotate_left; omega)))
  have hJ0 : Blk w1 (w.heap.size + 1) 35 #[.int .i64 0, .int .i64 2, .int .i64 1000, .slice (some ⟨w.heap.size, 0, none⟩) 3 3] := by rw [hw1]; exact (by repeat (first | assumption | (refine Blk.new' _ _ _ ?_; first | with_unfolding_all rfl | (simp; done)) | apply Blk.drewN | apply Blk.drew | apply Blk.alloc | (refine Blk.far_ ?_ ?_ _; rotate_left; omega)))
  have r0 : Blk w1 (w.heap.size + 1 + 1) 2 (ints [0, 10, 10, 10]) := by rw [hw1]; exact (by repeat (first | assumption | (refine Blk.new' _ _ _ ?_; first | with_unfolding_all rfl | (simp; done)) | apply Blk.drewN | apply Blk.drew | apply Blk.alloc | (refine Blk.far_ ?_ ?_ _; rotate_left; omega)))
  have r1 : Blk w1 (w.heap.size + 1 + 1 + 1) 2 (ints [10, 0, 3, 19]) := by rw [hw1]; exact (by repeat (first | assumption | (refine Blk.new' _ _ _ ?_; first | with_unfolding_all rfl | (simp; done)) | apply Blk.drewN | apply Blk.drew | apply Blk.alloc | (refine Blk.far_ ?_ ?_ _; rotate_left; omega)))
  have r2 : Blk w1 (w.heap.size + 1 + 1 + 1 + 1) 2 (ints [10, 4, 0, 5]) := by rw [hw1]; exact (by repeat (first | assumption | (refine Blk.new' _ _ _ ?_; first | with_unfolding_all rfl | (simp; done)) | apply Blk.drewN | apply Blk.drew | apply Blk.alloc | (refine Blk.far_ ?_ ?_ _; rotate_left; omega)))
  have r3 : Blk w1 (w.heap.size + 1 + 1 + 1 + 1 + 1) 2 (ints [10, 21, 5, 0]) := by rw [hw1]; exact (by repeat (first | assumption | (refine Blk.new' _ _ _ ?_; first | with_unfolding_all rfl | (simp; done)) | apply Blk.drewN | apply Blk.drew | apply Blk.alloc | (refine Blk.far_ ?_ ?_ _; rotate_left; omega)))
  have hT0 : Blk w1 (w.heap.size + 1 + 1 + 1 + 1 + 1 + 1) 44 #[.slice (some ⟨w.heap.size + 1 + 1, 0, none⟩) 4 4, .slice (some ⟨w.heap.size + 1 + 1 + 1, 0, none⟩) 4 4, .slice (some ⟨w.heap.size + 1 + 1 + 1 + 1, 0, none⟩) 4 4, .slice (some ⟨w.heap.size + 1 + 1 + 1 + 1 + 1, 0, none⟩) 4 4] := by rw [hw1]; exact (by repeat (first | assumption | (refine Blk.new' _ _ _ ?_; first | with_unfolding_all rfl | (simp; done)) | apply Blk.drewN | apply Blk.drew | apply Blk.alloc | (refine Blk.far_ ?_ ?_ _; rotate_left; omega)))
  clear hw1
  have hP := k_stops hP0
  have hT := k_table hT0 r0 r1 r2 r3
  have HP := Lib.hid hP
  have HT := Lib.hid hT
  clear hP0 r0 r1 r2 r3 hT0 hP hT
  with_reducible refine (list_any (some ⟨w.heap.size + 1 + 1 + 1 + 1 + 1 + 1, 0, none⟩) 4 4 kT w1 HT.out k_sq (by omega) (by omega)).mono ?_
  rintro e w2 ⟨A5, m5, c5, L, rfl, hLr, hLp, hLs, _, hb2⟩
  obtain rfl := k_list hLp hLs
  obtain rfl : m5 = 5 := hLr.1.symm
  have HLR := Lib.hid hLr
  have hJ2 := hJ0.below hb2 hJ0.lt
  obtain ⟨j0, j1, j2, j3⟩ := hJ2.four
  have hbw2 : Below w.heap.size w w2 := Bel.step hb1 hb2
  clear hLp hLs hLr hJ0
  go_wp2_with fail
  with_reducible refine (saveJoin_any 0 2 1000 (some ⟨w.heap.size, 0, none⟩) (some ⟨w.heap.size + 1 + 1 + 1 + 1 + 1 + 1, 0, none⟩) 3 3 4 kSt kT w2 (HP.out.below hb2) k_ld (HT.out.below hb2) k_sq k_fits (by omega)).mono ?_
  rintro e w3 ⟨A4, m4, c4, L4, R, rfl, hR, hp, hs, hRp, hRd, hb3⟩
  obtain rfl := k_rounds hp hs hRp hRd
  obtain rfl : m4 = 2 := hR.1.symm
  have HR := Lib.hid hR
  have hJ3 := hJ2.below hb3 hJ2.lt
  have hbw3 : Below w.heap.size w w3 := Bel.step hbw2 hb3
  have HL3 := Lib.hid (HLR.out.below hb3)
  clear hp hs hRp hRd hR hJ2 j0 j1 j2 j3 HLR
  have HSX := Lib.hid (show ∀ V, Below w3.heap.size w3 V → V.cell? ⟨w.heap.size + 1, 0, none⟩ = some (.int .i64 0) ∧ V.cell? ⟨w.heap.size + 1, 1, none⟩ = some (.int .i64 2) ∧ V.cell? ⟨w.heap.size + 1, 2, none⟩ = some (.int .i64 1000) ∧ V.cell? ⟨w.heap.size + 1, 3, none⟩ = some (.slice (some ⟨w.heap.size, 0, none⟩) 3 3) from
    fun V hb => (hJ3.below hb hJ3.lt).four)
  go_wp2_with fail
  refine wp_region_held_drew (S := fun V => Below w3.heap.size w3 V) (by kernel_rfl) (by repeat (first | exact Below.refl _ _ | assumption | apply Below.drew | apply below_drewN | apply Bel.alloc | (refine Bel.setCell_ ?_ ?_; rotate_left; omega) | (refine Bel.step ?_ (by assumption)))) (fun hSV => ?_)
  refine take_ (i := 0) (d := some 27) (v := ?_) rfl rfl (by kernel_rfl) (by kernel_rfl) (by kernel_rfl) (fun _ _ _ h => h) (by rfl) ?_ (by first | rfl | trivial | assumption) ?_
  rotate_left
  · (intro V hSw; (try (have hF := HSX.out V hSw)); (try (cases hSw)); (try go_split_ands); go_simp; try with_reducible rfl)
  simp only [Act.put, List.setIfInBounds_toArray, List.set_cons_zero, List.set_cons_succ]
  refine take_ (i := 1) (d := some 28) (v := ?_) rfl rfl (by kernel_rfl) (by kernel_rfl) (by kernel_rfl) (fun _ _ _ h => h) (by rfl) ?_ (by first | rfl | trivial | assumption) ?_
  rotate_left
  · (intro V hSw; (try (have hF := HSX.out V hSw)); (try (cases hSw)); (try go_split_ands); go_simp; try with_reducible rfl)
  simp only [Act.put, List.setIfInBounds_toArray, List.set_cons_zero, List.set_cons_succ]
  refine take_ (i := 2) (d := some 29) (v := ?_) rfl rfl (by kernel_rfl) (by kernel_rfl) (by kernel_rfl) (fun _ _ _ h => h) (by rfl) ?_ (by first | rfl | trivial | assumption) ?_
  rotate_left
  · (intro V hSw; (try (have hF := HSX.out V hSw)); (try (cases hSw)); (try go_split_ands); go_simp; try with_reducible rfl)
  simp only [Act.put, List.setIfInBounds_toArray, List.set_cons_zero, List.set_cons_succ]
  refine wpAnyH_ready (rs := [3]) (by kernel_rfl) (by simp) ?_
  refine AllReadyH.cons (o := _) rfl (fun K hK => ?_) AllReadyH.nil
  go_simp
  with_reducible refine (saveJoin_len 0 2 1000 (some ⟨w.heap.size, 0, none⟩) (some ⟨w.heap.size + 1 + 1 + 1 + 1 + 1 + 1, 0, none⟩) 3 3 3 4 _ (by omega) (by omega)).mono ?_
  rintro e w4 ⟨v, rfl, hch, hb4⟩
  have hb34 : Below w3.heap.size w3 w4 := Bel.step hSV hb4
  have HCH := Lib.hid hch
  clear hch hb4
  go_wp2_with fail
  refine hK.out _ _ hb34 (fun _ => ?_)
  clear hK K
  refine take_ (i := 4) (d := some 26) (v := ?_) rfl rfl (by kernel_rfl) (by kernel_rfl) (by kernel_rfl) (fun _ _ _ h => h) (by rfl) ?_ (by first | rfl | trivial | assumption) ?_
  rotate_left
  · (intro V hSw; (try (have hF := HSX.out V hSw)); (try (cases hSw)); (try go_split_ands); go_simp; try with_reducible rfl)
  simp only [Act.put, List.setIfInBounds_toArray, List.set_cons_zero, List.set_cons_succ]
  refine take_ (i := 5) (d := some 31) (v := ?_) rfl rfl (by kernel_rfl) (by kernel_rfl) (by kernel_rfl) (fun _ _ _ h => h) (by rfl) ?_ (by first | rfl | trivial | assumption) ?_
  rotate_left
  · (intro V hSw; (try (have hF := HSX.out V hSw)); (try (cases hSw)); (try go_split_ands); go_simp; try with_reducible rfl)
  simp only [Act.put, List.setIfInBounds_toArray, List.set_cons_zero, List.set_cons_succ]
  refine take_ (i := 6) (d := some 32) (v := ?_) rfl rfl (by kernel_rfl) (by kernel_rfl) (by kernel_rfl) (fun _ _ _ h => h) (by rfl) ?_ (by first | rfl | trivial | assumption) ?_
  rotate_left
  · (intro V hSw; (try (have hF := HSX.out V hSw)); (try (cases hSw)); (try go_split_ands); go_simp; try with_reducible rfl)
  simp only [Act.put, List.setIfInBounds_toArray, List.set_cons_zero, List.set_cons_succ]
  refine take_ (i := 7) (d := some 6) (v := ?_) rfl rfl (by kernel_rfl) (by kernel_rfl) (by kernel_rfl) (fun _ _ _ h => h) (by rfl) ?_ (by first | rfl | trivial | assumption) ?_
  rotate_left
  · (intro V hSw; (try (have hF := HSX.out V hSw)); (try (cases hSw)); (try go_split_ands); go_simp; try with_reducible rfl)
  simp only [Act.put, List.setIfInBounds_toArray, List.set_cons_zero, List.set_cons_succ]
  refine take_ (i := 8) (d := some 7) (v := ?_) rfl rfl (by kernel_rfl) (by kernel_rfl) (by kernel_rfl) (fun _ _ _ h => h) (by rfl) ?_ (by first | rfl | trivial | assumption) ?_
  rotate_left
  · (intro V hSw; (try (have hF := HSX.out V hSw)); (try (cases hSw)); (try go_split_ands); go_simp; try with_reducible rfl)
  simp only [Act.put, List.setIfInBounds_toArray, List.set_cons_zero, List.set_cons_succ]
  refine wpAnyH_done (by kernel_rfl) ?_ _
  have hbw4 : Below w.heap.size w w4 := Bel.step hbw3 hb34
  have HL4 := HL3.out.below hb34
  have HR4 := Lib.hid (HR.out.below hb34)
  obtain ⟨lb, lo, rfl, a0, a1, a2⟩ := HL4.2 0 _ rfl
  obtain ⟨_, _, e1, b0, b1, b2⟩ := HL4.2 1 _ rfl
  cases e1
  obtain ⟨_, _, e1, c0, c1, c2⟩ := HL4.2 2 _ rfl
  cases e1
  obtain ⟨_, _, e1, d0, d1, d2⟩ := HL4.2 4 _ rfl
  cases e1
  rw [show lo + 0 * 3 = lo by omega] at a0 a1 a2
  rw [show lo + 1 * 3 = lo + 3 by omega] at b0 b1 b2
  rw [show lo + 2 * 3 = lo + 6 by omega] at c0 c1 c2
  rw [show lo + 4 * 3 = lo + 12 by omega] at d0 d1 d2
  rw [show lo + 3 + 1 = lo + 4 by omega] at b1
  rw [show lo + 3 + 2 = lo + 5 by omega] at b2
  rw [show lo + 6 + 1 = lo + 7 by omega] at c1
  rw [show lo + 6 + 2 = lo + 8 by omega] at c2
  rw [show lo + 12 + 1 = lo + 13 by omega] at d1
  rw [show lo + 12 + 2 = lo + 14 by omega] at d2
  clear HL4 HSX hJ3 HR HL3
  go_wp2_with fail
  (refine calls_named ?_; intro w5 hw5)
  have hb45 : Below w4.heap.size w4 w5 := by rw [hw5]; exact (by repeat (first | exact Below.refl _ _ | assumption | apply Below.drew | apply below_drewN | apply Bel.alloc | (refine Bel.setCell_ ?_ ?_; rotate_left; omega) | (refine Bel.step ?_ (by assumption))))
  have s0 : Blk w5 w4.heap.size 3 (ints [1, 2]) := by rw [hw5]; exact (by repeat (first | assumption | (refine Blk.new' _ _ _ ?_; first | with_unfolding_all rfl | (simp; done)) | apply Blk.drewN | apply Blk.drew | apply Blk.alloc | (refine Blk.far_ ?_ ?_ _; rotate_left; omega)))
  have s1 : Blk w5 (w4.heap.size + 1) 3 (ints [3]) := by rw [hw5]; exact (by repeat (first | assumption | (refine Blk.new' _ _ _ ?_; first | with_unfolding_all rfl | (simp; done)) | apply Blk.drewN | apply Blk.drew | apply Blk.alloc | (refine Blk.far_ ?_ ?_ _; rotate_left; omega)))
  have s2 : Blk w5 (w4.heap.size + 1 + 1) 38 #[.slice (some ⟨w4.heap.size, 0, none⟩) 2 2, .slice (some ⟨w4.heap.size + 1, 0, none⟩) 1 1] := by rw [hw5]; exact (by repeat (first | assumption | (refine Blk.new' _ _ _ ?_; first | with_unfolding_all rfl | (simp; done)) | apply Blk.drewN | apply Blk.drew | apply Blk.alloc | (refine Blk.far_ ?_ ?_ _; rotate_left; omega)))
  have hT2 : RdT w5 (some ⟨w4.heap.size + 1 + 1, 0, none⟩) 2 [[1, 2], [3]] := ⟨rfl, fun i x hx => by
    match i, hx with
    | 0, hx => cases hx; exact ⟨_, 0, _, 2, 2, rfl, by rw [s2.cell]; rfl, s0.rdI rfl, by omega, by omega⟩
    | 1, hx => cases hx; exact ⟨_, 0, _, 1, 1, rfl, by rw [s2.cell]; rfl, s1.rdI rfl, by omega, by omega⟩
    | i + 2, hx => simp at hx⟩
  have HR5 := HR4.out.below hb45
  clear hw5 s0 s1 s2
  with_reducible refine (sameRoutes_any A4 (some ⟨w4.heap.size + 1 + 1, 0, none⟩) 2 c4 2 2 [[1, 2], [3]] w5 HR5 hT2 (by omega) (by simp)).mono ?_
  rintro e w6 ⟨rfl, hb56⟩
  have hb46 : Below w4.heap.size w4 w6 := Bel.step hb45 hb56
  clear HR5 hT2
  go_wp2_with fail
  with_reducible refine (refAt_any _ _ _ _).mono ?_
  rintro e w7 ⟨v7, rfl, ⟨A7, n7, m7, rfl, h7, h8⟩, hb67⟩
  have hb47 : Below w4.heap.size w4 w7 := Bel.step hb46 hb67
  have hbw7 : Below w.heap.size w w7 := Bel.step hbw4 hb47
  have HCH7 := Lib.hid (Chain.below hb47 HCH.out)
  have hg7 := Below.cellOf hbw7 (Nat.le_refl _) hg
  clear HCH HR4 hb46 hb47 hb45
  go_wp2_with fail
  with_reducible refine (tells_any v A7 n7 m7 [(⟨#[116, 97, 98, 108, 101]⟩, 0)] 1 w7 HCH7.out h7 (by omega) hg7 (by omega)).mono ?_
  rintro e w8 ⟨rfl, hb78⟩
  have hbw8 : Below w.heap.size w w8 := Bel.step hbw7 hb78
  go_wp2_with fail
  go_ret
  exact ⟨rfl, hbw8⟩
end Go.Proofs.YtjphjbchhhembaaGreatDoor
