/- law2.To. -/
import Derived.Test.YtgkeolddpielpaaGreatNt7
namespace Go.Proofs.YtgkeolddpielpaaGreat
open Go.RowKit

attribute [local go_sem ↓] Go.wp_at_zero Go.wp_at_succ

theorem infoI64 : (Tryz.prog.info? 2).map (fun i => (i.zero, i.size, i.bytes)) = some (some (.int .i64 0), 1, 8) := by kernel_rfl
set_option maxHeartbeats 1000000 in
theorem tabTo_any (A : Option Addr) (n c : Nat) (t : TabD) (w : World) (h : RdI w A n t.costs) (hn : n ≤ 1000000) :
    Calls Tryz.prog 84 #[.agg #[.int .i64 t.ins, .int .i64 t.outs, .slice A n c]] w fun e w' => ∃ A' c', e = .returned (.agg #[.int .i64 t.ins, .int .i64 t.outs, .slice A' n c']) ∧ Own w' w.heap.size 2 1 A' n c' (icells t.costs) ∧ Below w.heap.size w w' := by
  obtain ⟨i, o, cs⟩ := t
  have h : RdI w A n cs := h
  simp only
  have HR := Lib.hid h
  clear h
  go_enter Tryz.func84, Tryz.ntmps84
  go_wp2_with fail
  (refine wp_named ?_; intro w1 hw1)
  have hb1 : Below w.heap.size w w1 := by rw [hw1]; exact (by repeat (first | exact Below.refl _ _ | assumption | apply Below.drew | apply below_drewN | apply Bel.alloc | (refine Bel.setCell_ ?_ ?_; rotate_left; omega) | (refine Bel.step ?_ (by assumption))))
  have hT1 : Blk w1 w.heap.size 119 #[.int .i64 i, .int .i64 o, .slice A n c] := by rw [hw1]; exact (by repeat (first | assumption | (refine Blk.new' _ _ _ ?_; first | with_unfolding_all rfl | (simp; done)) | apply Blk.drewN | apply Blk.drew | apply Blk.alloc | (refine Blk.far_ ?_ ?_ _; rotate_left; omega)))
  have hB1 : Blk w1 (w.heap.size + 1) 149 #[.int .i64 0, .int .i64 0, .slice none 0 0] := by rw [hw1]; exact (by repeat (first | assumption | (refine Blk.new' _ _ _ ?_; first | with_unfolding_all rfl | (simp; done)) | apply Blk.drewN | apply Blk.drew | apply Blk.alloc | (refine Blk.far_ ?_ ?_ _; rotate_left; omega)))
  have hz1 : w1.heap.size = w.heap.size + 1 + 1 := by rw [hw1]; simp
  clear hw1
  obtain ⟨t0, t1, t2⟩ := hT1.three
  have hb0 : Below (w.heap.size + 1) w1 w1.drew := (Below.refl _ _).drew
  have HSX := Lib.hid (show ∀ V, Below (w.heap.size + 1) w1 V → V.cell? ⟨w.heap.size, 0, none⟩ = some (.int .i64 i) ∧ V.cell? ⟨w.heap.size, 1, none⟩ = some (.int .i64 o) ∧ V.cell? ⟨w.heap.size, 2, none⟩ = some (.slice A n c) from fun V hV => ⟨(hV.cell (Nat.lt_succ_self _)).trans t0, (hV.cell (Nat.lt_succ_self _)).trans t1, (hV.cell (Nat.lt_succ_self _)).trans t2⟩)
  clear t0 t1 t2
  refine wp_region_held_drew (S := fun V => Below (w.heap.size + 1) w1 V) (by kernel_rfl) hb0 (fun _ => ?_)
  refine take_ (i := 0) (d := some 3) (v := ?_) rfl rfl (by kernel_rfl) (by kernel_rfl) (by kernel_rfl) (fun _ _ _ h => h) (by rfl) ?_ (by first | rfl | trivial | assumption) ?_
  rotate_left
  · (intro V hSw; (try (have hF := HSX.out V hSw)); (try (cases hSw)); (try go_split_ands); go_simp; try with_reducible rfl)
  simp only [Act.put, List.setIfInBounds_toArray, List.set_cons_zero, List.set_cons_succ]
  refine take_ (i := 1) (d := some 4) (v := ?_) rfl rfl (by kernel_rfl) (by kernel_rfl) (by kernel_rfl) (fun _ _ _ h => h) (by rfl) ?_ (by first | rfl | trivial | assumption) ?_
  rotate_left
  · (intro V hSw; (try (have hF := HSX.out V hSw)); (try (cases hSw)); (try go_split_ands); go_simp; try with_reducible rfl)
  simp only [Act.put, List.setIfInBounds_toArray, List.set_cons_zero, List.set_cons_succ]
  refine take_ (i := 2) (d := some 5) (v := ?_) rfl rfl (by kernel_rfl) (by kernel_rfl) (by kernel_rfl) (fun _ _ _ h => h) (by rfl) ?_ (by first | rfl | trivial | assumption) ?_
  rotate_left
  · (intro V hSw; (try (have hF := HSX.out V hSw)); (try (cases hSw)); (try go_split_ands); go_simp; try with_reducible rfl)
  simp only [Act.put, List.setIfInBounds_toArray, List.set_cons_zero, List.set_cons_succ]
  refine take_ (i := 3) (d := some 6) (v := ?_) rfl rfl (by kernel_rfl) (by kernel_rfl) (by kernel_rfl) (fun _ _ _ h => h) (by rfl) ?_ (by first | rfl | trivial | assumption) ?_
  rotate_left
  · (intro V hSw; (try (have hF := HSX.out V hSw)); (try (cases hSw)); (try go_split_ands); go_simp; try with_reducible rfl)
  simp only [Act.put, List.setIfInBounds_toArray, List.set_cons_zero, List.set_cons_succ]
  refine take_ (i := 5) (d := some 8) (v := ?_) rfl rfl (by kernel_rfl) (by kernel_rfl) (by kernel_rfl) (fun _ _ _ h => h) (by rfl) ?_ (by first | rfl | trivial | assumption) ?_
  rotate_left
  · (intro V hSw; (try (have hF := HSX.out V hSw)); (try (cases hSw)); (try go_split_ands); go_simp; try with_reducible rfl)
  simp only [Act.put, List.setIfInBounds_toArray, List.set_cons_zero, List.set_cons_succ]
  refine take_ (i := 6) (d := some 9) (v := ?_) rfl rfl (by kernel_rfl) (by kernel_rfl) (by kernel_rfl) (fun _ _ _ h => h) (by rfl) ?_ (by first | rfl | trivial | assumption) ?_
  rotate_left
  · (intro V hSw; (try (have hF := HSX.out V hSw)); (try (cases hSw)); (try go_split_ands); go_simp; try with_reducible rfl)
  simp only [Act.put, List.setIfInBounds_toArray, List.set_cons_zero, List.set_cons_succ]
  refine wpAnyH_ready (rs := [4]) (by kernel_rfl) (by simp) ?_
  refine AllReadyH.cons (o := _) rfl (fun K hK => ?_) AllReadyH.nil
  go_simp
  obtain ⟨W, hW⟩ : ∃ W, W = (w1.alloc (.cells #[] 2)).drew := ⟨_, rfl⟩
  rw [← hW]
  have hownW : Own W (w.heap.size + 1 + 1) 2 1 (some ⟨w1.heap.size, 0, none⟩) 0 0 [] := by
    rw [hW]; exact Own.drew (Own.lit w1 #[] 0 (by omega) (by omega) rfl)
  rw [hz1] at hownW
  have hbW : Below (w.heap.size + 1) w1 W := by rw [hW]; exact ((Below.refl _ _).alloc (by omega) _).drew
  have hB2 : Blk W (w.heap.size + 1) 149 #[.int .i64 0, .int .i64 0, .slice none 0 0] := by rw [hW]; exact (by repeat (first | assumption | apply Blk.drewN | apply Blk.drew | apply Blk.alloc | (refine Blk.far_ ?_ ?_ _; rotate_left; omega)))
  have hbwW : Below w.heap.size w W := hb1.trans (hbW.mono (by omega))
  have hrW : Rds W 1 A n (icells cs) := (HR.out.below hbwW).rdsI
  have hzW : w.heap.size + 1 + 1 ≤ W.heap.size := by have := hbW.size; omega
  clear hW
  refine hK.out _ _ hbW (fun _ => ?_)
  clear hK K
  refine wpAnyH_ready (rs := [7]) (by kernel_rfl) (by simp) ?_
  refine AllReadyH.cons (o := _) rfl (fun K hK => ?_) AllReadyH.nil
  with_reducible refine step_app' (some 10) rfl rfl (.tmp 7) (.tmp 9) 44 rfl 2 _ 1 8 infoI64 Tryz.underlying44 rfl (by omega) rfl rfl hownW hrW (icells_one _) (by omega) (by omega) hzW ?_
  intro A' c' w' hown' hg' _
  have hb5 : Below (w.heap.size + 1) w1 w' := Bel.grownOwn hbW hg' (hownW.mono (by omega)) (by omega)
  have hb6 : Below w.heap.size w w' := Bel.grownOwn hbwW hg' (hownW.mono (by omega)) (by omega)
  have hB' := hB2.grown hg' (hownW.ne (by omega))
  rw [Nat.zero_add, List.nil_append] at hown'
  have HO := Lib.hid (hown'.mono (show w.heap.size + 2 ≤ w.heap.size + 1 + 1 by omega))
  refine hK.out _ _ hb5 (fun _ => ?_)
  clear hK K hownW hrW hg' hown'
  simp only [Act.put, List.setIfInBounds_toArray, List.set_cons_zero, List.set_cons_succ, Nat.zero_add]
  obtain ⟨c0, c1, c2⟩ := hB'.three
  have f0 := hB'.frozen 0
  have f1 := hB'.frozen 1
  have f2 := hB'.frozen 2
  refine take_ (i := 8) (d := some 11) (v := ?_) rfl rfl (by kernel_rfl) (by kernel_rfl) (by kernel_rfl) (fun _ _ _ h => h) (by rfl) ?_ (by first | rfl | trivial | assumption) ?_
  rotate_left
  · (intro V hSw; (try (have hF := HSX.out V hSw)); (try (cases hSw)); (try go_split_ands); go_simp; try with_reducible rfl)
  simp only [Act.put, List.setIfInBounds_toArray, List.set_cons_zero, List.set_cons_succ]
  refine wpAnyH_ready (rs := [9]) (by kernel_rfl) (by simp) ?_
  refine AllReadyH.cons (o := _) rfl (fun K hK => ?_) AllReadyH.nil
  go_simp
  refine hK.out _ _ (((hb5.setCell (Nat.le_refl _) _).setCell (Nat.le_refl _) _).setCell (Nat.le_refl _) _) (fun _ => ?_)
  clear hK K
  refine wpAnyH_done (by kernel_rfl) ?_ _
  go_wp2_with fail
  refine bodyPost_ret (v := .agg #[.int .i64 i, .int .i64 o, .slice A' n c']) (by simp [results, Tryz.results84, go_sem, c0, c1, c2]) rfl ?_
  refine ⟨A', c', rfl, ?_, (by repeat (first | exact Below.refl _ _ | assumption | apply Below.drew | apply below_drewN | apply Bel.alloc | (refine Bel.setCell_ ?_ ?_; rotate_left; omega) | (refine Bel.step ?_ (by assumption))))⟩
  have := ownsRow_setCell_below (ownsRow_setCell_below (ownsRow_setCell_below HO.out (a := ⟨w.heap.size + 1, 0, none⟩) (by show w.heap.size + 1 < w.heap.size + 2; omega) (.int .i64 i)) (a := ⟨w.heap.size + 1, 1, none⟩) (by show w.heap.size + 1 < w.heap.size + 2; omega) (.int .i64 o)) (a := ⟨w.heap.size + 1, 2, none⟩) (by show w.heap.size + 1 < w.heap.size + 2; omega) (.slice A' n c')
  exact Own.mono this (by omega)
end Go.Proofs.YtgkeolddpielpaaGreat
