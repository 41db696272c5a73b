/- Parts of the proof: Po. -/
import Derived.Test.YtgkeolddpielpaaGreatDoorM23
/- law13.To: rows copied. -/
namespace Go.Proofs.YtgkeolddpielpaaGreatDoor
open Go.RowKit

attribute [local go_sem ↓] Go.wp_at_zero Go.wp_at_succ



set_option maxHeartbeats 4000000 in
set_option maxRecDepth 20000 in
theorem partTo_any (Q : Option Addr) (L cq : Nat) (ls : List (List Int)) (w : World) (h : RdT w Q L ls) (hL : L ≤ 1000000) (hc : ∀ l ∈ ls, l.length ≤ 1000000) :
    Calls Tryz.prog 9 #[.agg #[.slice Q L cq]] w fun r w' => ∃ Q' cq', r = .returned (.agg #[.slice Q' L cq']) ∧ RdT (msk w' (fun b => w.heap.size ≤ b ∧ b < w'.heap.size)) Q' L ls ∧ L ≤ cq' ∧ cq' ≤ 9223372036854775807 ∧ Below w.heap.size w w' := by
  have HT := Lib.hid h
  have HC := Lib.hid hc
  clear h hc
  go_enter Tryz.func9, Tryz.ntmps9
  go_wp2_with fail
  (refine wp_named ?_; intro w1 hw1)
  have hb1 : Below w.heap.size w w1 := by rw [hw1]; exact (by repeat (first | exact Below.refl _ _ | assumption | apply Below.drew | apply below_drewN | apply Bel.alloc | (refine Bel.setCell_ ?_ ?_; rotate_left; omega) | (refine Bel.step ?_ (by assumption))))
  have hJ : Blk w1 w.heap.size 29 #[.slice Q L cq] := by rw [hw1]; exact (by repeat (first | assumption | (refine Blk.new' _ _ _ ?_; first | with_unfolding_all rfl | (simp; done)) | apply Blk.drewN | apply Blk.drew | apply Blk.alloc | (refine Blk.far_ ?_ ?_ _; rotate_left; omega)))
  have hR : Blk w1 (w.heap.size + 1) 35 #[.slice none 0 0] := by rw [hw1]; exact (by repeat (first | assumption | (refine Blk.new' _ _ _ ?_; first | with_unfolding_all rfl | (simp; done)) | apply Blk.drewN | apply Blk.drew | apply Blk.alloc | (refine Blk.far_ ?_ ?_ _; rotate_left; omega)))
  have hK0 : Blk w1 (w.heap.size + 2) 35 #[.slice none 0 0] := by rw [hw1]; exact (by repeat (first | assumption | (refine Blk.new' _ _ _ ?_; first | with_unfolding_all rfl | (simp; done)) | apply Blk.drewN | apply Blk.drew | apply Blk.alloc | (refine Blk.far_ ?_ ?_ _; rotate_left; omega)))
  clear hw1
  go_loopw [4] (fun i W => Below w.heap.size w W ∧ Blk W w.heap.size 29 #[.slice Q L cq] ∧ Blk W (w.heap.size + 1) 35 #[.slice none 0 0] ∧ ∃ (j : Nat) (A3 : Option Addr) (c3 : Nat) (xs : List Value), j ≤ L ∧ i = .int .i64 j ∧ Blk W (w.heap.size + 2) 35 #[.slice A3 j c3] ∧ RwL W (w.heap.size + 3) A3 j c3 xs (ls.take j)) (fun i _ => L - (intOf i).toNat)
  case atStart => exact ⟨hb1, hJ, hR, 0, none, 0, [], Nat.zero_le _, rfl, hK0, by simpa using RwL.nil _ _⟩
  case round =>
    clear hb1 hJ hR hK0
    obtain ⟨hbl, hJ, hR, j, A3, c3, xs, hj, rfl, hK0, hown⟩ := hrel
    have j0 := hJ.cell 0
    simp only [List.getElem?_toArray, List.getElem?_cons_zero] at j0
    by_cases hlt : j < L
    · obtain ⟨sb, so, Ar, m, cr, l, rfl, hl, hcl, hr, hq1, hq2⟩ := HT.out.at_ hlt
      have HN := Lib.hid (show ls.take (j + 1) = ls.take j ++ [l] by
        rw [List.take_succ_eq_append_getElem (List.getElem?_eq_some_iff.1 hl).1, (List.getElem?_eq_some_iff.1 hl).2])
      have hm : m ≤ 1000000 := by have := HC.out l (List.mem_of_getElem? hl); rw [hr.1] at this; exact this
      have dcl := Below.cellOf hbl (Nat.le_refl _) hcl
      have HSB := Lib.hid (lt_of_cell hcl)
      have HRR := Lib.hid (hr.below hbl)
      have i3 : (0 : Int) ≤ (j : Int) := by omega
      have i4 : (j : Int) < (L : Int) := by omega
      have hsz : w.heap.size + 3 ≤ wr.heap.size := by have := hK0.lt; omega
      clear hr hl hcl hq1 hq2
      have HSX := Lib.hid (show ∀ V, Below (w.heap.size + 2) wr V → V.cell? ⟨w.heap.size, 0, none⟩ = some (.slice (some ⟨sb, so, none⟩) L cq) ∧ V.cell? ⟨sb, so + j, none⟩ = some (.slice Ar m cr) from
        fun V hb => ⟨(hb.cell (by simp only; omega)).trans j0, (hb.cell (by have := lt_of_cell dcl; have := HSB.out; simp only at this ⊢; omega)).trans dcl⟩)
      go_wp2_with fail
      refine wp_region_held_drew (S := fun V => Below (w.heap.size + 2) wr V) (by kernel_rfl) (Below.refl _ _).drew (fun _ => ?_)
      refine take_ (i := 0) (d := some 12) (v := ?_) rfl rfl (by kernel_rfl) (by kernel_rfl) (by kernel_rfl) (fun _ _ _ h => h) (by rfl) ?_ (by first | rfl | trivial | assumption) ?_
      rotate_left
      · (intro V hSw; (try (have hF := HSX.out V hSw)); (try (cases hSw)); (try go_split_ands); go_simp; try with_reducible rfl)
      simp only [Act.put, List.setIfInBounds_toArray, List.set_cons_zero, List.set_cons_succ]
      refine take_ (i := 3) (d := some 15) (v := ?_) rfl rfl (by kernel_rfl) (by kernel_rfl) (by kernel_rfl) (fun _ _ _ h => h) (by rfl) ?_ (by first | rfl | trivial | assumption) ?_
      rotate_left
      · (intro V hSw; (try (have hF := HSX.out V hSw)); (try (cases hSw)); (try go_split_ands); go_simp; try with_reducible rfl)
      simp only [Act.put, List.setIfInBounds_toArray, List.set_cons_zero, List.set_cons_succ]
      refine take_ (i := 4) (d := some 16) (v := ?_) rfl rfl (by kernel_rfl) (by kernel_rfl) (by kernel_rfl) (fun _ _ _ h => h) (by rfl) ?_ (by first | rfl | trivial | assumption) ?_
      rotate_left
      · (intro V hSw; (try (have hF := HSX.out V hSw)); (try (cases hSw)); (try go_split_ands); go_simp; try with_reducible rfl)
      simp only [Act.put, List.setIfInBounds_toArray, List.set_cons_zero, List.set_cons_succ]
      refine take_ (i := 5) (d := some 17) (v := ?_) rfl rfl (by kernel_rfl) (by kernel_rfl) (by kernel_rfl) (fun _ _ _ h => h) (by rfl) ?_ (by first | rfl | trivial | assumption) ?_
      rotate_left
      · (intro V hSw; (try (have hF := HSX.out V hSw)); (try (cases hSw)); (try go_split_ands); go_simp; try with_reducible rfl)
      simp only [Act.put, List.setIfInBounds_toArray, List.set_cons_zero, List.set_cons_succ]
      refine take_ (i := 6) (d := some 18) (v := ?_) rfl rfl (by kernel_rfl) (by kernel_rfl) (by kernel_rfl) (fun _ _ _ h => h) (by rfl) ?_ (by first | rfl | trivial | assumption) ?_
      rotate_left
      · (intro V hSw; (try (have hF := HSX.out V hSw)); (try (cases hSw)); (try go_split_ands); go_simp; try with_reducible rfl)
      simp only [Act.put, List.setIfInBounds_toArray, List.set_cons_zero, List.set_cons_succ]
      refine take_ (i := 7) (d := some 19) (v := ?_) rfl rfl (by kernel_rfl) (by kernel_rfl) (by kernel_rfl) (fun _ _ _ h => h) (by rfl) ?_ (by first | rfl | trivial | assumption) ?_
      rotate_left
      · (intro V hSw; (try (have hF := HSX.out V hSw)); (try (cases hSw)); (try go_split_ands); go_simp; try with_reducible rfl)
      simp only [Act.put, List.setIfInBounds_toArray, List.set_cons_zero, List.set_cons_succ]
      refine wpAnyH_ready (rs := [1, 2]) (by kernel_rfl) (by simp) ?_
      refine AllReadyH.cons (o := _) rfl (fun K hK => ?_) (AllReadyH.cons (o := _) rfl (fun K hK => ?_) AllReadyH.nil)
      · have k3a := hK0.cell 0
        simp only [List.getElem?_toArray, List.getElem?_cons_zero] at k3a
        go_simp
        refine hK.out _ _ (Below.refl _ _).drew (fun _ => ?_)
        clear hK K k3a
        refine wpAnyH_ready (rs := [2]) (by kernel_rfl) (by simp) ?_
        refine AllReadyH.cons (o := _) rfl (fun K hK => ?_) AllReadyH.nil
        go_simp
        refine hK.out _ _ (((Below.refl _ _).alloc (by omega) _).drew) (fun _ => ?_)
        clear hK K
        obtain ⟨W3, hW3⟩ : ∃ W3, W3 = (wr.alloc (.cells #[] 3)).drew := ⟨_, rfl⟩
        rw [← hW3]
        have hbr3 : Below wr.heap.size wr W3 := by rw [hW3]; exact (by repeat (first | exact Below.refl _ _ | assumption | apply Below.drew | apply below_drewN | apply Bel.alloc | (refine Bel.setCell_ ?_ ?_; rotate_left; omega) | (refine Bel.step ?_ (by assumption))))
        have hown0 : Own W3 wr.heap.size 3 1 (some ⟨wr.heap.size, 0, none⟩) 0 0 [] := by rw [hW3]; exact lit0 (Nat.le_refl _)
        have hrd0 := (HRR.out.below hbr3).rdsI
        have hz3 := hbr3.size
        clear hW3
        refine wpAnyH_ready (rs := [8]) (by kernel_rfl) (by simp) ?_
        refine AllReadyH.cons (o := _) rfl (fun K hK => ?_) AllReadyH.nil
        with_reducible refine step_app' (some 20) rfl rfl (.tmp 14) (.tmp 19) 47 rfl 3 _ 1 8 infoInt Tryz.underlying47 rfl (by omega) rfl rfl hown0 hrd0 (icells_one _) (by omega) (by omega) (by omega) ?_
        intro A2 c2 w4 hrc hg4 _
        have hbr4 : Below wr.heap.size wr w4 := Bel.grownOwn hbr3 hg4 hown0 (by omega)
        simp only [Nat.zero_add, List.nil_append] at hrc
        clear hg4 hown0 hrd0
        refine hK.out _ _ (hbr4.mono (by omega)) (fun _ => ?_)
        clear hK K
        simp only [Act.put, List.setIfInBounds_toArray, List.set_cons_zero, List.set_cons_succ, Nat.zero_add]
        refine wpAnyH_ready (rs := [9]) (by kernel_rfl) (by simp) ?_
        refine AllReadyH.cons (o := _) rfl (fun K hK => ?_) AllReadyH.nil
        go_simp
        refine hK.out _ _ (Below.alloc (hbr4.mono (by omega)) (by have := hbr4.size; omega) _) (fun _ => ?_)
        clear hK K
        obtain ⟨W, hW⟩ : ∃ W, W = w4.alloc (.cells #[.slice A2 m c2] 47) := ⟨_, rfl⟩
        rw [← hW]
        have hb4W : Below w4.heap.size w4 W := by rw [hW]; exact (by repeat (first | exact Below.refl _ _ | assumption | apply Below.drew | apply below_drewN | apply Bel.alloc | (refine Bel.setCell_ ?_ ?_; rotate_left; omega) | (refine Bel.step ?_ (by assumption))))
        have hrdW : Rds W 1 (some ⟨w4.heap.size, 0, none⟩) 1 [.slice A2 m c2] := by rw [hW]; exact (Blk.new w4 47 #[.slice A2 m c2]).rds rfl
        clear hW
        have hbrW : Below wr.heap.size wr W := Bel.step hbr4 hb4W
        have hcW := hrc.rds.rdI.below hb4W
        have hloW : ∀ g, blkOf A2 = some g → wr.heap.size ≤ g ∧ g < W.heap.size := fun g hg => ⟨(hrc.lt g hg).1, Nat.lt_of_lt_of_le (hrc.lt g hg).2 hb4W.size⟩
        have hcapW := hrc.cap
        have hcapM := hrc.capMax
        have hbrW : Below wr.heap.size wr W := hbrW
        have hyW := hown.below hbrW
        have hbW : Below (w.heap.size + 2) wr W := hbrW.mono (by omega)
        have hblW : Below w.heap.size w W := Bel.step hbl hbrW
        have hJW := hJ.below hbrW hJ.lt
        have hRW := hR.below hbrW hR.lt
        have hKW := hK0.below hbrW hK0.lt
        have hclW : ∀ g, blkOf A2 = some g → w.heap.size + 3 ≤ g ∧ g < W.heap.size ∧ blkOf A3 ≠ some g := fun g hg => by
          have h1 := hloW g hg
          refine ⟨by omega, h1.2, fun e => ?_⟩
          have h2 := (hown.1.lt g e).2
          omega
        have hWsz : w.heap.size + 3 ≤ W.heap.size := by have := hbrW.size; omega
        have HYY := Lib.hid hyW
        have hownY := hyW.1
        clear hyW
        refine wpAnyH_ready (rs := [10]) (by kernel_rfl) (by simp) ?_
        refine AllReadyH.cons (o := _) rfl (fun K hK => ?_) AllReadyH.nil
        with_reducible refine step_app' (some 22) rfl rfl (.tmp 13) (.tmp 21) 27 rfl 47 _ 1 24 infoRw Tryz.underlying27 rfl (by omega) rfl rfl hownY hrdW (slice_one _ _ _) (by omega) (by omega) hWsz ?_
        intro A' c' w' hown' hg hat
        have hb5 : Below (w.heap.size + 2) wr w' := Bel.grownOwn hbW hg (hownY.mono (by omega)) (by omega)
        have hb6 : Below w.heap.size w w' := Bel.grownOwn hblW hg (hownY.mono (by omega)) (by omega)
        have hJ' := hJW.grown hg (hownY.ne (by omega))
        have hR' := hRW.grown hg (hownY.ne (by omega))
        have hK' := hKW.grown hg (hownY.ne (by omega))
        have HYN := Lib.hid (HYY.out.push hown' hg hat hcW hclW hcapW hcapM)
        clear hownY hrdW hbW hblW hJW hRW hKW hg hclW hcW hown' hat HYY hbrW hcapW hcapM
        refine hK.out _ _ hb5 (fun _ => ?_)
        clear hK K
        simp only [Act.put, List.setIfInBounds_toArray, List.set_cons_zero, List.set_cons_succ]
        refine take_ (i := 11) (d := some 23) (v := ?_) rfl rfl (by kernel_rfl) (by kernel_rfl) (by kernel_rfl) (fun _ _ _ h => h) (by rfl) ?_ (by first | rfl | trivial | assumption) ?_
        rotate_left
        · (intro V hSw; (try (have hF := HSX.out V hSw)); (try (cases hSw)); (try go_split_ands); go_simp; try with_reducible rfl)
        simp only [Act.put, List.setIfInBounds_toArray, List.set_cons_zero, List.set_cons_succ]
        have k3' := hK'.cell 0
        simp only [List.getElem?_toArray, List.getElem?_cons_zero] at k3'
        have kf' := hK'.frozen 0
        refine wpAnyH_ready (rs := [12]) (by kernel_rfl) (by simp) ?_
        refine AllReadyH.cons (o := _) rfl (fun K hK => ?_) AllReadyH.nil
        go_simp
        refine hK.out _ _ (hb5.setCell (by simp only; omega) _) (fun _ => ?_)
        clear hK K
        refine wpAnyH_done (by kernel_rfl) ?_ _
        have HK2 := Lib.hid (hK'.set_ 0 (.slice A' (j + 1) c'))
        have HY2 := Lib.hid (HYN.out.far (grownBy_set w' (w.heap.size + 2) 0 (.slice A' (j + 1) c')) (by omega))
        have HB2 := Lib.hid (show Below w.heap.size w (w'.setCell ⟨w.heap.size + 2, 0, none⟩ (.slice A' (j + 1) c')) from hb6.setCell (by simp only; omega) _)
        have HJ2 := Lib.hid (hJ'.far_ (b := w.heap.size + 2) (o := 0) (by omega) (.slice A' (j + 1) c'))
        have HR2 := Lib.hid (hR'.far_ (b := w.heap.size + 2) (o := 0) (by omega) (.slice A' (j + 1) c'))
        clear hK' k3' kf' hJ' hR'
        go_wp2_with fail
        go_roundw
        case rel => exact ⟨HB2.out, HJ2.out, HR2.out, j + 1, A', c', _, by omega, by go_num, HK2.out, by rw [HN.out]; exact HY2.out⟩
        case measure => simp [intOf]; omega
      · go_simp
        refine hK.out _ _ (((Below.refl _ _).alloc (by omega) _).drew) (fun _ => ?_)
        clear hK K
        obtain ⟨W3, hW3⟩ : ∃ W3, W3 = (wr.alloc (.cells #[] 3)).drew := ⟨_, rfl⟩
        rw [← hW3]
        have hbr3 : Below wr.heap.size wr W3 := by rw [hW3]; exact (by repeat (first | exact Below.refl _ _ | assumption | apply Below.drew | apply below_drewN | apply Bel.alloc | (refine Bel.setCell_ ?_ ?_; rotate_left; omega) | (refine Bel.step ?_ (by assumption))))
        have hown0 : Own W3 wr.heap.size 3 1 (some ⟨wr.heap.size, 0, none⟩) 0 0 [] := by rw [hW3]; exact lit0 (Nat.le_refl _)
        have hrd0 := (HRR.out.below hbr3).rdsI
        have hz3 := hbr3.size
        clear hW3
        refine wpAnyH_ready (rs := [1, 8]) (by kernel_rfl) (by simp) ?_
        refine AllReadyH.cons (o := _) rfl (fun K hK => ?_) (AllReadyH.cons (o := _) rfl (fun K hK => ?_) AllReadyH.nil)
        · have k3a : W3.cell? ⟨w.heap.size + 2, 0, none⟩ = some (.slice A3 j c3) := (hK0.below hbr3 hK0.lt).cell 0
          go_simp
          refine hK.out _ _ (hbr3.mono (by omega)) (fun _ => ?_)
          clear hK K k3a
          refine wpAnyH_ready (rs := [8]) (by kernel_rfl) (by simp) ?_
          refine AllReadyH.cons (o := _) rfl (fun K hK => ?_) AllReadyH.nil
          with_reducible refine step_app' (some 20) rfl rfl (.tmp 14) (.tmp 19) 47 rfl 3 _ 1 8 infoInt Tryz.underlying47 rfl (by omega) rfl rfl hown0 hrd0 (icells_one _) (by omega) (by omega) (by omega) ?_
          intro A2 c2 w4 hrc hg4 _
          have hbr4 : Below wr.heap.size wr w4 := Bel.grownOwn hbr3 hg4 hown0 (by omega)
          simp only [Nat.zero_add, List.nil_append] at hrc
          clear hg4 hown0 hrd0
          refine hK.out _ _ (hbr4.mono (by omega)) (fun _ => ?_)
          clear hK K
          simp only [Act.put, List.setIfInBounds_toArray, List.set_cons_zero, List.set_cons_succ, Nat.zero_add]
          refine wpAnyH_ready (rs := [9]) (by kernel_rfl) (by simp) ?_
          refine AllReadyH.cons (o := _) rfl (fun K hK => ?_) AllReadyH.nil
          go_simp
          refine hK.out _ _ (Below.alloc (hbr4.mono (by omega)) (by have := hbr4.size; omega) _) (fun _ => ?_)
          clear hK K
          obtain ⟨W, hW⟩ : ∃ W, W = w4.alloc (.cells #[.slice A2 m c2] 47) := ⟨_, rfl⟩
          rw [← hW]
          have hb4W : Below w4.heap.size w4 W := by rw [hW]; exact (by repeat (first | exact Below.refl _ _ | assumption | apply Below.drew | apply below_drewN | apply Bel.alloc | (refine Bel.setCell_ ?_ ?_; rotate_left; omega) | (refine Bel.step ?_ (by assumption))))
          have hrdW : Rds W 1 (some ⟨w4.heap.size, 0, none⟩) 1 [.slice A2 m c2] := by rw [hW]; exact (Blk.new w4 47 #[.slice A2 m c2]).rds rfl
          clear hW
          have hbrW : Below wr.heap.size wr W := Bel.step hbr4 hb4W
          have hcW := hrc.rds.rdI.below hb4W
          have hloW : ∀ g, blkOf A2 = some g → wr.heap.size ≤ g ∧ g < W.heap.size := fun g hg => ⟨(hrc.lt g hg).1, Nat.lt_of_lt_of_le (hrc.lt g hg).2 hb4W.size⟩
          have hcapW := hrc.cap
          have hcapM := hrc.capMax
          have hbrW : Below wr.heap.size wr W := hbrW
          have hyW := hown.below hbrW
          have hbW : Below (w.heap.size + 2) wr W := hbrW.mono (by omega)
          have hblW : Below w.heap.size w W := Bel.step hbl hbrW
          have hJW := hJ.below hbrW hJ.lt
          have hRW := hR.below hbrW hR.lt
          have hKW := hK0.below hbrW hK0.lt
          have hclW : ∀ g, blkOf A2 = some g → w.heap.size + 3 ≤ g ∧ g < W.heap.size ∧ blkOf A3 ≠ some g := fun g hg => by
            have h1 := hloW g hg
            refine ⟨by omega, h1.2, fun e => ?_⟩
            have h2 := (hown.1.lt g e).2
            omega
          have hWsz : w.heap.size + 3 ≤ W.heap.size := by have := hbrW.size; omega
          have HYY := Lib.hid hyW
          have hownY := hyW.1
          clear hyW
          refine wpAnyH_ready (rs := [10]) (by kernel_rfl) (by simp) ?_
          refine AllReadyH.cons (o := _) rfl (fun K hK => ?_) AllReadyH.nil
          with_reducible refine step_app' (some 22) rfl rfl (.tmp 13) (.tmp 21) 27 rfl 47 _ 1 24 infoRw Tryz.underlying27 rfl (by omega) rfl rfl hownY hrdW (slice_one _ _ _) (by omega) (by omega) hWsz ?_
          intro A' c' w' hown' hg hat
          have hb5 : Below (w.heap.size + 2) wr w' := Bel.grownOwn hbW hg (hownY.mono (by omega)) (by omega)
          have hb6 : Below w.heap.size w w' := Bel.grownOwn hblW hg (hownY.mono (by omega)) (by omega)
          have hJ' := hJW.grown hg (hownY.ne (by omega))
          have hR' := hRW.grown hg (hownY.ne (by omega))
          have hK' := hKW.grown hg (hownY.ne (by omega))
          have HYN := Lib.hid (HYY.out.push hown' hg hat hcW hclW hcapW hcapM)
          clear hownY hrdW hbW hblW hJW hRW hKW hg hclW hcW hown' hat HYY hbrW hcapW hcapM
          refine hK.out _ _ hb5 (fun _ => ?_)
          clear hK K
          simp only [Act.put, List.setIfInBounds_toArray, List.set_cons_zero, List.set_cons_succ]
          refine take_ (i := 11) (d := some 23) (v := ?_) rfl rfl (by kernel_rfl) (by kernel_rfl) (by kernel_rfl) (fun _ _ _ h => h) (by rfl) ?_ (by first | rfl | trivial | assumption) ?_
          rotate_left
          · (intro V hSw; (try (have hF := HSX.out V hSw)); (try (cases hSw)); (try go_split_ands); go_simp; try with_reducible rfl)
          simp only [Act.put, List.setIfInBounds_toArray, List.set_cons_zero, List.set_cons_succ]
          have k3' := hK'.cell 0
          simp only [List.getElem?_toArray, List.getElem?_cons_zero] at k3'
          have kf' := hK'.frozen 0
          refine wpAnyH_ready (rs := [12]) (by kernel_rfl) (by simp) ?_
          refine AllReadyH.cons (o := _) rfl (fun K hK => ?_) AllReadyH.nil
          go_simp
          refine hK.out _ _ (hb5.setCell (by simp only; omega) _) (fun _ => ?_)
          clear hK K
          refine wpAnyH_done (by kernel_rfl) ?_ _
          have HK2 := Lib.hid (hK'.set_ 0 (.slice A' (j + 1) c'))
          have HY2 := Lib.hid (HYN.out.far (grownBy_set w' (w.heap.size + 2) 0 (.slice A' (j + 1) c')) (by omega))
          have HB2 := Lib.hid (show Below w.heap.size w (w'.setCell ⟨w.heap.size + 2, 0, none⟩ (.slice A' (j + 1) c')) from hb6.setCell (by simp only; omega) _)
          have HJ2 := Lib.hid (hJ'.far_ (b := w.heap.size + 2) (o := 0) (by omega) (.slice A' (j + 1) c'))
          have HR2 := Lib.hid (hR'.far_ (b := w.heap.size + 2) (o := 0) (by omega) (.slice A' (j + 1) c'))
          clear hK' k3' kf' hJ' hR'
          go_wp2_with fail
          go_roundw
          case rel => exact ⟨HB2.out, HJ2.out, HR2.out, j + 1, A', c', _, by omega, by go_num, HK2.out, by rw [HN.out]; exact HY2.out⟩
          case measure => simp [intOf]; omega
        · with_reducible refine step_app' (some 20) rfl rfl (.tmp 14) (.tmp 19) 47 rfl 3 _ 1 8 infoInt Tryz.underlying47 rfl (by omega) rfl rfl hown0 hrd0 (icells_one _) (by omega) (by omega) (by omega) ?_
          intro A2 c2 w4 hrc hg4 _
          have hbr4 : Below wr.heap.size wr w4 := Bel.grownOwn hbr3 hg4 hown0 (by omega)
          simp only [Nat.zero_add, List.nil_append] at hrc
          clear hg4 hown0 hrd0
          refine hK.out _ _ (hbr4.mono (by omega)) (fun _ => ?_)
          clear hK K
          simp only [Act.put, List.setIfInBounds_toArray, List.set_cons_zero, List.set_cons_succ, Nat.zero_add]
          refine wpAnyH_ready (rs := [1, 9]) (by kernel_rfl) (by simp) ?_
          refine AllReadyH.cons (o := _) rfl (fun K hK => ?_) (AllReadyH.cons (o := _) rfl (fun K hK => ?_) AllReadyH.nil)
          · have k3a : w4.cell? ⟨w.heap.size + 2, 0, none⟩ = some (.slice A3 j c3) := (hK0.below hbr4 hK0.lt).cell 0
            go_simp
            refine hK.out _ _ (hbr4.mono (by omega)) (fun _ => ?_)
            clear hK K k3a
            refine wpAnyH_ready (rs := [9]) (by kernel_rfl) (by simp) ?_
            refine AllReadyH.cons (o := _) rfl (fun K hK => ?_) AllReadyH.nil
            go_simp
            refine hK.out _ _ (Below.alloc (hbr4.mono (by omega)) (by have := hbr4.size; omega) _) (fun _ => ?_)
            clear hK K
            obtain ⟨W, hW⟩ : ∃ W, W = w4.alloc (.cells #[.slice A2 m c2] 47) := ⟨_, rfl⟩
            rw [← hW]
            have hb4W : Below w4.heap.size w4 W := by rw [hW]; exact (by repeat (first | exact Below.refl _ _ | assumption | apply Below.drew | apply below_drewN | apply Bel.alloc | (refine Bel.setCell_ ?_ ?_; rotate_left; omega) | (refine Bel.step ?_ (by assumption))))
            have hrdW : Rds W 1 (some ⟨w4.heap.size, 0, none⟩) 1 [.slice A2 m c2] := by rw [hW]; exact (Blk.new w4 47 #[.slice A2 m c2]).rds rfl
            clear hW
            have hbrW : Below wr.heap.size wr W := Bel.step hbr4 hb4W
            have hcW := hrc.rds.rdI.below hb4W
            have hloW : ∀ g, blkOf A2 = some g → wr.heap.size ≤ g ∧ g < W.heap.size := fun g hg => ⟨(hrc.lt g hg).1, Nat.lt_of_lt_of_le (hrc.lt g hg).2 hb4W.size⟩
            have hcapW := hrc.cap
            have hcapM := hrc.capMax
            have hbrW : Below wr.heap.size wr W := hbrW
            have hyW := hown.below hbrW
            have hbW : Below (w.heap.size + 2) wr W := hbrW.mono (by omega)
            have hblW : Below w.heap.size w W := Bel.step hbl hbrW
            have hJW := hJ.below hbrW hJ.lt
            have hRW := hR.below hbrW hR.lt
            have hKW := hK0.below hbrW hK0.lt
            have hclW : ∀ g, blkOf A2 = some g → w.heap.size + 3 ≤ g ∧ g < W.heap.size ∧ blkOf A3 ≠ some g := fun g hg => by
              have h1 := hloW g hg
              refine ⟨by omega, h1.2, fun e => ?_⟩
              have h2 := (hown.1.lt g e).2
              omega
            have hWsz : w.heap.size + 3 ≤ W.heap.size := by have := hbrW.size; omega
            have HYY := Lib.hid hyW
            have hownY := hyW.1
            clear hyW
            refine wpAnyH_ready (rs := [10]) (by kernel_rfl) (by simp) ?_
            refine AllReadyH.cons (o := _) rfl (fun K hK => ?_) AllReadyH.nil
            with_reducible refine step_app' (some 22) rfl rfl (.tmp 13) (.tmp 21) 27 rfl 47 _ 1 24 infoRw Tryz.underlying27 rfl (by omega) rfl rfl hownY hrdW (slice_one _ _ _) (by omega) (by omega) hWsz ?_
            intro A' c' w' hown' hg hat
            have hb5 : Below (w.heap.size + 2) wr w' := Bel.grownOwn hbW hg (hownY.mono (by omega)) (by omega)
            have hb6 : Below w.heap.size w w' := Bel.grownOwn hblW hg (hownY.mono (by omega)) (by omega)
            have hJ' := hJW.grown hg (hownY.ne (by omega))
            have hR' := hRW.grown hg (hownY.ne (by omega))
            have hK' := hKW.grown hg (hownY.ne (by omega))
            have HYN := Lib.hid (HYY.out.push hown' hg hat hcW hclW hcapW hcapM)
            clear hownY hrdW hbW hblW hJW hRW hKW hg hclW hcW hown' hat HYY hbrW hcapW hcapM
            refine hK.out _ _ hb5 (fun _ => ?_)
            clear hK K
            simp only [Act.put, List.setIfInBounds_toArray, List.set_cons_zero, List.set_cons_succ]
            refine take_ (i := 11) (d := some 23) (v := ?_) rfl rfl (by kernel_rfl) (by kernel_rfl) (by kernel_rfl) (fun _ _ _ h => h) (by rfl) ?_ (by first | rfl | trivial | assumption) ?_
            rotate_left
            · (intro V hSw; (try (have hF := HSX.out V hSw)); (try (cases hSw)); (try go_split_ands); go_simp; try with_reducible rfl)
            simp only [Act.put, List.setIfInBounds_toArray, List.set_cons_zero, List.set_cons_succ]
            have k3' := hK'.cell 0
            simp only [List.getElem?_toArray, List.getElem?_cons_zero] at k3'
            have kf' := hK'.frozen 0
            refine wpAnyH_ready (rs := [12]) (by kernel_rfl) (by simp) ?_
            refine AllReadyH.cons (o := _) rfl (fun K hK => ?_) AllReadyH.nil
            go_simp
            refine hK.out _ _ (hb5.setCell (by simp only; omega) _) (fun _ => ?_)
            clear hK K
            refine wpAnyH_done (by kernel_rfl) ?_ _
            have HK2 := Lib.hid (hK'.set_ 0 (.slice A' (j + 1) c'))
            have HY2 := Lib.hid (HYN.out.far (grownBy_set w' (w.heap.size + 2) 0 (.slice A' (j + 1) c')) (by omega))
            have HB2 := Lib.hid (show Below w.heap.size w (w'.setCell ⟨w.heap.size + 2, 0, none⟩ (.slice A' (j + 1) c')) from hb6.setCell (by simp only; omega) _)
            have HJ2 := Lib.hid (hJ'.far_ (b := w.heap.size + 2) (o := 0) (by omega) (.slice A' (j + 1) c'))
            have HR2 := Lib.hid (hR'.far_ (b := w.heap.size + 2) (o := 0) (by omega) (.slice A' (j + 1) c'))
            clear hK' k3' kf' hJ' hR'
            go_wp2_with fail
            go_roundw
            case rel => exact ⟨HB2.out, HJ2.out, HR2.out, j + 1, A', c', _, by omega, by go_num, HK2.out, by rw [HN.out]; exact HY2.out⟩
            case measure => simp [intOf]; omega
          · go_simp
            refine hK.out _ _ (Below.alloc (hbr4.mono (by omega)) (by have := hbr4.size; omega) _) (fun _ => ?_)
            clear hK K
            have k3a : ∀ o, (w4.alloc o).cell? ⟨w.heap.size + 2, 0, none⟩ = some (.slice A3 j c3) := fun o => ((hK0.below hbr4 hK0.lt).alloc o).cell 0
            refine wpAnyH_ready (rs := [1]) (by kernel_rfl) (by simp) ?_
            refine AllReadyH.cons (o := _) rfl (fun K hK => ?_) AllReadyH.nil
            go_simp
            refine hK.out _ _ (Below.alloc (hbr4.mono (by omega)) (by have := hbr4.size; omega) _) (fun _ => ?_)
            clear hK K
            clear k3a
            obtain ⟨W, hW⟩ : ∃ W, W = w4.alloc (.cells #[.slice A2 m c2] 47) := ⟨_, rfl⟩
            rw [← hW]
            have hb4W : Below w4.heap.size w4 W := by rw [hW]; exact (by repeat (first | exact Below.refl _ _ | assumption | apply Below.drew | apply below_drewN | apply Bel.alloc | (refine Bel.setCell_ ?_ ?_; rotate_left; omega) | (refine Bel.step ?_ (by assumption))))
            have hrdW : Rds W 1 (some ⟨w4.heap.size, 0, none⟩) 1 [.slice A2 m c2] := by rw [hW]; exact (Blk.new w4 47 #[.slice A2 m c2]).rds rfl
            clear hW
            have hbrW : Below wr.heap.size wr W := Bel.step hbr4 hb4W
            have hcW := hrc.rds.rdI.below hb4W
            have hloW : ∀ g, blkOf A2 = some g → wr.heap.size ≤ g ∧ g < W.heap.size := fun g hg => ⟨(hrc.lt g hg).1, Nat.lt_of_lt_of_le (hrc.lt g hg).2 hb4W.size⟩
            have hcapW := hrc.cap
            have hcapM := hrc.capMax
            have hbrW : Below wr.heap.size wr W := hbrW
            have hyW := hown.below hbrW
            have hbW : Below (w.heap.size + 2) wr W := hbrW.mono (by omega)
            have hblW : Below w.heap.size w W := Bel.step hbl hbrW
            have hJW := hJ.below hbrW hJ.lt
            have hRW := hR.below hbrW hR.lt
            have hKW := hK0.below hbrW hK0.lt
            have hclW : ∀ g, blkOf A2 = some g → w.heap.size + 3 ≤ g ∧ g < W.heap.size ∧ blkOf A3 ≠ some g := fun g hg => by
              have h1 := hloW g hg
              refine ⟨by omega, h1.2, fun e => ?_⟩
              have h2 := (hown.1.lt g e).2
              omega
            have hWsz : w.heap.size + 3 ≤ W.heap.size := by have := hbrW.size; omega
            have HYY := Lib.hid hyW
            have hownY := hyW.1
            clear hyW
            refine wpAnyH_ready (rs := [10]) (by kernel_rfl) (by simp) ?_
            refine AllReadyH.cons (o := _) rfl (fun K hK => ?_) AllReadyH.nil
            with_reducible refine step_app' (some 22) rfl rfl (.tmp 13) (.tmp 21) 27 rfl 47 _ 1 24 infoRw Tryz.underlying27 rfl (by omega) rfl rfl hownY hrdW (slice_one _ _ _) (by omega) (by omega) hWsz ?_
            intro A' c' w' hown' hg hat
            have hb5 : Below (w.heap.size + 2) wr w' := Bel.grownOwn hbW hg (hownY.mono (by omega)) (by omega)
            have hb6 : Below w.heap.size w w' := Bel.grownOwn hblW hg (hownY.mono (by omega)) (by omega)
            have hJ' := hJW.grown hg (hownY.ne (by omega))
            have hR' := hRW.grown hg (hownY.ne (by omega))
            have hK' := hKW.grown hg (hownY.ne (by omega))
            have HYN := Lib.hid (HYY.out.push hown' hg hat hcW hclW hcapW hcapM)
            clear hownY hrdW hbW hblW hJW hRW hKW hg hclW hcW hown' hat HYY hbrW hcapW hcapM
            refine hK.out _ _ hb5 (fun _ => ?_)
            clear hK K
            simp only [Act.put, List.setIfInBounds_toArray, List.set_cons_zero, List.set_cons_succ]
            refine take_ (i := 11) (d := some 23) (v := ?_) rfl rfl (by kernel_rfl) (by kernel_rfl) (by kernel_rfl) (fun _ _ _ h => h) (by rfl) ?_ (by first | rfl | trivial | assumption) ?_
            rotate_left
            · (intro V hSw; (try (have hF := HSX.out V hSw)); (try (cases hSw)); (try go_split_ands); go_simp; try with_reducible rfl)
            simp only [Act.put, List.setIfInBounds_toArray, List.set_cons_zero, List.set_cons_succ]
            have k3' := hK'.cell 0
            simp only [List.getElem?_toArray, List.getElem?_cons_zero] at k3'
            have kf' := hK'.frozen 0
            refine wpAnyH_ready (rs := [12]) (by kernel_rfl) (by simp) ?_
            refine AllReadyH.cons (o := _) rfl (fun K hK => ?_) AllReadyH.nil
            go_simp
            refine hK.out _ _ (hb5.setCell (by simp only; omega) _) (fun _ => ?_)
            clear hK K
            refine wpAnyH_done (by kernel_rfl) ?_ _
            have HK2 := Lib.hid (hK'.set_ 0 (.slice A' (j + 1) c'))
            have HY2 := Lib.hid (HYN.out.far (grownBy_set w' (w.heap.size + 2) 0 (.slice A' (j + 1) c')) (by omega))
            have HB2 := Lib.hid (show Below w.heap.size w (w'.setCell ⟨w.heap.size + 2, 0, none⟩ (.slice A' (j + 1) c')) from hb6.setCell (by simp only; omega) _)
            have HJ2 := Lib.hid (hJ'.far_ (b := w.heap.size + 2) (o := 0) (by omega) (.slice A' (j + 1) c'))
            have HR2 := Lib.hid (hR'.far_ (b := w.heap.size + 2) (o := 0) (by omega) (.slice A' (j + 1) c'))
            clear hK' k3' kf' hJ' hR'
            go_wp2_with fail
            go_roundw
            case rel => exact ⟨HB2.out, HJ2.out, HR2.out, j + 1, A', c', _, by omega, by go_num, HK2.out, by rw [HN.out]; exact HY2.out⟩
            case measure => simp [intOf]; omega
    · obtain rfl : L = j := by omega
      rw [List.take_of_length_le (by rw [HT.out.1]; exact Nat.le_refl _)] at hown
      have q0 := hK0.cell 0
      have r0 := hR.cell 0
      simp only [List.getElem?_toArray, List.getElem?_cons_zero] at q0 r0
      have f0 := hR.frozen 0
      have hown2 := hown.far (grownBy_set wr (w.heap.size + 1) 0 (.slice A3 L c3)) (by omega)
      have HM := Lib.hid (hown2.rdM (G := fun b => w.heap.size ≤ b ∧ b < (wr.setCell ⟨w.heap.size + 1, 0, none⟩ (.slice A3 L c3)).heap.size) (fun b h1 h2 => ⟨by omega, h2⟩))
      have HCP := Lib.hid (And.intro hown.1.cap hown.1.capMax)
      clear hown hown2 hR
      go_wp2_with fail
      refine bodyPost_ret (v := .agg #[.slice A3 L c3]) (by simp [results, Tryz.results9, go_sem, r0]) rfl ?_
      exact ⟨A3, c3, rfl, HM.out, HCP.out.1, HCP.out.2, (by repeat (first | exact Below.refl _ _ | assumption | apply Below.drew | apply below_drewN | apply Bel.alloc | (refine Bel.setCell_ ?_ ?_; rotate_left; omega) | (refine Bel.step ?_ (by assumption))))⟩
end Go.Proofs.YtgkeolddpielpaaGreatDoor
