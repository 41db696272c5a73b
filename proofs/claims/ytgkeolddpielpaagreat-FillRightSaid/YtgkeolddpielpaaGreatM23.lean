/- Parts of the proof: Po, Md, Kw, Kt. -/
import Derived.Test.YtgkeolddpielpaaGreatM22
namespace Go.Proofs.YtgkeolddpielpaaGreat
open Go.RowKit

attribute [local go_sem ↓] Go.wp_at_zero Go.wp_at_succ



set_option maxHeartbeats 4000000 in
set_option maxRecDepth 20000 in
theorem partTo_any (Q : Option Addr) (L cq : Nat) (ls : List (List Int)) (w : World) (h : RdT w Q L ls) (hL : L ≤ 1000000) (hc : ∀ l ∈ ls, l.length ≤ 1000000) :
 Calls Tryz.prog 38 #[.agg #[.slice Q L cq]] w fun r w' => ∃ Q' cq', r = .returned (.agg #[.slice Q' L cq']) ∧ RdT (msk w' (fun b => w.heap.size ≤ b ∧ b < w'.heap.size)) Q' L ls ∧ L ≤ cq' ∧ cq' ≤ 9223372036854775807 ∧ Below w.heap.size w w' := by
 have HT := Lib.hid h
 have HC := Lib.hid hc
 clear h hc
 go_enter Tryz.func38, Tryz.ntmps38
 go_wp2_with fail
 (refine wp_named ?_; intro w1 hw1)
 have hb1 : Below w.heap.size w w1 := by rw [hw1]; exact bELt
 have hJ : Blk w1 w.heap.size 29 #[.slice Q L cq] := by rw [hw1]; exact bLNt
 have hR : Blk w1 (w.heap.size + 1) 79 #[.slice none 0 0] := by rw [hw1]; exact bLNt
 have hK0 : Blk w1 (w.heap.size + 2) 79 #[.slice none 0 0] := by rw [hw1]; exact bLNt
 clear hw1
 go_loopw [4] (fun i W => Below w.heap.size w W ∧ Blk W w.heap.size 29 #[.slice Q L cq] ∧ Blk W (w.heap.size + 1) 79 #[.slice none 0 0] ∧ ∃ (j : Nat) (A3 : Option Addr) (c3 : Nat) (xs : List Value), j ≤ L ∧ i = .int .i64 j ∧ Blk W (w.heap.size + 2) 79 #[.slice A3 j c3] ∧ RwL W (w.heap.size + 3) A3 j c3 xs (ls.take j)) (fun i _ => L - (intOf i).toNat)
 case atStart => exact ⟨hb1, hJ, hR, 0, none, 0, [], Nat.zero_le _, rfl, hK0, by simpa using RwL.nil _ _⟩
 case round =>
  clear hb1 hJ hR hK0
  obtain ⟨hbl, hJ, hR, j, A3, c3, xs, hj, rfl, hK0, hown⟩ := hrel
  have j0 := hJ.cell 0
  simp only [List.getElem?_toArray, List.getElem?_cons_zero] at j0
  by_cases hlt : j < L
  · obtain ⟨sb, so, Ar, m, cr, l, rfl, hl, hcl, hr, hq1, hq2⟩ := HT.out.at_ hlt
    have HN := Lib.hid (show ls.take (j + 1) = ls.take j ++ [l] by
     rw [List.take_succ_eq_append_getElem (List.getElem?_eq_some_iff.1 hl).1, (List.getElem?_eq_some_iff.1 hl).2])
    have hm : m ≤ 1000000 := by have := HC.out l (List.mem_of_getElem? hl); rw [hr.1] at this; exact this
    have dcl := Below.cellOf hbl (Nat.le_refl _) hcl
    have HSB := Lib.hid (lt_of_cell hcl)
    have HRR := Lib.hid (hr.below hbl)
    have i3 : (0 : Int) ≤ (j : Int) := by omega
    have i4 : (j : Int) < (L : Int) := by omega
    have hsz : w.heap.size + 3 ≤ wr.heap.size := by have := hK0.lt; omega
    clear hr hl hcl hq1 hq2
    have HSX := Lib.hid (show ∀ V, Below (w.heap.size + 2) wr V → V.cell? ⟨w.heap.size, 0, none⟩ = some (.slice (some ⟨sb, so, none⟩) L cq) ∧ V.cell? ⟨sb, so + j, none⟩ = some (.slice Ar m cr) from
     fun V hb => ⟨(hb.cell (by simp only; omega)).trans j0, (hb.cell (by have := lt_of_cell dcl; have := HSB.out; simp only at this ⊢; omega)).trans dcl⟩)
    go_wp2_with fail
    refine wp_region_held_drew (S := fun V => Below (w.heap.size + 2) wr V) (by kernel_rfl) (Below.refl _ _).drew (fun _ => ?_)
    refine tk 0 12 (h := ⟨_, tv, ?_⟩)
    simp only [pE, List.set]
    refine tk 3 15 (h := ⟨_, tv, ?_⟩)
    simp only [pE, List.set]
    refine tk 4 16 (h := ⟨_, tv, ?_⟩)
    simp only [pE, List.set]
    refine tk 5 17 (h := ⟨_, tv, ?_⟩)
    simp only [pE, List.set]
    refine tk 6 18 (h := ⟨_, tv, ?_⟩)
    simp only [pE, List.set]
    refine tk 7 19 (h := ⟨_, tv, ?_⟩)
    simp only [pE, List.set]
    refine wpAnyH_ready (rs := [1, 2]) (by kernel_rfl) (by simp) ?_
    refine AllReadyH.cons (o := _) rfl (fun K hK => ?_) (AllReadyH.cons (o := _) rfl (fun K hK => ?_) AllReadyH.nil)
    · have k3a := hK0.cell 0
      simp only [List.getElem?_toArray, List.getElem?_cons_zero] at k3a
      go_simp
      refine hK.out _ _ (Below.refl _ _).drew (fun _ => ?_)
      clear hK K k3a
      refine wpAnyH_ready (rs := [2]) (by kernel_rfl) (by simp) ?_
      refine AllReadyH.cons (o := _) rfl (fun K hK => ?_) AllReadyH.nil
      go_simp
      refine hK.out _ _ (((Below.refl _ _).alloc (by omega) _).drew) (fun _ => ?_)
      clear hK K
      obtain ⟨W3, hW3⟩ : ∃ W3, W3 = (wr.alloc (.cells #[] 3)).drew := ⟨_, rfl⟩
      rw [← hW3]
      have hbr3 : Below wr.heap.size wr W3 := by rw [hW3]; exact bELt
      have hown0 : Own W3 wr.heap.size 3 1 (some ⟨wr.heap.size, 0, none⟩) 0 0 [] := by rw [hW3]; exact lit0 (Nat.le_refl _)
      have hrd0 := (HRR.out.below hbr3).rdsI
      have hz3 := hbr3.size
      clear hW3
      refine wpAnyH_ready (rs := [8]) (by kernel_rfl) (by simp) ?_
      refine AllReadyH.cons (o := _) rfl (fun K hK => ?_) AllReadyH.nil
      with_reducible refine step_app' (some 20) rfl rfl (.tmp 14) (.tmp 19) 36 rfl 3 _ 1 8 infoInt Tryz.underlying36 rfl (by omega) rfl rfl hown0 hrd0 (icells_one _) (by omega) (by omega) (by omega) ?_
      intro A2 c2 w4 hrc hg4 _
      have hbr4 : Below wr.heap.size wr w4 := Bel.grownOwn hbr3 hg4 hown0 (by omega)
      simp only [Nat.zero_add, List.nil_append] at hrc
      clear hg4 hown0 hrd0
      refine hK.out _ _ (hbr4.mono (by omega)) (fun _ => ?_)
      clear hK K
      simp only [Act.put, List.setIfInBounds_toArray, List.set_cons_zero, List.set_cons_succ, Nat.zero_add]
      refine wpAnyH_ready (rs := [9]) (by kernel_rfl) (by simp) ?_
      refine AllReadyH.cons (o := _) rfl (fun K hK => ?_) AllReadyH.nil
      go_simp
      refine hK.out _ _ (Below.alloc (hbr4.mono (by omega)) (by have := hbr4.size; omega) _) (fun _ => ?_)
      clear hK K
      obtain ⟨W, hW⟩ : ∃ W, W = w4.alloc (.cells #[.slice A2 m c2] 36) := ⟨_, rfl⟩
      rw [← hW]
      have hb4W : Below w4.heap.size w4 W := by rw [hW]; exact bELt
      have hrdW : Rds W 1 (some ⟨w4.heap.size, 0, none⟩) 1 [.slice A2 m c2] := by rw [hW]; exact (Blk.new w4 36 #[.slice A2 m c2]).rds rfl
      clear hW
      have hbrW : Below wr.heap.size wr W := Bel.step hbr4 hb4W
      have hcW := hrc.rds.rdI.below hb4W
      have hloW : ∀ g, blkOf A2 = some g → wr.heap.size ≤ g ∧ g < W.heap.size := fun g hg => ⟨(hrc.lt g hg).1, Nat.lt_of_lt_of_le (hrc.lt g hg).2 hb4W.size⟩
      have hcapW := hrc.cap
      have hcapM := hrc.capMax
      have hbrW : Below wr.heap.size wr W := hbrW
      have hyW := hown.below hbrW
      have hbW : Below (w.heap.size + 2) wr W := hbrW.mono (by omega)
      have hblW : Below w.heap.size w W := Bel.step hbl hbrW
      have hJW := hJ.below hbrW hJ.lt
      have hRW := hR.below hbrW hR.lt
      have hKW := hK0.below hbrW hK0.lt
      have hclW : ∀ g, blkOf A2 = some g → w.heap.size + 3 ≤ g ∧ g < W.heap.size ∧ blkOf A3 ≠ some g := fun g hg => by
       have h1 := hloW g hg
       refine ⟨by omega, h1.2, fun e => ?_⟩
       have h2 := (hown.1.lt g e).2
       omega
      have hWsz : w.heap.size + 3 ≤ W.heap.size := by have := hbrW.size; omega
      have HYY := Lib.hid hyW
      have hownY := hyW.1
      clear hyW
      refine wpAnyH_ready (rs := [10]) (by kernel_rfl) (by simp) ?_
      refine AllReadyH.cons (o := _) rfl (fun K hK => ?_) AllReadyH.nil
      with_reducible refine step_app' (some 22) rfl rfl (.tmp 13) (.tmp 21) 27 rfl 36 _ 1 24 infoRw Tryz.underlying27 rfl (by omega) rfl rfl hownY hrdW (slice_one _ _ _) (by omega) (by omega) hWsz ?_
      intro A' c' w' hown' hg hat
      have hb5 : Below (w.heap.size + 2) wr w' := Bel.grownOwn hbW hg (hownY.mono (by omega)) (by omega)
      have hb6 : Below w.heap.size w w' := Bel.grownOwn hblW hg (hownY.mono (by omega)) (by omega)
      have hJ' := hJW.grown hg (hownY.ne (by omega))
      have hR' := hRW.grown hg (hownY.ne (by omega))
      have hK' := hKW.grown hg (hownY.ne (by omega))
      have HYN := Lib.hid (HYY.out.push hown' hg hat hcW hclW hcapW hcapM)
      clear hownY hrdW hbW hblW hJW hRW hKW hg hclW hcW hown' hat HYY hbrW hcapW hcapM
      refine hK.out _ _ hb5 (fun _ => ?_)
      clear hK K
      simp only [Act.put, List.setIfInBounds_toArray, List.set_cons_zero, List.set_cons_succ]
      refine tk 11 23 (h := ⟨_, tv, ?_⟩)
      simp only [pE, List.set]
      have k3' := hK'.cell 0
      simp only [List.getElem?_toArray, List.getElem?_cons_zero] at k3'
      have kf' := hK'.frozen 0
      refine wpAnyH_ready (rs := [12]) (by kernel_rfl) (by simp) ?_
      refine AllReadyH.cons (o := _) rfl (fun K hK => ?_) AllReadyH.nil
      go_simp
      refine hK.out _ _ (hb5.setCell (by simp only; omega) _) (fun _ => ?_)
      clear hK K
      refine wpAnyH_done (by kernel_rfl) ?_ _
      have HK2 := Lib.hid (hK'.set_ 0 (.slice A' (j + 1) c'))
      have HY2 := Lib.hid (HYN.out.far (grownBy_set w' (w.heap.size + 2) 0 (.slice A' (j + 1) c')) (by omega))
      have HB2 := Lib.hid (show Below w.heap.size w (w'.setCell ⟨w.heap.size + 2, 0, none⟩ (.slice A' (j + 1) c')) from hb6.setCell (by simp only; omega) _)
      have HJ2 := Lib.hid (hJ'.far_ (b := w.heap.size + 2) (o := 0) (by omega) (.slice A' (j + 1) c'))
      have HR2 := Lib.hid (hR'.far_ (b := w.heap.size + 2) (o := 0) (by omega) (.slice A' (j + 1) c'))
      clear hK' k3' kf' hJ' hR'
      go_wp2_with fail
      go_roundw
      case rel => exact ⟨HB2.out, HJ2.out, HR2.out, j + 1, A', c', _, by omega, by go_num, HK2.out, by rw [HN.out]; exact HY2.out⟩
      case measure => simp [intOf]; omega
    · go_simp
      refine hK.out _ _ (((Below.refl _ _).alloc (by omega) _).drew) (fun _ => ?_)
      clear hK K
      obtain ⟨W3, hW3⟩ : ∃ W3, W3 = (wr.alloc (.cells #[] 3)).drew := ⟨_, rfl⟩
      rw [← hW3]
      have hbr3 : Below wr.heap.size wr W3 := by rw [hW3]; exact bELt
      have hown0 : Own W3 wr.heap.size 3 1 (some ⟨wr.heap.size, 0, none⟩) 0 0 [] := by rw [hW3]; exact lit0 (Nat.le_refl _)
      have hrd0 := (HRR.out.below hbr3).rdsI
      have hz3 := hbr3.size
      clear hW3
      refine wpAnyH_ready (rs := [1, 8]) (by kernel_rfl) (by simp) ?_
      refine AllReadyH.cons (o := _) rfl (fun K hK => ?_) (AllReadyH.cons (o := _) rfl (fun K hK => ?_) AllReadyH.nil)
      · have k3a : W3.cell? ⟨w.heap.size + 2, 0, none⟩ = some (.slice A3 j c3) := (hK0.below hbr3 hK0.lt).cell 0
        go_simp
        refine hK.out _ _ (hbr3.mono (by omega)) (fun _ => ?_)
        clear hK K k3a
        refine wpAnyH_ready (rs := [8]) (by kernel_rfl) (by simp) ?_
        refine AllReadyH.cons (o := _) rfl (fun K hK => ?_) AllReadyH.nil
        with_reducible refine step_app' (some 20) rfl rfl (.tmp 14) (.tmp 19) 36 rfl 3 _ 1 8 infoInt Tryz.underlying36 rfl (by omega) rfl rfl hown0 hrd0 (icells_one _) (by omega) (by omega) (by omega) ?_
        intro A2 c2 w4 hrc hg4 _
        have hbr4 : Below wr.heap.size wr w4 := Bel.grownOwn hbr3 hg4 hown0 (by omega)
        simp only [Nat.zero_add, List.nil_append] at hrc
        clear hg4 hown0 hrd0
        refine hK.out _ _ (hbr4.mono (by omega)) (fun _ => ?_)
        clear hK K
        simp only [Act.put, List.setIfInBounds_toArray, List.set_cons_zero, List.set_cons_succ, Nat.zero_add]
        refine wpAnyH_ready (rs := [9]) (by kernel_rfl) (by simp) ?_
        refine AllReadyH.cons (o := _) rfl (fun K hK => ?_) AllReadyH.nil
        go_simp
        refine hK.out _ _ (Below.alloc (hbr4.mono (by omega)) (by have := hbr4.size; omega) _) (fun _ => ?_)
        clear hK K
        obtain ⟨W, hW⟩ : ∃ W, W = w4.alloc (.cells #[.slice A2 m c2] 36) := ⟨_, rfl⟩
        rw [← hW]
        have hb4W : Below w4.heap.size w4 W := by rw [hW]; exact bELt
        have hrdW : Rds W 1 (some ⟨w4.heap.size, 0, none⟩) 1 [.slice A2 m c2] := by rw [hW]; exact (Blk.new w4 36 #[.slice A2 m c2]).rds rfl
        clear hW
        have hbrW : Below wr.heap.size wr W := Bel.step hbr4 hb4W
        have hcW := hrc.rds.rdI.below hb4W
        have hloW : ∀ g, blkOf A2 = some g → wr.heap.size ≤ g ∧ g < W.heap.size := fun g hg => ⟨(hrc.lt g hg).1, Nat.lt_of_lt_of_le (hrc.lt g hg).2 hb4W.size⟩
        have hcapW := hrc.cap
        have hcapM := hrc.capMax
        have hbrW : Below wr.heap.size wr W := hbrW
        have hyW := hown.below hbrW
        have hbW : Below (w.heap.size + 2) wr W := hbrW.mono (by omega)
        have hblW : Below w.heap.size w W := Bel.step hbl hbrW
        have hJW := hJ.below hbrW hJ.lt
        have hRW := hR.below hbrW hR.lt
        have hKW := hK0.below hbrW hK0.lt
        have hclW : ∀ g, blkOf A2 = some g → w.heap.size + 3 ≤ g ∧ g < W.heap.size ∧ blkOf A3 ≠ some g := fun g hg => by
         have h1 := hloW g hg
         refine ⟨by omega, h1.2, fun e => ?_⟩
         have h2 := (hown.1.lt g e).2
         omega
        have hWsz : w.heap.size + 3 ≤ W.heap.size := by have := hbrW.size; omega
        have HYY := Lib.hid hyW
        have hownY := hyW.1
        clear hyW
        refine wpAnyH_ready (rs := [10]) (by kernel_rfl) (by simp) ?_
        refine AllReadyH.cons (o := _) rfl (fun K hK => ?_) AllReadyH.nil
        with_reducible refine step_app' (some 22) rfl rfl (.tmp 13) (.tmp 21) 27 rfl 36 _ 1 24 infoRw Tryz.underlying27 rfl (by omega) rfl rfl hownY hrdW (slice_one _ _ _) (by omega) (by omega) hWsz ?_
        intro A' c' w' hown' hg hat
        have hb5 : Below (w.heap.size + 2) wr w' := Bel.grownOwn hbW hg (hownY.mono (by omega)) (by omega)
        have hb6 : Below w.heap.size w w' := Bel.grownOwn hblW hg (hownY.mono (by omega)) (by omega)
        have hJ' := hJW.grown hg (hownY.ne (by omega))
        have hR' := hRW.grown hg (hownY.ne (by omega))
        have hK' := hKW.grown hg (hownY.ne (by omega))
        have HYN := Lib.hid (HYY.out.push hown' hg hat hcW hclW hcapW hcapM)
        clear hownY hrdW hbW hblW hJW hRW hKW hg hclW hcW hown' hat HYY hbrW hcapW hcapM
        refine hK.out _ _ hb5 (fun _ => ?_)
        clear hK K
        simp only [Act.put, List.setIfInBounds_toArray, List.set_cons_zero, List.set_cons_succ]
        refine tk 11 23 (h := ⟨_, tv, ?_⟩)
        simp only [pE, List.set]
        have k3' := hK'.cell 0
        simp only [List.getElem?_toArray, List.getElem?_cons_zero] at k3'
        have kf' := hK'.frozen 0
        refine wpAnyH_ready (rs := [12]) (by kernel_rfl) (by simp) ?_
        refine AllReadyH.cons (o := _) rfl (fun K hK => ?_) AllReadyH.nil
        go_simp
        refine hK.out _ _ (hb5.setCell (by simp only; omega) _) (fun _ => ?_)
        clear hK K
        refine wpAnyH_done (by kernel_rfl) ?_ _
        have HK2 := Lib.hid (hK'.set_ 0 (.slice A' (j + 1) c'))
        have HY2 := Lib.hid (HYN.out.far (grownBy_set w' (w.heap.size + 2) 0 (.slice A' (j + 1) c')) (by omega))
        have HB2 := Lib.hid (show Below w.heap.size w (w'.setCell ⟨w.heap.size + 2, 0, none⟩ (.slice A' (j + 1) c')) from hb6.setCell (by simp only; omega) _)
        have HJ2 := Lib.hid (hJ'.far_ (b := w.heap.size + 2) (o := 0) (by omega) (.slice A' (j + 1) c'))
        have HR2 := Lib.hid (hR'.far_ (b := w.heap.size + 2) (o := 0) (by omega) (.slice A' (j + 1) c'))
        clear hK' k3' kf' hJ' hR'
        go_wp2_with fail
        go_roundw
        case rel => exact ⟨HB2.out, HJ2.out, HR2.out, j + 1, A', c', _, by omega, by go_num, HK2.out, by rw [HN.out]; exact HY2.out⟩
        case measure => simp [intOf]; omega
      · with_reducible refine step_app' (some 20) rfl rfl (.tmp 14) (.tmp 19) 36 rfl 3 _ 1 8 infoInt Tryz.underlying36 rfl (by omega) rfl rfl hown0 hrd0 (icells_one _) (by omega) (by omega) (by omega) ?_
        intro A2 c2 w4 hrc hg4 _
        have hbr4 : Below wr.heap.size wr w4 := Bel.grownOwn hbr3 hg4 hown0 (by omega)
        simp only [Nat.zero_add, List.nil_append] at hrc
        clear hg4 hown0 hrd0
        refine hK.out _ _ (hbr4.mono (by omega)) (fun _ => ?_)
        clear hK K
        simp only [Act.put, List.setIfInBounds_toArray, List.set_cons_zero, List.set_cons_succ, Nat.zero_add]
        refine wpAnyH_ready (rs := [1, 9]) (by kernel_rfl) (by simp) ?_
        refine AllReadyH.cons (o := _) rfl (fun K hK => ?_) (AllReadyH.cons (o := _) rfl (fun K hK => ?_) AllReadyH.nil)
        · have k3a : w4.cell? ⟨w.heap.size + 2, 0, none⟩ = some (.slice A3 j c3) := (hK0.below hbr4 hK0.lt).cell 0
          go_simp
          refine hK.out _ _ (hbr4.mono (by omega)) (fun _ => ?_)
          clear hK K k3a
          refine wpAnyH_ready (rs := [9]) (by kernel_rfl) (by simp) ?_
          refine AllReadyH.cons (o := _) rfl (fun K hK => ?_) AllReadyH.nil
          go_simp
          refine hK.out _ _ (Below.alloc (hbr4.mono (by omega)) (by have := hbr4.size; omega) _) (fun _ => ?_)
          clear hK K
          obtain ⟨W, hW⟩ : ∃ W, W = w4.alloc (.cells #[.slice A2 m c2] 36) := ⟨_, rfl⟩
          rw [← hW]
          have hb4W : Below w4.heap.size w4 W := by rw [hW]; exact bELt
          have hrdW : Rds W 1 (some ⟨w4.heap.size, 0, none⟩) 1 [.slice A2 m c2] := by rw [hW]; exact (Blk.new w4 36 #[.slice A2 m c2]).rds rfl
          clear hW
          have hbrW : Below wr.heap.size wr W := Bel.step hbr4 hb4W
          have hcW := hrc.rds.rdI.below hb4W
          have hloW : ∀ g, blkOf A2 = some g → wr.heap.size ≤ g ∧ g < W.heap.size := fun g hg => ⟨(hrc.lt g hg).1, Nat.lt_of_lt_of_le (hrc.lt g hg).2 hb4W.size⟩
          have hcapW := hrc.cap
          have hcapM := hrc.capMax
          have hbrW : Below wr.heap.size wr W := hbrW
          have hyW := hown.below hbrW
          have hbW : Below (w.heap.size + 2) wr W := hbrW.mono (by omega)
          have hblW : Below w.heap.size w W := Bel.step hbl hbrW
          have hJW := hJ.below hbrW hJ.lt
          have hRW := hR.below hbrW hR.lt
          have hKW := hK0.below hbrW hK0.lt
          have hclW : ∀ g, blkOf A2 = some g → w.heap.size + 3 ≤ g ∧ g < W.heap.size ∧ blkOf A3 ≠ some g := fun g hg => by
           have h1 := hloW g hg
           refine ⟨by omega, h1.2, fun e => ?_⟩
           have h2 := (hown.1.lt g e).2
           omega
          have hWsz : w.heap.size + 3 ≤ W.heap.size := by have := hbrW.size; omega
          have HYY := Lib.hid hyW
          have hownY := hyW.1
          clear hyW
          refine wpAnyH_ready (rs := [10]) (by kernel_rfl) (by simp) ?_
          refine AllReadyH.cons (o := _) rfl (fun K hK => ?_) AllReadyH.nil
          with_reducible refine step_app' (some 22) rfl rfl (.tmp 13) (.tmp 21) 27 rfl 36 _ 1 24 infoRw Tryz.underlying27 rfl (by omega) rfl rfl hownY hrdW (slice_one _ _ _) (by omega) (by omega) hWsz ?_
          intro A' c' w' hown' hg hat
          have hb5 : Below (w.heap.size + 2) wr w' := Bel.grownOwn hbW hg (hownY.mono (by omega)) (by omega)
          have hb6 : Below w.heap.size w w' := Bel.grownOwn hblW hg (hownY.mono (by omega)) (by omega)
          have hJ' := hJW.grown hg (hownY.ne (by omega))
          have hR' := hRW.grown hg (hownY.ne (by omega))
          have hK' := hKW.grown hg (hownY.ne (by omega))
          have HYN := Lib.hid (HYY.out.push hown' hg hat hcW hclW hcapW hcapM)
          clear hownY hrdW hbW hblW hJW hRW hKW hg hclW hcW hown' hat HYY hbrW hcapW hcapM
          refine hK.out _ _ hb5 (fun _ => ?_)
          clear hK K
          simp only [Act.put, List.setIfInBounds_toArray, List.set_cons_zero, List.set_cons_succ]
          refine tk 11 23 (h := ⟨_, tv, ?_⟩)
          simp only [pE, List.set]
          have k3' := hK'.cell 0
          simp only [List.getElem?_toArray, List.getElem?_cons_zero] at k3'
          have kf' := hK'.frozen 0
          refine wpAnyH_ready (rs := [12]) (by kernel_rfl) (by simp) ?_
          refine AllReadyH.cons (o := _) rfl (fun K hK => ?_) AllReadyH.nil
          go_simp
          refine hK.out _ _ (hb5.setCell (by simp only; omega) _) (fun _ => ?_)
          clear hK K
          refine wpAnyH_done (by kernel_rfl) ?_ _
          have HK2 := Lib.hid (hK'.set_ 0 (.slice A' (j + 1) c'))
          have HY2 := Lib.hid (HYN.out.far (grownBy_set w' (w.heap.size + 2) 0 (.slice A' (j + 1) c')) (by omega))
          have HB2 := Lib.hid (show Below w.heap.size w (w'.setCell ⟨w.heap.size + 2, 0, none⟩ (.slice A' (j + 1) c')) from hb6.setCell (by simp only; omega) _)
          have HJ2 := Lib.hid (hJ'.far_ (b := w.heap.size + 2) (o := 0) (by omega) (.slice A' (j + 1) c'))
          have HR2 := Lib.hid (hR'.far_ (b := w.heap.size + 2) (o := 0) (by omega) (.slice A' (j + 1) c'))
          clear hK' k3' kf' hJ' hR'
          go_wp2_with fail
          go_roundw
          case rel => exact ⟨HB2.out, HJ2.out, HR2.out, j + 1, A', c', _, by omega, by go_num, HK2.out, by rw [HN.out]; exact HY2.out⟩
          case measure => simp [intOf]; omega
        · go_simp
          refine hK.out _ _ (Below.alloc (hbr4.mono (by omega)) (by have := hbr4.size; omega) _) (fun _ => ?_)
          clear hK K
          have k3a : ∀ o, (w4.alloc o).cell? ⟨w.heap.size + 2, 0, none⟩ = some (.slice A3 j c3) := fun o => ((hK0.below hbr4 hK0.lt).alloc o).cell 0
          refine wpAnyH_ready (rs := [1]) (by kernel_rfl) (by simp) ?_
          refine AllReadyH.cons (o := _) rfl (fun K hK => ?_) AllReadyH.nil
          go_simp
          refine hK.out _ _ (Below.alloc (hbr4.mono (by omega)) (by have := hbr4.size; omega) _) (fun _ => ?_)
          clear hK K
          clear k3a
          obtain ⟨W, hW⟩ : ∃ W, W = w4.alloc (.cells #[.slice A2 m c2] 36) := ⟨_, rfl⟩
          rw [← hW]
          have hb4W : Below w4.heap.size w4 W := by rw [hW]; exact bELt
          have hrdW : Rds W 1 (some ⟨w4.heap.size, 0, none⟩) 1 [.slice A2 m c2] := by rw [hW]; exact (Blk.new w4 36 #[.slice A2 m c2]).rds rfl
          clear hW
          have hbrW : Below wr.heap.size wr W := Bel.step hbr4 hb4W
          have hcW := hrc.rds.rdI.below hb4W
          have hloW : ∀ g, blkOf A2 = some g → wr.heap.size ≤ g ∧ g < W.heap.size := fun g hg => ⟨(hrc.lt g hg).1, Nat.lt_of_lt_of_le (hrc.lt g hg).2 hb4W.size⟩
          have hcapW := hrc.cap
          have hcapM := hrc.capMax
          have hbrW : Below wr.heap.size wr W := hbrW
          have hyW := hown.below hbrW
          have hbW : Below (w.heap.size + 2) wr W := hbrW.mono (by omega)
          have hblW : Below w.heap.size w W := Bel.step hbl hbrW
          have hJW := hJ.below hbrW hJ.lt
          have hRW := hR.below hbrW hR.lt
          have hKW := hK0.below hbrW hK0.lt
          have hclW : ∀ g, blkOf A2 = some g → w.heap.size + 3 ≤ g ∧ g < W.heap.size ∧ blkOf A3 ≠ some g := fun g hg => by
           have h1 := hloW g hg
           refine ⟨by omega, h1.2, fun e => ?_⟩
           have h2 := (hown.1.lt g e).2
           omega
          have hWsz : w.heap.size + 3 ≤ W.heap.size := by have := hbrW.size; omega
          have HYY := Lib.hid hyW
          have hownY := hyW.1
          clear hyW
          refine wpAnyH_ready (rs := [10]) (by kernel_rfl) (by simp) ?_
          refine AllReadyH.cons (o := _) rfl (fun K hK => ?_) AllReadyH.nil
          with_reducible refine step_app' (some 22) rfl rfl (.tmp 13) (.tmp 21) 27 rfl 36 _ 1 24 infoRw Tryz.underlying27 rfl (by omega) rfl rfl hownY hrdW (slice_one _ _ _) (by omega) (by omega) hWsz ?_
          intro A' c' w' hown' hg hat
          have hb5 : Below (w.heap.size + 2) wr w' := Bel.grownOwn hbW hg (hownY.mono (by omega)) (by omega)
          have hb6 : Below w.heap.size w w' := Bel.grownOwn hblW hg (hownY.mono (by omega)) (by omega)
          have hJ' := hJW.grown hg (hownY.ne (by omega))
          have hR' := hRW.grown hg (hownY.ne (by omega))
          have hK' := hKW.grown hg (hownY.ne (by omega))
          have HYN := Lib.hid (HYY.out.push hown' hg hat hcW hclW hcapW hcapM)
          clear hownY hrdW hbW hblW hJW hRW hKW hg hclW hcW hown' hat HYY hbrW hcapW hcapM
          refine hK.out _ _ hb5 (fun _ => ?_)
          clear hK K
          simp only [Act.put, List.setIfInBounds_toArray, List.set_cons_zero, List.set_cons_succ]
          refine tk 11 23 (h := ⟨_, tv, ?_⟩)
          simp only [pE, List.set]
          have k3' := hK'.cell 0
          simp only [List.getElem?_toArray, List.getElem?_cons_zero] at k3'
          have kf' := hK'.frozen 0
          refine wpAnyH_ready (rs := [12]) (by kernel_rfl) (by simp) ?_
          refine AllReadyH.cons (o := _) rfl (fun K hK => ?_) AllReadyH.nil
          go_simp
          refine hK.out _ _ (hb5.setCell (by simp only; omega) _) (fun _ => ?_)
          clear hK K
          refine wpAnyH_done (by kernel_rfl) ?_ _
          have HK2 := Lib.hid (hK'.set_ 0 (.slice A' (j + 1) c'))
          have HY2 := Lib.hid (HYN.out.far (grownBy_set w' (w.heap.size + 2) 0 (.slice A' (j + 1) c')) (by omega))
          have HB2 := Lib.hid (show Below w.heap.size w (w'.setCell ⟨w.heap.size + 2, 0, none⟩ (.slice A' (j + 1) c')) from hb6.setCell (by simp only; omega) _)
          have HJ2 := Lib.hid (hJ'.far_ (b := w.heap.size + 2) (o := 0) (by omega) (.slice A' (j + 1) c'))
          have HR2 := Lib.hid (hR'.far_ (b := w.heap.size + 2) (o := 0) (by omega) (.slice A' (j + 1) c'))
          clear hK' k3' kf' hJ' hR'
          go_wp2_with fail
          go_roundw
          case rel => exact ⟨HB2.out, HJ2.out, HR2.out, j + 1, A', c', _, by omega, by go_num, HK2.out, by rw [HN.out]; exact HY2.out⟩
          case measure => simp [intOf]; omega
  · obtain rfl : L = j := by omega
    rw [List.take_of_length_le (by rw [HT.out.1]; exact Nat.le_refl _)] at hown
    have q0 := hK0.cell 0
    have r0 := hR.cell 0
    simp only [List.getElem?_toArray, List.getElem?_cons_zero] at q0 r0
    have f0 := hR.frozen 0
    have hown2 := hown.far (grownBy_set wr (w.heap.size + 1) 0 (.slice A3 L c3)) (by omega)
    have HM := Lib.hid (hown2.rdM (G := fun b => w.heap.size ≤ b ∧ b < (wr.setCell ⟨w.heap.size + 1, 0, none⟩ (.slice A3 L c3)).heap.size) (fun b h1 h2 => ⟨by omega, h2⟩))
    have HCP := Lib.hid (And.intro hown.1.cap hown.1.capMax)
    clear hown hown2 hR
    go_wp2_with fail
    refine bodyPost_ret (v := .agg #[.slice A3 L c3]) (by simp [results, Tryz.results38, go_sem, r0]) rfl ?_
    exact ⟨A3, c3, rfl, HM.out, HCP.out.1, HCP.out.2, bELt⟩
end Go.Proofs.YtgkeolddpielpaaGreat

namespace Go.Proofs.YtgkeolddpielpaaGreat
open Go.RowKit

attribute [local go_sem ↓] Go.wp_at_zero Go.wp_at_succ

set_option maxHeartbeats 1000000 in
theorem made17_ok (A B C Q : Option Addr) (n m k c d e L cq : Nat) (N : NetD) (ls : List (List Int)) (w : World) (h : RdNet w A B C n m k N) (hN : NetOk N) (hq : RdT w Q L ls) (hP : PartOk N.vs.length ls) :
 Calls Tryz.prog 9 #[.agg #[.slice A n c, .slice B m d, .slice C k e], .agg #[.slice Q L cq]] w fun r w' => ∃ o, r = .returned (.pointer (some ⟨o, 0, none⟩)) ∧ RdOv (msk w' (fun b => w.heap.size ≤ b ∧ b < w'.heap.size)) o N.ar ls ∧ Below w.heap.size w w' := by
 have HH := Lib.hid h
 have HN := Lib.hid hN
 have HT := Lib.hid hq
 have HP := Lib.hid hP
 have hn4 := hN.lv
 have l6 : L ≤ 6 := by rw [← hq.1]; exact hP.l6
 have HVL := Lib.hid hn4
 clear h hN hq hP hn4
 go_enter Tryz.func9, Tryz.ntmps9
 go_wp2_with fail
 (refine calls_named ?_; intro w1 hw1)
 have hb1 : Below w.heap.size w w1 := by rw [hw1]; exact bELt
 have hQ : Blk w1 (w.heap.size + 1) 29 #[.slice Q L cq] := by rw [hw1]; exact bLNt
 clear hw1
 with_reducible refine (made8_ok A B C n m k c d e N w1 (HH.out.below hb1) HN.out).mono ?_
 rintro r w2 ⟨g, rfl, hG, hb2⟩
 have hbw2 := Bel.step hb1 hb2
 have HG := Lib.hid hG.rd
 have y0 := (hQ.below hb2 hQ.lt).cell 0
 simp only [List.getElem?_toArray, List.getElem?_cons_zero] at y0
 clear hG hb2 hQ
 go_wp2_with fail
 with_reducible refine (partTo_any Q L cq ls w2 (HT.out.below hbw2) (by omega) (fun l hl => by have := (HP.out.lvl l hl).len; have := HVL.out; omega)).mono ?_
 rintro r w3 ⟨Q3, cq3, rfl, hq3, _, _, hb3⟩
 have hbw3 := Bel.step hbw2 hb3
 have HQ3 := Lib.hid (hq3.le (msk_le _ _))
 have HG3 := Lib.hid (HG.out.below hb3)
 clear hq3 hb3 y0
 go_wp2_with fail
 with_reducible refine (overNew_ok g N Q3 L cq3 _ ls w3 HG3.out HN.out HQ3.out HP.out rfl).mono ?_
 rintro r w4 ⟨o, rfl, hO, hb4⟩
 have hz3 := hbw3.size
 have HO := Lib.hid (hO.le (msk_mono (G' := fun b => w.heap.size ≤ b ∧ b < w4.heap.size) (fun b hb => ⟨by omega, hb.2⟩)))
 have hbw4 := Bel.step hbw3 hb4
 clear hO hb4
 go_wp2_with fail
 go_ret
 exact ⟨o, rfl, HO.out, hbw4⟩
end Go.Proofs.YtgkeolddpielpaaGreat

namespace Go.Proofs.YtgkeolddpielpaaGreat
open Go.RowKit

attribute [local go_sem ↓] Go.wp_at_zero Go.wp_at_succ

theorem k_gr1 : gateRow ringN.ar [0, 0, 1] = [([2], [1]), ([1], [2])] := by decide
theorem k_gr2 : gateRow ringN.ar [0, 0, 0] = [([], [])] := by decide
theorem k_gates : gatesOf ringN.ar twoL = [[([2], [1]), ([1], [2])], [([], [])]] := by
 unfold gatesOf twoL
 rw [List.map_cons, List.map_cons, List.map_nil, k_gr1, k_gr2]
theorem k_sum : sumA (gatesOf ringN.ar twoL) = 2 := by rw [k_gates]; decide
section
variable (o : Nat) (w : World) (h : RdOv w o ringN.ar twoL)
include h
end
end Go.Proofs.YtgkeolddpielpaaGreat

namespace Go.Proofs.YtgkeolddpielpaaGreat
open Go.RowKit

attribute [local go_sem ↓] Go.wp_at_zero Go.wp_at_succ

theorem k_lt {a : Nat} {y : Tri} (h : ringN.ar[a]? = some y) : a = 0 ∧ y = (0, 1, 10) ∨ a = 1 ∧ y = (1, 2, 20) ∨ a = 2 ∧ y = (2, 0, 30) ∨ a = 3 ∧ y = (1, 0, 40) := by
 match a, h with
 | 0, h => cases h; exact .inl ⟨rfl, rfl⟩
 | 1, h => cases h; exact .inr (.inl ⟨rfl, rfl⟩)
 | 2, h => cases h; exact .inr (.inr (.inl ⟨rfl, rfl⟩))
 | 3, h => cases h; exact .inr (.inr (.inr ⟨rfl, rfl⟩))
 | k + 4, h => simp [ringN] at h
theorem k_t01 : turnN ringN 0 1 = 1 := by decide
theorem k_t12 : turnN ringN 1 2 = 2 := by decide
theorem k_turn {a b : Nat} (h : turnN ringN a b ≠ 1152921504606846976) : a = 2 ∧ b = 0 ∨ a = 0 ∧ b = 1 ∨ a = 0 ∧ b = 3 ∨ a = 1 ∧ b = 2 := by
 obtain ⟨x, y, hx, hy, e⟩ := turnN_meet h
 rcases k_lt hx with ⟨rfl, rfl⟩ | ⟨rfl, rfl⟩ | ⟨rfl, rfl⟩ | ⟨rfl, rfl⟩ <;> rcases k_lt hy with ⟨rfl, rfl⟩ | ⟨rfl, rfl⟩ | ⟨rfl, rfl⟩ | ⟨rfl, rfl⟩ <;>
  first
  | exact absurd e (by decide)
  | exact .inl ⟨rfl, rfl⟩
  | exact .inr (.inl ⟨rfl, rfl⟩)
  | exact .inr (.inr (.inl ⟨rfl, rfl⟩))
  | exact .inr (.inr (.inr ⟨rfl, rfl⟩))
  | exact absurd (by decide) h
theorem k_ent1 : EntC ringN (mkOf [0, 0, 1] 0) 2 1 11 := by
 have hr : ∀ p c, Rch (StA ringN (mkOf [0, 0, 1] 0)) 2 p c → p = 2 ∧ c = 0 ∨ p = 0 ∧ c = 10 ∨ p = 3 ∧ c = 55 := by
  intro p c h
  induction h with
  | start => exact .inl ⟨rfl, rfl⟩
  | step _ h2 ih =>
   obtain ⟨y, hy, h3, _, h4, h5, rfl⟩ := h2
   rcases k_turn h3 with ⟨rfl, rfl⟩ | ⟨rfl, rfl⟩ | ⟨rfl, rfl⟩ | ⟨rfl, rfl⟩
   · cases hy
     refine .inr (.inl ⟨rfl, ?_⟩)
     rcases ih with ⟨_, rfl⟩ | ⟨h, _⟩ | ⟨h, _⟩
     · decide
     · exact absurd h (by decide)
     · exact absurd h (by decide)
   · cases hy
     exact absurd h5 (by decide)
   · cases hy
     refine .inr (.inr ⟨rfl, ?_⟩)
     rcases ih with ⟨h, _⟩ | ⟨_, rfl⟩ | ⟨h, _⟩
     · exact absurd h (by decide)
     · decide
     · exact absurd h (by decide)
   · cases hy
     exact absurd h4 (by decide)
 refine .inl ⟨⟨0, 10, 1, ?_, ⟨by decide, by decide⟩, rfl⟩, fun v hv => ?_⟩
 · exact Rch.start.step (show StA ringN (mkOf [0, 0, 1] 0) 2 0 10 from ⟨(0, 1, 10), rfl, by decide, by decide, by decide, by decide, by decide⟩)
 · obtain ⟨p, c, d, h1, ⟨h2, rfl⟩, rfl⟩ := hv
   rcases hr p c h1 with ⟨rfl, rfl⟩ | ⟨rfl, rfl⟩ | ⟨rfl, rfl⟩
   · exact absurd (by decide) h2
   · rw [k_t01]; decide
   · exact absurd (by decide) h2
theorem k_ent2 : EntC ringN (mkOf [0, 0, 1] 1) 1 2 2 := by
 have hr : ∀ p c, Rch (StA ringN (mkOf [0, 0, 1] 1)) 1 p c → p = 1 ∧ c = 0 := by
  intro p c h
  induction h with
  | start => exact ⟨rfl, rfl⟩
  | step _ h2 ih =>
   obtain ⟨y, hy, h3, _, h4, h5, rfl⟩ := h2
   rcases k_turn h3 with ⟨rfl, rfl⟩ | ⟨rfl, rfl⟩ | ⟨rfl, rfl⟩ | ⟨rfl, rfl⟩ <;> cases hy
   · exact absurd h4 (by decide)
   · exact absurd h4 (by decide)
   · exact absurd h4 (by decide)
   · exact absurd h5 (by decide)
 refine .inl ⟨⟨1, 0, 2, .start, ⟨by decide, by decide⟩, rfl⟩, fun v hv => ?_⟩
 obtain ⟨p, c, d, h1, ⟨h2, rfl⟩, rfl⟩ := hv
 obtain ⟨rfl, rfl⟩ := hr p c h1
 rw [k_t12]
 decide
theorem k_all : IsAll ringN twoL [11, 2] := by
 refine ⟨by rw [k_sum]; rfl, fun k v hk => ?_⟩
 match k, hk with
 | 0, hk =>
  cases hk
  exact ⟨0, [0, 0, 1], 0, ([2], [1]), 0, 0, 2, 1, ⟨rfl, by rw [k_gr1]; rfl, rfl, rfl, by rw [k_gates, k_gr1]; decide⟩, k_ent1⟩
 | 1, hk =>
  cases hk
  exact ⟨0, [0, 0, 1], 1, ([1], [2]), 0, 0, 1, 2, ⟨rfl, by rw [k_gr1]; rfl, rfl, rfl, by rw [k_gates, k_gr1]; decide⟩, k_ent2⟩
 | k + 2, hk => simp at hk
theorem k_part : PartOk ringN.vs.length twoL := twoL_ok
theorem k_nil {w : World} : RdI w none 0 [] := ⟨rfl, fun i x h => by simp at h⟩
theorem k_sum_le : sumA (gatesOf ringN.ar twoL) ≤ 1000000000 := by rw [k_sum]; decide
theorem k_one1 (w : World) (g o : Nat) (A : Option Addr) (hg : RdGr w g ringN) (ho : RdOv w o ringN.ar twoL) (hc : RdI w A 2 [11, 2]) :
 Calls Tryz.prog 43 #[.pointer (some ⟨g, 0, none⟩), .pointer (some ⟨o, 0, none⟩), .int .i64 1, .int .i64 1, .slice A 2 2] w fun e w' => ∃ A' c', e = .returned (.slice A' 1 c') ∧ RdI w' A' 1 [2] ∧ Below w.heap.size w w' := by
 refine (one_ok w g o 0 1 ringN twoL [0, 0, 1] ([1], [2]) A 2 2 [11, 2] hg ringN_ok ho k_part rfl (by rw [k_gr1]; rfl) hc (by rw [k_sum]; decide) (by decide) (by decide) (fun j hj => by omega)).mono ?_
 rintro e w9 ⟨A9, c9, ces, rfl, h9, he9, hb9⟩
 have he := he9 0 0 1 2 rfl rfl
 have hl : ces.length = 1 := h9.1
 match ces, hl with
 | [z], _ =>
  have hz : z = 2 := he.uniq k_ent2
  subst hz
  exact ⟨A9, c9, rfl, h9, hb9⟩
theorem k_one2 (w : World) (g o : Nat) (A : Option Addr) (hg : RdGr w g ringN) (ho : RdOv w o ringN.ar twoL) (hc : RdI w A 2 [11, 2]) :
 Calls Tryz.prog 43 #[.pointer (some ⟨g, 0, none⟩), .pointer (some ⟨o, 0, none⟩), .int .i64 2, .int .i64 0, .slice A 2 2] w fun e w' => ∃ A' c', e = .returned (.slice A' 0 c') ∧ Below w.heap.size w w' := by
 refine (one_ok w g o 1 0 ringN twoL [0, 0, 0] ([], []) A 2 2 [11, 2] hg ringN_ok ho k_part rfl (by rw [k_gr2]; rfl) hc (by rw [k_sum]; decide) (by decide) (by decide) (fun j hj => (k_all.done 2 0).low (by omega))).mono ?_
 rintro e w9 ⟨A9, c9, ces, rfl, _, _, hb9⟩
 exact ⟨A9, c9, rfl, hb9⟩
set_option maxHeartbeats 2000000 in
theorem known18_ok (w : World) : Calls Tryz.prog 17 #[] w fun e w' => e = .returned (.bool true) ∧ Below w.heap.size w w' := by
 go_enter Tryz.func17, Tryz.ntmps17
 go_wp2_with fail
 with_reducible refine (ring_any w).mono ?_
 rintro e w1 ⟨A, B, C, rfl, hN, hb1⟩
 have HN1 := Lib.hid hN
 have HB1 := Lib.hid hb1
 clear hN hb1
 go_wp2_with fail
 (refine calls_named ?_; intro w2 hw2)
 have hb2 : Below w1.heap.size w1 w2 := by rw [hw2]; exact bELt
 have hX2 : Blk w2 w1.heap.size 26 #[.slice A 3 3, .slice B 4 4, .slice C 3 3] := by rw [hw2]; exact Blk.new _ _ _
 have HN2 := Lib.hid (HN1.out.below hb2)
 have HB2 := Lib.hid (Bel.step HB1.out hb2)
 clear hw2 hb2 HN1 HB1
 with_reducible refine (made8_ok A B C 3 4 3 3 4 3 ringN w2 HN2.out ringN_ok).mono ?_
 rintro e w3 ⟨g, rfl, hG, hb3⟩
 have HG3 := Lib.hid hG.rd
 have hX3 := hX2.below hb3 hX2.lt
 have HN3 := Lib.hid (HN2.out.below hb3)
 have HB3 := Lib.hid (Bel.step HB2.out hb3)
 clear hG hb3 hX2 HN2 HB2
 go_wp2_with fail
 have HSX := Lib.hid (show ∀ V, Blk V w1.heap.size 26 #[.slice A 3 3, .slice B 4 4, .slice C 3 3] → V.cell? ⟨w1.heap.size, 0, none⟩ = some (.slice A 3 3) ∧ V.cell? ⟨w1.heap.size, 1, none⟩ = some (.slice B 4 4) ∧ V.cell? ⟨w1.heap.size, 2, none⟩ = some (.slice C 3 3) from fun V hV => ⟨by rw [hV.cell]; rfl, by rw [hV.cell]; rfl, by rw [hV.cell]; rfl⟩)
 refine wp_region_held_drew (S := fun V => Blk V w1.heap.size 26 #[.slice A 3 3, .slice B 4 4, .slice C 3 3]) (by kernel_rfl) hX3.drew (fun _ => ?_)
 refine tk 0 8 (h := ⟨_, tv, ?_⟩)
 simp only [pE, List.set]
 refine wpAnyH_ready (rs := [1]) (by kernel_rfl) (by simp) ?_
 refine AllReadyH.cons (o := _) rfl (fun K hK => ?_) AllReadyH.nil
 go_simp
 with_reducible refine (two_any w3.drew).mono ?_
 rintro e w4 ⟨Q, rfl, hT, hb4⟩
 have hb34 : Below w3.heap.size w3 w4 := (Below.refl _ _).drew.trans hb4
 have hX4 := hX3.below hb34 hX3.lt
 have HT4 := Lib.hid hT
 have HN4 := Lib.hid (HN3.out.below hb34)
 have HG4 := Lib.hid (HG3.out.below hb34)
 have HB4 := Lib.hid (Bel.step HB3.out hb34)
 clear hb4 hb34 hT HN3 HG3 HB3
 go_simp
 refine hK.out _ _ hX4 (fun _ => ?_)
 clear hK K
 refine wpAnyH_ready (rs := [2]) (by kernel_rfl) (by simp) ?_
 refine AllReadyH.cons (o := _) rfl (fun K hK => ?_) AllReadyH.nil
 go_simp
 with_reducible refine (made17_ok A B C Q 3 4 3 3 4 3 2 2 ringN twoL w4 HN4.out ringN_ok HT4.out k_part).mono ?_
 rintro e w5 ⟨o, rfl, hO, hb5⟩
 have hX5 := hX4.below hb5 hX4.lt
 have HO5 := Lib.hid (hO.le (msk_le _ _))
 have HG5 := Lib.hid (HG4.out.below hb5)
 have HB5 := Lib.hid (Bel.step HB4.out hb5)
 clear hb5 hO HN4 HG4 HB4 HT4
 go_simp
 refine hK.out _ _ hX5 (fun _ => ?_)
 clear hK K
 refine tk 3 3 (h := ⟨_, tv, ?_⟩)
 simp only [pE, List.set]
 refine wpAnyH_done (by kernel_rfl) ?_ _
 clear HSX hX3 hX4 hX5
 go_wp2_with fail
 with_reducible refine (all_ok w5 g o ringN twoL HG5.out ringN_ok HO5.out k_part k_sum_le).mono ?_
 rintro e w6 ⟨D, cl, rfl, _, hD, hcl, _, hdo, hb6⟩
 rw [(hdo.all hcl).uniq k_all] at hD
 rw [k_sum]
 have HD6 := Lib.hid (show RdI w6 (some ⟨D, 0, none⟩) 2 [11, 2] from hD.rdI rfl)
 have HO6 := Lib.hid (HO5.out.below hb6)
 have HG6 := Lib.hid (HG5.out.below hb6)
 have HB6 := Lib.hid (Bel.step HB5.out hb6)
 clear hD hcl hdo hb6 HO5 HG5 HB5
 go_wp2_with fail
 (refine calls_named ?_; intro w7 hw7)
 have hb7 : Below w6.heap.size w6 w7 := by rw [hw7]; exact bELt
 have hX7 : Blk w7 w6.heap.size 2 (icells [11, 2]).toArray := by rw [hw7]; exact Blk.new _ _ _
 clear hw7
 with_reducible refine (sameCosts_any (some ⟨D, 0, none⟩) (some ⟨w6.heap.size, 0, none⟩) 2 2 2 2 [11, 2] [11, 2] w7 (HD6.out.below hb7) (hX7.rdI rfl) (by omega) (by omega)).mono ?_
 rintro e w8 ⟨rfl, k8, rfl⟩
 have hb8 : Below w6.heap.size w6 (w7.drewN k8) := below_drewN hb7 k8
 generalize w7.drewN k8 = w8 at hb8 ⊢
 have HD8 := Lib.hid (HD6.out.below hb8)
 have HO8 := Lib.hid (HO6.out.below hb8)
 have HG8 := Lib.hid (HG6.out.below hb8)
 have HB8 := Lib.hid (Bel.step HB6.out hb8)
 clear hX7 hb7 hb8 HD6 HO6 HG6 HB6
 rw [show decide ((([11, 2] : List Int)) = [11, 2]) = true from rfl]
 go_wp2_with fail
 with_reducible refine (k_one1 w8 g o (some ⟨D, 0, none⟩) HG8.out HO8.out HD8.out).mono ?_
 rintro e w9 ⟨A9, c9, rfl, h9, hb9⟩
 have H9 := Lib.hid h9
 have HD9 := Lib.hid (HD8.out.below hb9)
 have HO9 := Lib.hid (HO8.out.below hb9)
 have HG9 := Lib.hid (HG8.out.below hb9)
 have HB9 := Lib.hid (Bel.step HB8.out hb9)
 clear h9 hb9 HD8 HO8 HG8 HB8
 go_wp2_with fail
 (refine calls_named ?_; intro wa hwa)
 have hba : Below w9.heap.size w9 wa := by rw [hwa]; exact bELt
 have hXa : Blk wa w9.heap.size 2 (icells [2]).toArray := by rw [hwa]; exact Blk.new _ _ _
 clear hwa
 with_reducible refine (sameCosts_any A9 (some ⟨w9.heap.size, 0, none⟩) 1 1 c9 1 [2] [2] wa (H9.out.below hba) (hXa.rdI rfl) (by omega) (by omega)).mono ?_
 rintro e wb ⟨rfl, kb, rfl⟩
 have hbb : Below w9.heap.size w9 (wa.drewN kb) := below_drewN hba kb
 generalize wa.drewN kb = wb at hbb ⊢
 have HDb := Lib.hid (HD9.out.below hbb)
 have HOb := Lib.hid (HO9.out.below hbb)
 have HGb := Lib.hid (HG9.out.below hbb)
 have HBb := Lib.hid (Bel.step HB9.out hbb)
 clear hXa hba hbb HD9 HO9 HG9 HB9 H9
 rw [show decide ((([2] : List Int)) = [2]) = true from rfl]
 go_wp2_with fail
 with_reducible refine (k_one2 wb g o (some ⟨D, 0, none⟩) HGb.out HOb.out HDb.out).mono ?_
 rintro e wc ⟨Ac, cc, rfl, hbc⟩
 have HDc := Lib.hid (HDb.out.below hbc)
 have HOc := Lib.hid (HOb.out.below hbc)
 have HGc := Lib.hid (HGb.out.below hbc)
 have HBc := Lib.hid (Bel.step HBb.out hbc)
 clear hbc HDb HOb HGb HBb
 go_wp2_with fail
 with_reducible refine (right_ok wc g o ringN twoL HGc.out ringN_ok HOc.out k_part k_sum_le (some ⟨D, 0, none⟩) 2 2 [11, 2] [11, 2] HDc.out (by omega) k_all).mono ?_
 rintro e wd ⟨rfl, hbd⟩
 have HDd := Lib.hid (HDc.out.below hbd)
 have HOd := Lib.hid (HOc.out.below hbd)
 have HGd := Lib.hid (HGc.out.below hbd)
 have HBd := Lib.hid (Bel.step HBc.out hbd)
 clear hbd HDc HOc HGc HBc
 rw [show decide ((([11, 2] : List Int)) = [11, 2]) = true from rfl]
 go_wp2_with fail
 with_reducible refine (right_ok wd g o ringN twoL HGd.out ringN_ok HOd.out k_part k_sum_le none 0 0 [] [11, 2] k_nil (by omega) k_all).mono ?_
 rintro e we ⟨rfl, hbe⟩
 have HDe := Lib.hid (HDd.out.below hbe)
 have HOe := Lib.hid (HOd.out.below hbe)
 have HGe := Lib.hid (HGd.out.below hbe)
 have HBe := Lib.hid (Bel.step HBd.out hbe)
 clear hbe HDd HOd HGd HBd
 rw [show decide ((([] : List Int)) = [11, 2]) = false from rfl]
 go_wp2_with fail
 with_reducible refine (plain_ok we g o ringN twoL HGe.out ringN_ok HOe.out k_part k_sum_le).mono ?_
 rintro e wf ⟨Af, cf, clf, rfl, hf, hall, hbf⟩
 obtain rfl := hall.uniq k_all
 have HF := Lib.hid (show RdI wf Af 2 [11, 2] from hf)
 have HDf := Lib.hid (HDe.out.below hbf)
 have HBf := Lib.hid (Bel.step HBe.out hbf)
 clear hbf hf hall HDe HOe HGe HBe
 go_wp2_with fail
 with_reducible refine (sameCosts_any Af (some ⟨D, 0, none⟩) 2 2 cf 2 [11, 2] [11, 2] wf HF.out HDf.out (by omega) (by omega)).mono ?_
 rintro e wg ⟨rfl, kg, rfl⟩
 rw [show decide ((([11, 2] : List Int)) = [11, 2]) = true from rfl]
 go_wp2_with fail
 go_ret
 exact ⟨rfl, below_drewN HBf.out kg⟩
end Go.Proofs.YtgkeolddpielpaaGreat
