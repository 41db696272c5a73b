/- Parts of the proof: MkO, PoW. -/
import Derived.Test.YtgkeolddpielpaaGreatDoorM19
/- over.New of cells that may not be; (*Over).Part, law13.Of, SamePart. -/
namespace Go.Proofs.YtgkeolddpielpaaGreatDoor
open Go.RowKit

attribute [local go_sem ↓] Go.wp_at_zero Go.wp_at_succ

set_option maxHeartbeats 1000000 in
theorem overNew_bad (g : Nat) (N : NetD) (Q : Option Addr) (L cq n : Nat) (k c : Int) (ls : List (List Int)) (w : World) (h : RdGr w g N) (hN : NetOk N) (hq : RdT w Q L ls) (hb : PBad n ls k c) (hn : N.vs.length = n) :
    Calls Tryz.prog 10 #[.pointer (some ⟨g, 0, none⟩), .agg #[.slice Q L cq]] w fun e w' => ∃ v, e = .returned (.tuple #[.pointer none, v]) ∧ Chain w' v [((⟨#[112, 97, 114, 116]⟩ : ByteArray), k)] c ∧ Below w.heap.size w w' := by
  have HG := Lib.hid h
  have HT := Lib.hid hq
  have HP := Lib.hid hb
  have HVN := Lib.hid hn
  have hn4 : n ≤ 4096 := by rw [← hn]; exact hN.lv
  have HLL := Lib.hid (show ls.length = L from hq.1)
  clear h hN hq hb hn
  go_enter Tryz.func10, Tryz.ntmps10
  go_wp2_with fail
  (refine wp_named ?_; intro w1 hw1)
  have hb1 : Below w.heap.size w w1 := by rw [hw1]; exact (by repeat (first | exact Below.refl _ _ | assumption | apply Below.drew | apply below_drewN | apply Bel.alloc | (refine Bel.setCell_ ?_ ?_; rotate_left; omega) | (refine Bel.step ?_ (by assumption))))
  have hQ : Blk w1 w.heap.size 35 #[.slice Q L cq] := by rw [hw1]; exact (by repeat (first | assumption | (refine Blk.new' _ _ _ ?_; first | with_unfolding_all rfl | (simp; done)) | apply Blk.drewN | apply Blk.drew | apply Blk.alloc | (refine Blk.far_ ?_ ?_ _; rotate_left; omega)))
  clear hw1
  have HSX := Lib.hid (show ∀ V, Below w1.heap.size w1 V → V.cell? ⟨w.heap.size, 0, none⟩ = some (.slice Q L cq) from fun V hV => by
    have := (hQ.below hV hQ.lt).cell 0
    simpa using this)
  refine wp_region_held_drew (S := fun V => Below w1.heap.size w1 V) (by kernel_rfl) (Below.refl _ _).drew (fun _ => ?_)
  refine take_ (i := 0) (d := some 14) (v := ?_) rfl rfl (by kernel_rfl) (by kernel_rfl) (by kernel_rfl) (fun _ _ _ h => h) (by rfl) ?_ (by first | rfl | trivial | assumption) ?_
  rotate_left
  · (intro V hSw; (try (have hF := HSX.out V hSw)); (try (cases hSw)); (try go_split_ands); go_simp; try with_reducible rfl)
  simp only [Act.put, List.setIfInBounds_toArray, List.set_cons_zero, List.set_cons_succ]
  refine take_ (i := 2) (d := some 16) (v := ?_) rfl rfl (by kernel_rfl) (by kernel_rfl) (by kernel_rfl) (fun _ _ _ h => h) (by rfl) ?_ (by first | rfl | trivial | assumption) ?_
  rotate_left
  · (intro V hSw; (try (have hF := HSX.out V hSw)); (try (cases hSw)); (try go_split_ands); go_simp; try with_reducible rfl)
  simp only [Act.put, List.setIfInBounds_toArray, List.set_cons_zero, List.set_cons_succ]
  refine wpAnyH_ready (rs := [1]) (by kernel_rfl) (by simp) ?_
  refine AllReadyH.cons (o := _) rfl (fun K hK => ?_) AllReadyH.nil
  go_simp
  with_reducible refine (gVerts_any g N _ (HG.out.below (show Below w.heap.size w w1.drew from (by repeat (first | exact Below.refl _ _ | assumption | apply Below.drew | apply below_drewN | apply Bel.alloc | (refine Bel.setCell_ ?_ ?_; rotate_left; omega) | (refine Bel.step ?_ (by assumption))))))).mono ?_
  rintro e w' ⟨rfl, rfl⟩
  rw [HVN.out]
  go_wp2_with fail
  refine hK.out _ _ (Below.refl _ _).drew (fun _ => ?_)
  clear hK K
  refine wpAnyH_ready (rs := [3]) (by kernel_rfl) (by simp) ?_
  refine AllReadyH.cons (o := _) rfl (fun K hK => ?_) AllReadyH.nil
  go_simp
  with_reducible refine (part_bad Q n L cq k c ls HP.out HLL.out hn4 _ (HT.out.below (show Below w.heap.size w w1.drew from (by repeat (first | exact Below.refl _ _ | assumption | apply Below.drew | apply below_drewN | apply Bel.alloc | (refine Bel.setCell_ ?_ ?_; rotate_left; omega) | (refine Bel.step ?_ (by assumption))))))).1.mono ?_
  rintro e w2 ⟨v, rfl, hc, hb2⟩
  obtain ⟨tv, xv, rfl⟩ := chain_not_nil hc
  have HCH := Lib.hid hc
  have hb12 : Below w1.heap.size w1 w2 := Bel.step (by repeat (first | exact Below.refl _ _ | assumption | apply Below.drew | apply below_drewN | apply Bel.alloc | (refine Bel.setCell_ ?_ ?_; rotate_left; omega) | (refine Bel.step ?_ (by assumption)))) hb2
  clear hb2 hc
  go_wp2_with fail
  refine hK.out _ _ hb12 (fun _ => ?_)
  clear hK K
  refine take_ (i := 4) (d := some 6) (v := ?_) rfl rfl (by kernel_rfl) (by kernel_rfl) (by kernel_rfl) (fun _ _ _ h => h) (by rfl) ?_ (by first | rfl | trivial | assumption) ?_
  rotate_left
  · (intro V hSw; (try (have hF := HSX.out V hSw)); (try (cases hSw)); (try go_split_ands); go_simp; try with_reducible rfl)
  simp only [Act.put, List.setIfInBounds_toArray, List.set_cons_zero, List.set_cons_succ]
  refine wpAnyH_done (by kernel_rfl) ?_ _
  have hbw2 := Bel.step hb1 hb12
  go_wp2_with fail
  go_ret2
  exact ⟨_, rfl, HCH.out, hbw2⟩
set_option maxHeartbeats 1000000 in
theorem oPart_any (o : Nat) (ar : List Tri) (ls : List (List Int)) (w : World) (h : RdOv w o ar ls) (hL : ls.length ≤ 1000000) (hc : ∀ l ∈ ls, l.length ≤ 1000000) :
    Calls Tryz.prog 13 #[.pointer (some ⟨o, 0, none⟩)] w fun e w' => ∃ Q' cq' xs, e = .returned (.agg #[.slice Q' ls.length cq']) ∧ RwW w' w.heap.size Q' ls.length cq' xs ls ∧ Below w.heap.size w w' := by
  obtain ⟨Q, F, T, G, S, L, m, cq, cf, ct, cg, cs, h⟩ := h
  have h0 := h.n0
  have hl : ls.length = L := h.part.1
  rw [hl] at hL ⊢
  have HT := Lib.hid h.part
  have HC := Lib.hid hc
  have hol := lt_of_cell h0
  simp only at hol
  clear h hc hl
  go_enter Tryz.func13, Tryz.ntmps13
  go_wp2_with fail
  (refine calls_named ?_; intro w1 hw1)
  have hb1 : Below w.heap.size w w1 := by rw [hw1]; exact (by repeat (first | exact Below.refl _ _ | assumption | apply Below.drew | apply below_drewN | apply Bel.alloc | (refine Bel.setCell_ ?_ ?_; rotate_left; omega) | (refine Bel.step ?_ (by assumption))))
  have hR1 : Blk w1 w.heap.size 35 #[.slice none 0 0] := by rw [hw1]; exact (by repeat (first | assumption | (refine Blk.new' _ _ _ ?_; first | with_unfolding_all rfl | (simp; done)) | apply Blk.drewN | apply Blk.drew | apply Blk.alloc | (refine Blk.far_ ?_ ?_ _; rotate_left; omega)))
  have hz1 : w.heap.size + 1 ≤ w1.heap.size := by rw [hw1]; simp
  clear hw1
  with_reducible refine (twin_w Q L cq ls _ (HT.out.below hb1) hL HC.out).mono ?_
  rintro e w2 ⟨Q', cq', xs, rfl, hrw, hb2⟩
  have hR2 := hR1.below hb2 hR1.lt
  have r0 := hR2.cell 0
  simp only [List.getElem?_toArray, List.getElem?_cons_zero] at r0
  have f0 := hR2.frozen 0
  have hb2' := Bel.step hb1 hb2
  have HW := Lib.hid ((hrw.far (grownBy_set w2 w.heap.size 0 (.slice Q' L cq')) (by omega)).mono (show w.heap.size ≤ w1.heap.size by omega))
  have hbe : Below w.heap.size w (w2.setCell ⟨w.heap.size, 0, none⟩ (.slice Q' L cq')) := hb2'.setCell (Nat.le_refl _) _
  clear hrw hb2 hR1 hb1 h0
  go_wp2_with fail
  refine bodyPost_ret (v := .agg #[.slice Q' L cq']) (by simp [results, Tryz.results13, go_sem, r0]) rfl ?_
  exact ⟨_, _, _, rfl, HW.out, hbe⟩
theorem partOf_any (Q : Option Addr) (L cq : Nat) (w : World) :
    Calls Tryz.prog 15 #[.agg #[.slice Q L cq]] w fun e w' => e = .returned (.agg #[.slice Q L cq]) ∧ Below w.heap.size w w' := by
  go_enter Tryz.func15, Tryz.ntmps15
  go_wp2
  refine bodyPost_ret (v := .agg #[.slice Q L cq]) (by simp [results, Tryz.results15, go_sem]) rfl ?_
  exact ⟨rfl, (by repeat (first | exact Below.refl _ _ | assumption | apply Below.drew | apply below_drewN | apply Bel.alloc | (refine Bel.setCell_ ?_ ?_; rotate_left; omega) | (refine Bel.step ?_ (by assumption))))⟩
set_option maxHeartbeats 1000000 in
theorem samePart_same (Q R : Option Addr) (L cq cr : Nat) (ls : List (List Int)) (w : World) (h : RdT w Q L ls) (h2 : RdT w R L ls) (hL : L ≤ 1000000) (hc : ∀ l ∈ ls, l.length ≤ 1000000) :
    Calls Tryz.prog 14 #[.agg #[.slice Q L cq], .agg #[.slice R L cr]] w fun e w' => e = .returned (.bool true) ∧ Below w.heap.size w w' := by
  have HT := Lib.hid h
  have HT2 := Lib.hid h2
  have HC := Lib.hid hc
  have e0 : ((L : Int) != (L : Int)) = false := by simp
  clear h h2 hc
  go_enter Tryz.func14, Tryz.ntmps14
  go_wp2_with fail
  (refine wp_named ?_; intro w1 hw1)
  have hb1 : Below w.heap.size w w1 := by rw [hw1]; exact (by repeat (first | exact Below.refl _ _ | assumption | apply Below.drew | apply below_drewN | apply Bel.alloc | (refine Bel.setCell_ ?_ ?_; rotate_left; omega) | (refine Bel.step ?_ (by assumption))))
  have hX : Blk w1 w.heap.size 29 #[.slice Q L cq] := by rw [hw1]; exact (by repeat (first | assumption | (refine Blk.new' _ _ _ ?_; first | with_unfolding_all rfl | (simp; done)) | apply Blk.drewN | apply Blk.drew | apply Blk.alloc | (refine Blk.far_ ?_ ?_ _; rotate_left; omega)))
  have hY : Blk w1 (w.heap.size + 1) 29 #[.slice R L cr] := by rw [hw1]; exact (by repeat (first | assumption | (refine Blk.new' _ _ _ ?_; first | with_unfolding_all rfl | (simp; done)) | apply Blk.drewN | apply Blk.drew | apply Blk.alloc | (refine Blk.far_ ?_ ?_ _; rotate_left; omega)))
  clear hw1
  go_loopw [5] (fun q W => Below w1.heap.size w1 W ∧ ∃ i : Nat, i ≤ L ∧ q = .int .i64 (i : Int)) (fun q _ => L - (intOf q).toNat)
  case atStart => exact ⟨Below.refl _ _, 0, Nat.zero_le _, rfl⟩
  case round =>
    obtain ⟨hbl, i, hi, rfl⟩ := hrel
    have hXr := hX.below hbl hX.lt
    have hYr := hY.below hbl hY.lt
    have x0 := hXr.cell 0
    have y0 := hYr.cell 0
    simp only [List.getElem?_toArray, List.getElem?_cons_zero] at x0 y0
    have hbw := Bel.step hb1 hbl
    by_cases hlt : i < L
    · obtain ⟨b, o, A, n, c, l, rfl, hl, hcl, hr, _, _⟩ := (HT.out.below hbw).at_ hlt
      obtain ⟨b2, o2, A2, n2, c2, l2, rfl, hl2, hcl2, hr2, _, _⟩ := (HT2.out.below hbw).at_ hlt
      rw [hl] at hl2
      cases hl2
      have hnn : n2 = n := by rw [← hr.1, ← hr2.1]
      subst hnn
      have hn2 : n2 ≤ 1000000000 := by have := HC.out l (List.mem_of_getElem? hl); have := hr.1; omega
      have HSI := Lib.hid (show ∀ V, Below wr.heap.size wr V → Calls Tryz.prog 29 #[.slice A n2 c, .slice A2 n2 c2] V fun e w' => e = .returned (.bool true) ∧ ∃ k, w' = V.drewN k from fun V hV => (sameInts_any A A2 n2 n2 c c2 l l V (hr.below hV) (hr2.below hV) hn2 hn2).mono (fun e w' h => ⟨by rw [h.1, decide_eq_true rfl], h.2⟩))
      have i1 : (0 : Int) ≤ (i : Int) := by omega
      have i2 : (i : Int) < (L : Int) := by omega
      clear hr hr2 hl
      go_wp2_with fail
      go_quiet ((go_at_call 29; exact quiet_draws (HSI.out _ (by repeat (first | exact Below.refl _ _ | assumption | apply Below.drew | apply below_drewN | apply Bel.alloc | (refine Bel.setCell_ ?_ ?_; rotate_left; omega) | (refine Bel.step ?_ (by assumption)))))))
      go_wp2_with fail
      go_roundw
      case rel => exact ⟨below_drewN hbl _, i + 1, by omega, by go_num⟩
      case measure => simp [intOf]; omega
    · obtain rfl : L = i := by omega
      go_wp2_with fail
      go_ret
      exact ⟨rfl, hbw⟩
end Go.Proofs.YtgkeolddpielpaaGreatDoor

/- law13.To: rows copied. -/
namespace Go.Proofs.YtgkeolddpielpaaGreatDoor
open Go.RowKit

attribute [local go_sem ↓] Go.wp_at_zero Go.wp_at_succ



set_option maxHeartbeats 4000000 in
set_option maxRecDepth 20000 in
theorem partTo_w (Q : Option Addr) (L cq : Nat) (ls : List (List Int)) (w : World) (h : RdT w Q L ls) (hL : L ≤ 1000000) (hc : ∀ l ∈ ls, l.length ≤ 1000000) :
    Calls Tryz.prog 9 #[.agg #[.slice Q L cq]] w fun r w' => ∃ Q' cq' xs, r = .returned (.agg #[.slice Q' L cq']) ∧ RwW w' w.heap.size Q' L cq' xs ls ∧ Below w.heap.size w w' := by
  have HT := Lib.hid h
  have HC := Lib.hid hc
  clear h hc
  go_enter Tryz.func9, Tryz.ntmps9
  go_wp2_with fail
  (refine wp_named ?_; intro w1 hw1)
  have hb1 : Below w.heap.size w w1 := by rw [hw1]; exact (by repeat (first | exact Below.refl _ _ | assumption | apply Below.drew | apply below_drewN | apply Bel.alloc | (refine Bel.setCell_ ?_ ?_; rotate_left; omega) | (refine Bel.step ?_ (by assumption))))
  have hJ : Blk w1 w.heap.size 29 #[.slice Q L cq] := by rw [hw1]; exact (by repeat (first | assumption | (refine Blk.new' _ _ _ ?_; first | with_unfolding_all rfl | (simp; done)) | apply Blk.drewN | apply Blk.drew | apply Blk.alloc | (refine Blk.far_ ?_ ?_ _; rotate_left; omega)))
  have hR : Blk w1 (w.heap.size + 1) 35 #[.slice none 0 0] := by rw [hw1]; exact (by repeat (first | assumption | (refine Blk.new' _ _ _ ?_; first | with_unfolding_all rfl | (simp; done)) | apply Blk.drewN | apply Blk.drew | apply Blk.alloc | (refine Blk.far_ ?_ ?_ _; rotate_left; omega)))
  have hK0 : Blk w1 (w.heap.size + 2) 35 #[.slice none 0 0] := by rw [hw1]; exact (by repeat (first | assumption | (refine Blk.new' _ _ _ ?_; first | with_unfolding_all rfl | (simp; done)) | apply Blk.drewN | apply Blk.drew | apply Blk.alloc | (refine Blk.far_ ?_ ?_ _; rotate_left; omega)))
  clear hw1
  go_loopw [4] (fun i W => Below w.heap.size w W ∧ Blk W w.heap.size 29 #[.slice Q L cq] ∧ Blk W (w.heap.size + 1) 35 #[.slice none 0 0] ∧ ∃ (j : Nat) (A3 : Option Addr) (c3 : Nat) (xs : List Value), j ≤ L ∧ i = .int .i64 j ∧ Blk W (w.heap.size + 2) 35 #[.slice A3 j c3] ∧ RwW W (w.heap.size + 3) A3 j c3 xs (ls.take j)) (fun i _ => L - (intOf i).toNat)
  case atStart => exact ⟨hb1, hJ, hR, 0, none, 0, [], Nat.zero_le _, rfl, hK0, by simpa using RwW.nil _ _⟩
  case round =>
    clear hb1 hJ hR hK0
    obtain ⟨hbl, hJ, hR, j, A3, c3, xs, hj, rfl, hK0, hown⟩ := hrel
    have j0 := hJ.cell 0
    simp only [List.getElem?_toArray, List.getElem?_cons_zero] at j0
    by_cases hlt : j < L
    · obtain ⟨sb, so, Ar, m, cr, l, rfl, hl, hcl, hr, hq1, hq2⟩ := HT.out.at_ hlt
      have HN := Lib.hid (show ls.take (j + 1) = ls.take j ++ [l] by
        rw [List.take_succ_eq_append_getElem (List.getElem?_eq_some_iff.1 hl).1, (List.getElem?_eq_some_iff.1 hl).2])
      have hm : m ≤ 1000000 := by have := HC.out l (List.mem_of_getElem? hl); rw [hr.1] at this; exact this
      have dcl := Below.cellOf hbl (Nat.le_refl _) hcl
      have HSB := Lib.hid (lt_of_cell hcl)
      have HRR := Lib.hid (hr.below hbl)
      have i3 : (0 : Int) ≤ (j : Int) := by omega
      have i4 : (j : Int) < (L : Int) := by omega
      have hsz : w.heap.size + 3 ≤ wr.heap.size := by have := hK0.lt; omega
      clear hr hl hcl hq1 hq2
      have HSX := Lib.hid (show ∀ V, Below (w.heap.size + 2) wr V → V.cell? ⟨w.heap.size, 0, none⟩ = some (.slice (some ⟨sb, so, none⟩) L cq) ∧ V.cell? ⟨sb, so + j, none⟩ = some (.slice Ar m cr) from
        fun V hb => ⟨(hb.cell (by simp only; omega)).trans j0, (hb.cell (by have := lt_of_cell dcl; have := HSB.out; simp only at this ⊢; omega)).trans dcl⟩)
      go_wp2_with fail
      refine wp_region_held_drew (S := fun V => Below (w.heap.size + 2) wr V) (by kernel_rfl) (Below.refl _ _).drew (fun _ => ?_)
      refine take_ (i := 0) (d := some 12) (v := ?_) rfl rfl (by kernel_rfl) (by kernel_rfl) (by kernel_rfl) (fun _ _ _ h => h) (by rfl) ?_ (by first | rfl | trivial | assumption) ?_
      rotate_left
      · (intro V hSw; (try (have hF := HSX.out V hSw)); (try (cases hSw)); (try go_split_ands); go_simp; try with_reducible rfl)
      simp only [Act.put, List.setIfInBounds_toArray, List.set_cons_zero, List.set_cons_succ]
      refine take_ (i := 3) (d := some 15) (v := ?_) rfl rfl (by kernel_rfl) (by kernel_rfl) (by kernel_rfl) (fun _ _ _ h => h) (by rfl) ?_ (by first | rfl | trivial | assumption) ?_
      rotate_left
      · (intro V hSw; (try (have hF := HSX.out V hSw)); (try (cases hSw)); (try go_split_ands); go_simp; try with_reducible rfl)
      simp only [Act.put, List.setIfInBounds_toArray, List.set_cons_zero, List.set_cons_succ]
      refine take_ (i := 4) (d := some 16) (v := ?_) rfl rfl (by kernel_rfl) (by kernel_rfl) (by kernel_rfl) (fun _ _ _ h => h) (by rfl) ?_ (by first | rfl | trivial | assumption) ?_
      rotate_left
      · (intro V hSw; (try (have hF := HSX.out V hSw)); (try (cases hSw)); (try go_split_ands); go_simp; try with_reducible rfl)
      simp only [Act.put, List.setIfInBounds_toArray, List.set_cons_zero, List.set_cons_succ]
      refine take_ (i := 5) (d := some 17) (v := ?_) rfl rfl (by kernel_rfl) (by kernel_rfl) (by kernel_rfl) (fun _ _ _ h => h) (by rfl) ?_ (by first | rfl | trivial | assumption) ?_
      rotate_left
      · (intro V hSw; (try (have hF := HSX.out V hSw)); (try (cases hSw)); (try go_split_ands); go_simp; try with_reducible rfl)
      simp only [Act.put, List.setIfInBounds_toArray, List.set_cons_zero, List.set_cons_succ]
      refine take_ (i := 6) (d := some 18) (v := ?_) rfl rfl (by kernel_rfl) (by kernel_rfl) (by kernel_rfl) (fun _ _ _ h => h) (by rfl) ?_ (by first | rfl | trivial | assumption) ?_
      rotate_left
      · (intro V hSw; (try (have hF := HSX.out V hSw)); (try (cases hSw)); (try go_split_ands); go_simp; try with_reducible rfl)
      simp only [Act.put, List.setIfInBounds_toArray, List.set_cons_zero, List.set_cons_succ]
      refine take_ (i := 7) (d := some 19) (v := ?_) rfl rfl (by kernel_rfl) (by kernel_rfl) (by kernel_rfl) (fun _ _ _ h => h) (by rfl) ?_ (by first | rfl | trivial | assumption) ?_
      rotate_left
      · (intro V hSw; (try (have hF := HSX.out V hSw)); (try (cases hSw)); (try go_split_ands); go_simp; try with_reducible rfl)
      simp only [Act.put, List.setIfInBounds_toArray, List.set_cons_zero, List.set_cons_succ]
      refine wpAnyH_ready (rs := [1, 2]) (by kernel_rfl) (by simp) ?_
      refine AllReadyH.cons (o := _) rfl (fun K hK => ?_) (AllReadyH.cons (o := _) rfl (fun K hK => ?_) AllReadyH.nil)
      · have k3a := hK0.cell 0
        simp only [List.getElem?_toArray, List.getElem?_cons_zero] at k3a
        go_simp
        refine hK.out _ _ (Below.refl _ _).drew (fun _ => ?_)
        clear hK K k3a
        refine wpAnyH_ready (rs := [2]) (by kernel_rfl) (by simp) ?_
        refine AllReadyH.cons (o := _) rfl (fun K hK => ?_) AllReadyH.nil
        go_simp
        refine hK.out _ _ (((Below.refl _ _).alloc (by omega) _).drew) (fun _ => ?_)
        clear hK K
        obtain ⟨W3, hW3⟩ : ∃ W3, W3 = (wr.alloc (.cells #[] 3)).drew := ⟨_, rfl⟩
        rw [← hW3]
        have hbr3 : Below wr.heap.size wr W3 := by rw [hW3]; exact (by repeat (first | exact Below.refl _ _ | assumption | apply Below.drew | apply below_drewN | apply Bel.alloc | (refine Bel.setCell_ ?_ ?_; rotate_left; omega) | (refine Bel.step ?_ (by assumption))))
        have hown0 : Own W3 wr.heap.size 3 1 (some ⟨wr.heap.size, 0, none⟩) 0 0 [] := by rw [hW3]; exact lit0 (Nat.le_refl _)
        have hrd0 := (HRR.out.below hbr3).rdsI
        have hz3 := hbr3.size
        clear hW3
        refine wpAnyH_ready (rs := [8]) (by kernel_rfl) (by simp) ?_
        refine AllReadyH.cons (o := _) rfl (fun K hK => ?_) AllReadyH.nil
        with_reducible refine step_app' (some 20) rfl rfl (.tmp 14) (.tmp 19) 47 rfl 3 _ 1 8 infoInt Tryz.underlying47 rfl (by omega) rfl rfl hown0 hrd0 (icells_one _) (by omega) (by omega) (by omega) ?_
        intro A2 c2 w4 hrc hg4 _
        have hbr4 : Below wr.heap.size wr w4 := Bel.grownOwn hbr3 hg4 hown0 (by omega)
        simp only [Nat.zero_add, List.nil_append] at hrc
        clear hg4 hown0 hrd0
        refine hK.out _ _ (hbr4.mono (by omega)) (fun _ => ?_)
        clear hK K
        simp only [Act.put, List.setIfInBounds_toArray, List.set_cons_zero, List.set_cons_succ, Nat.zero_add]
        refine wpAnyH_ready (rs := [9]) (by kernel_rfl) (by simp) ?_
        refine AllReadyH.cons (o := _) rfl (fun K hK => ?_) AllReadyH.nil
        go_simp
        refine hK.out _ _ (Below.alloc (hbr4.mono (by omega)) (by have := hbr4.size; omega) _) (fun _ => ?_)
        clear hK K
        obtain ⟨W, hW⟩ : ∃ W, W = w4.alloc (.cells #[.slice A2 m c2] 47) := ⟨_, rfl⟩
        rw [← hW]
        have hb4W : Below w4.heap.size w4 W := by rw [hW]; exact (by repeat (first | exact Below.refl _ _ | assumption | apply Below.drew | apply below_drewN | apply Bel.alloc | (refine Bel.setCell_ ?_ ?_; rotate_left; omega) | (refine Bel.step ?_ (by assumption))))
        have hrdW : Rds W 1 (some ⟨w4.heap.size, 0, none⟩) 1 [.slice A2 m c2] := by rw [hW]; exact (Blk.new w4 47 #[.slice A2 m c2]).rds rfl
        clear hW
        have hbrW : Below wr.heap.size wr W := Bel.step hbr4 hb4W
        have hcW := hrc.rds.rdI.below hb4W
        have hwmW := (hrc.below hb4W).warm
        have hloW : ∀ g, blkOf A2 = some g → wr.heap.size ≤ g ∧ g < W.heap.size := fun g hg => ⟨(hrc.lt g hg).1, Nat.lt_of_lt_of_le (hrc.lt g hg).2 hb4W.size⟩
        have hcapW := hrc.cap
        have hcapM := hrc.capMax
        have hbrW : Below wr.heap.size wr W := hbrW
        have hyW := hown.below hbrW
        have hbW : Below (w.heap.size + 2) wr W := hbrW.mono (by omega)
        have hblW : Below w.heap.size w W := Bel.step hbl hbrW
        have hJW := hJ.below hbrW hJ.lt
        have hRW := hR.below hbrW hR.lt
        have hKW := hK0.below hbrW hK0.lt
        have hclW : ∀ g, blkOf A2 = some g → w.heap.size + 3 ≤ g ∧ g < W.heap.size ∧ blkOf A3 ≠ some g := fun g hg => by
          have h1 := hloW g hg
          refine ⟨by omega, h1.2, fun e => ?_⟩
          have h2 := (hown.1.1.lt g e).2
          omega
        have hWsz : w.heap.size + 3 ≤ W.heap.size := by have := hbrW.size; omega
        have HYY := Lib.hid hyW
        have hownY := hyW.1.1
        clear hyW
        refine wpAnyH_ready (rs := [10]) (by kernel_rfl) (by simp) ?_
        refine AllReadyH.cons (o := _) rfl (fun K hK => ?_) AllReadyH.nil
        with_reducible refine step_app' (some 22) rfl rfl (.tmp 13) (.tmp 21) 27 rfl 47 _ 1 24 infoRw Tryz.underlying27 rfl (by omega) rfl rfl hownY hrdW (slice_one _ _ _) (by omega) (by omega) hWsz ?_
        intro A' c' w' hown' hg hat
        have hb5 : Below (w.heap.size + 2) wr w' := Bel.grownOwn hbW hg (hownY.mono (by omega)) (by omega)
        have hb6 : Below w.heap.size w w' := Bel.grownOwn hblW hg (hownY.mono (by omega)) (by omega)
        have hJ' := hJW.grown hg (hownY.ne (by omega))
        have hR' := hRW.grown hg (hownY.ne (by omega))
        have hK' := hKW.grown hg (hownY.ne (by omega))
        have HYN := Lib.hid (HYY.out.push hown' hg hat hcW hclW hcapW hcapM hwmW)
        clear hownY hrdW hbW hblW hJW hRW hKW hg hclW hcW hown' hat HYY hbrW hcapW hcapM
        refine hK.out _ _ hb5 (fun _ => ?_)
        clear hK K
        simp only [Act.put, List.setIfInBounds_toArray, List.set_cons_zero, List.set_cons_succ]
        refine take_ (i := 11) (d := some 23) (v := ?_) rfl rfl (by kernel_rfl) (by kernel_rfl) (by kernel_rfl) (fun _ _ _ h => h) (by rfl) ?_ (by first | rfl | trivial | assumption) ?_
        rotate_left
        · (intro V hSw; (try (have hF := HSX.out V hSw)); (try (cases hSw)); (try go_split_ands); go_simp; try with_reducible rfl)
        simp only [Act.put, List.setIfInBounds_toArray, List.set_cons_zero, List.set_cons_succ]
        have k3' := hK'.cell 0
        simp only [List.getElem?_toArray, List.getElem?_cons_zero] at k3'
        have kf' := hK'.frozen 0
        refine wpAnyH_ready (rs := [12]) (by kernel_rfl) (by simp) ?_
        refine AllReadyH.cons (o := _) rfl (fun K hK => ?_) AllReadyH.nil
        go_simp
        refine hK.out _ _ (hb5.setCell (by simp only; omega) _) (fun _ => ?_)
        clear hK K
        refine wpAnyH_done (by kernel_rfl) ?_ _
        have HK2 := Lib.hid (hK'.set_ 0 (.slice A' (j + 1) c'))
        have HY2 := Lib.hid (HYN.out.far (grownBy_set w' (w.heap.size + 2) 0 (.slice A' (j + 1) c')) (by omega))
        have HB2 := Lib.hid (show Below w.heap.size w (w'.setCell ⟨w.heap.size + 2, 0, none⟩ (.slice A' (j + 1) c')) from hb6.setCell (by simp only; omega) _)
        have HJ2 := Lib.hid (hJ'.far_ (b := w.heap.size + 2) (o := 0) (by omega) (.slice A' (j + 1) c'))
        have HR2 := Lib.hid (hR'.far_ (b := w.heap.size + 2) (o := 0) (by omega) (.slice A' (j + 1) c'))
        clear hK' k3' kf' hJ' hR'
        go_wp2_with fail
        go_roundw
        case rel => exact ⟨HB2.out, HJ2.out, HR2.out, j + 1, A', c', _, by omega, by go_num, HK2.out, by rw [HN.out]; exact HY2.out⟩
        case measure => simp [intOf]; omega
      · go_simp
        refine hK.out _ _ (((Below.refl _ _).alloc (by omega) _).drew) (fun _ => ?_)
        clear hK K
        obtain ⟨W3, hW3⟩ : ∃ W3, W3 = (wr.alloc (.cells #[] 3)).drew := ⟨_, rfl⟩
        rw [← hW3]
        have hbr3 : Below wr.heap.size wr W3 := by rw [hW3]; exact (by repeat (first | exact Below.refl _ _ | assumption | apply Below.drew | apply below_drewN | apply Bel.alloc | (refine Bel.setCell_ ?_ ?_; rotate_left; omega) | (refine Bel.step ?_ (by assumption))))
        have hown0 : Own W3 wr.heap.size 3 1 (some ⟨wr.heap.size, 0, none⟩) 0 0 [] := by rw [hW3]; exact lit0 (Nat.le_refl _)
        have hrd0 := (HRR.out.below hbr3).rdsI
        have hz3 := hbr3.size
        clear hW3
        refine wpAnyH_ready (rs := [1, 8]) (by kernel_rfl) (by simp) ?_
        refine AllReadyH.cons (o := _) rfl (fun K hK => ?_) (AllReadyH.cons (o := _) rfl (fun K hK => ?_) AllReadyH.nil)
        · have k3a : W3.cell? ⟨w.heap.size + 2, 0, none⟩ = some (.slice A3 j c3) := (hK0.below hbr3 hK0.lt).cell 0
          go_simp
          refine hK.out _ _ (hbr3.mono (by omega)) (fun _ => ?_)
          clear hK K k3a
          refine wpAnyH_ready (rs := [8]) (by kernel_rfl) (by simp) ?_
          refine AllReadyH.cons (o := _) rfl (fun K hK => ?_) AllReadyH.nil
          with_reducible refine step_app' (some 20) rfl rfl (.tmp 14) (.tmp 19) 47 rfl 3 _ 1 8 infoInt Tryz.underlying47 rfl (by omega) rfl rfl hown0 hrd0 (icells_one _) (by omega) (by omega) (by omega) ?_
          intro A2 c2 w4 hrc hg4 _
          have hbr4 : Below wr.heap.size wr w4 := Bel.grownOwn hbr3 hg4 hown0 (by omega)
          simp only [Nat.zero_add, List.nil_append] at hrc
          clear hg4 hown0 hrd0
          refine hK.out _ _ (hbr4.mono (by omega)) (fun _ => ?_)
          clear hK K
          simp only [Act.put, List.setIfInBounds_toArray, List.set_cons_zero, List.set_cons_succ, Nat.zero_add]
          refine wpAnyH_ready (rs := [9]) (by kernel_rfl) (by simp) ?_
          refine AllReadyH.cons (o := _) rfl (fun K hK => ?_) AllReadyH.nil
          go_simp
          refine hK.out _ _ (Below.alloc (hbr4.mono (by omega)) (by have := hbr4.size; omega) _) (fun _ => ?_)
          clear hK K
          obtain ⟨W, hW⟩ : ∃ W, W = w4.alloc (.cells #[.slice A2 m c2] 47) := ⟨_, rfl⟩
          rw [← hW]
          have hb4W : Below w4.heap.size w4 W := by rw [hW]; exact (by repeat (first | exact Below.refl _ _ | assumption | apply Below.drew | apply below_drewN | apply Bel.alloc | (refine Bel.setCell_ ?_ ?_; rotate_left; omega) | (refine Bel.step ?_ (by assumption))))
          have hrdW : Rds W 1 (some ⟨w4.heap.size, 0, none⟩) 1 [.slice A2 m c2] := by rw [hW]; exact (Blk.new w4 47 #[.slice A2 m c2]).rds rfl
          clear hW
          have hbrW : Below wr.heap.size wr W := Bel.step hbr4 hb4W
          have hcW := hrc.rds.rdI.below hb4W
          have hwmW := (hrc.below hb4W).warm
          have hloW : ∀ g, blkOf A2 = some g → wr.heap.size ≤ g ∧ g < W.heap.size := fun g hg => ⟨(hrc.lt g hg).1, Nat.lt_of_lt_of_le (hrc.lt g hg).2 hb4W.size⟩
          have hcapW := hrc.cap
          have hcapM := hrc.capMax
          have hbrW : Below wr.heap.size wr W := hbrW
          have hyW := hown.below hbrW
          have hbW : Below (w.heap.size + 2) wr W := hbrW.mono (by omega)
          have hblW : Below w.heap.size w W := Bel.step hbl hbrW
          have hJW := hJ.below hbrW hJ.lt
          have hRW := hR.below hbrW hR.lt
          have hKW := hK0.below hbrW hK0.lt
          have hclW : ∀ g, blkOf A2 = some g → w.heap.size + 3 ≤ g ∧ g < W.heap.size ∧ blkOf A3 ≠ some g := fun g hg => by
            have h1 := hloW g hg
            refine ⟨by omega, h1.2, fun e => ?_⟩
            have h2 := (hown.1.1.lt g e).2
            omega
          have hWsz : w.heap.size + 3 ≤ W.heap.size := by have := hbrW.size; omega
          have HYY := Lib.hid hyW
          have hownY := hyW.1.1
          clear hyW
          refine wpAnyH_ready (rs := [10]) (by kernel_rfl) (by simp) ?_
          refine AllReadyH.cons (o := _) rfl (fun K hK => ?_) AllReadyH.nil
          with_reducible refine step_app' (some 22) rfl rfl (.tmp 13) (.tmp 21) 27 rfl 47 _ 1 24 infoRw Tryz.underlying27 rfl (by omega) rfl rfl hownY hrdW (slice_one _ _ _) (by omega) (by omega) hWsz ?_
          intro A' c' w' hown' hg hat
          have hb5 : Below (w.heap.size + 2) wr w' := Bel.grownOwn hbW hg (hownY.mono (by omega)) (by omega)
          have hb6 : Below w.heap.size w w' := Bel.grownOwn hblW hg (hownY.mono (by omega)) (by omega)
          have hJ' := hJW.grown hg (hownY.ne (by omega))
          have hR' := hRW.grown hg (hownY.ne (by omega))
          have hK' := hKW.grown hg (hownY.ne (by omega))
          have HYN := Lib.hid (HYY.out.push hown' hg hat hcW hclW hcapW hcapM hwmW)
          clear hownY hrdW hbW hblW hJW hRW hKW hg hclW hcW hown' hat HYY hbrW hcapW hcapM
          refine hK.out _ _ hb5 (fun _ => ?_)
          clear hK K
          simp only [Act.put, List.setIfInBounds_toArray, List.set_cons_zero, List.set_cons_succ]
          refine take_ (i := 11) (d := some 23) (v := ?_) rfl rfl (by kernel_rfl) (by kernel_rfl) (by kernel_rfl) (fun _ _ _ h => h) (by rfl) ?_ (by first | rfl | trivial | assumption) ?_
          rotate_left
          · (intro V hSw; (try (have hF := HSX.out V hSw)); (try (cases hSw)); (try go_split_ands); go_simp; try with_reducible rfl)
          simp only [Act.put, List.setIfInBounds_toArray, List.set_cons_zero, List.set_cons_succ]
          have k3' := hK'.cell 0
          simp only [List.getElem?_toArray, List.getElem?_cons_zero] at k3'
          have kf' := hK'.frozen 0
          refine wpAnyH_ready (rs := [12]) (by kernel_rfl) (by simp) ?_
          refine AllReadyH.cons (o := _) rfl (fun K hK => ?_) AllReadyH.nil
          go_simp
          refine hK.out _ _ (hb5.setCell (by simp only; omega) _) (fun _ => ?_)
          clear hK K
          refine wpAnyH_done (by kernel_rfl) ?_ _
          have HK2 := Lib.hid (hK'.set_ 0 (.slice A' (j + 1) c'))
          have HY2 := Lib.hid (HYN.out.far (grownBy_set w' (w.heap.size + 2) 0 (.slice A' (j + 1) c')) (by omega))
          have HB2 := Lib.hid (show Below w.heap.size w (w'.setCell ⟨w.heap.size + 2, 0, none⟩ (.slice A' (j + 1) c')) from hb6.setCell (by simp only; omega) _)
          have HJ2 := Lib.hid (hJ'.far_ (b := w.heap.size + 2) (o := 0) (by omega) (.slice A' (j + 1) c'))
          have HR2 := Lib.hid (hR'.far_ (b := w.heap.size + 2) (o := 0) (by omega) (.slice A' (j + 1) c'))
          clear hK' k3' kf' hJ' hR'
          go_wp2_with fail
          go_roundw
          case rel => exact ⟨HB2.out, HJ2.out, HR2.out, j + 1, A', c', _, by omega, by go_num, HK2.out, by rw [HN.out]; exact HY2.out⟩
          case measure => simp [intOf]; omega
        · with_reducible refine step_app' (some 20) rfl rfl (.tmp 14) (.tmp 19) 47 rfl 3 _ 1 8 infoInt Tryz.underlying47 rfl (by omega) rfl rfl hown0 hrd0 (icells_one _) (by omega) (by omega) (by omega) ?_
          intro A2 c2 w4 hrc hg4 _
          have hbr4 : Below wr.heap.size wr w4 := Bel.grownOwn hbr3 hg4 hown0 (by omega)
          simp only [Nat.zero_add, List.nil_append] at hrc
          clear hg4 hown0 hrd0
          refine hK.out _ _ (hbr4.mono (by omega)) (fun _ => ?_)
          clear hK K
          simp only [Act.put, List.setIfInBounds_toArray, List.set_cons_zero, List.set_cons_succ, Nat.zero_add]
          refine wpAnyH_ready (rs := [1, 9]) (by kernel_rfl) (by simp) ?_
          refine AllReadyH.cons (o := _) rfl (fun K hK => ?_) (AllReadyH.cons (o := _) rfl (fun K hK => ?_) AllReadyH.nil)
          · have k3a : w4.cell? ⟨w.heap.size + 2, 0, none⟩ = some (.slice A3 j c3) := (hK0.below hbr4 hK0.lt).cell 0
            go_simp
            refine hK.out _ _ (hbr4.mono (by omega)) (fun _ => ?_)
            clear hK K k3a
            refine wpAnyH_ready (rs := [9]) (by kernel_rfl) (by simp) ?_
            refine AllReadyH.cons (o := _) rfl (fun K hK => ?_) AllReadyH.nil
            go_simp
            refine hK.out _ _ (Below.alloc (hbr4.mono (by omega)) (by have := hbr4.size; omega) _) (fun _ => ?_)
            clear hK K
            obtain ⟨W, hW⟩ : ∃ W, W = w4.alloc (.cells #[.slice A2 m c2] 47) := ⟨_, rfl⟩
            rw [← hW]
            have hb4W : Below w4.heap.size w4 W := by rw [hW]; exact (by repeat (first | exact Below.refl _ _ | assumption | apply Below.drew | apply below_drewN | apply Bel.alloc | (refine Bel.setCell_ ?_ ?_; rotate_left; omega) | (refine Bel.step ?_ (by assumption))))
            have hrdW : Rds W 1 (some ⟨w4.heap.size, 0, none⟩) 1 [.slice A2 m c2] := by rw [hW]; exact (Blk.new w4 47 #[.slice A2 m c2]).rds rfl
            clear hW
            have hbrW : Below wr.heap.size wr W := Bel.step hbr4 hb4W
            have hcW := hrc.rds.rdI.below hb4W
            have hwmW := (hrc.below hb4W).warm
            have hloW : ∀ g, blkOf A2 = some g → wr.heap.size ≤ g ∧ g < W.heap.size := fun g hg => ⟨(hrc.lt g hg).1, Nat.lt_of_lt_of_le (hrc.lt g hg).2 hb4W.size⟩
            have hcapW := hrc.cap
            have hcapM := hrc.capMax
            have hbrW : Below wr.heap.size wr W := hbrW
            have hyW := hown.below hbrW
            have hbW : Below (w.heap.size + 2) wr W := hbrW.mono (by omega)
            have hblW : Below w.heap.size w W := Bel.step hbl hbrW
            have hJW := hJ.below hbrW hJ.lt
            have hRW := hR.below hbrW hR.lt
            have hKW := hK0.below hbrW hK0.lt
            have hclW : ∀ g, blkOf A2 = some g → w.heap.size + 3 ≤ g ∧ g < W.heap.size ∧ blkOf A3 ≠ some g := fun g hg => by
              have h1 := hloW g hg
              refine ⟨by omega, h1.2, fun e => ?_⟩
              have h2 := (hown.1.1.lt g e).2
              omega
            have hWsz : w.heap.size + 3 ≤ W.heap.size := by have := hbrW.size; omega
            have HYY := Lib.hid hyW
            have hownY := hyW.1.1
            clear hyW
            refine wpAnyH_ready (rs := [10]) (by kernel_rfl) (by simp) ?_
            refine AllReadyH.cons (o := _) rfl (fun K hK => ?_) AllReadyH.nil
            with_reducible refine step_app' (some 22) rfl rfl (.tmp 13) (.tmp 21) 27 rfl 47 _ 1 24 infoRw Tryz.underlying27 rfl (by omega) rfl rfl hownY hrdW (slice_one _ _ _) (by omega) (by omega) hWsz ?_
            intro A' c' w' hown' hg hat
            have hb5 : Below (w.heap.size + 2) wr w' := Bel.grownOwn hbW hg (hownY.mono (by omega)) (by omega)
            have hb6 : Below w.heap.size w w' := Bel.grownOwn hblW hg (hownY.mono (by omega)) (by omega)
            have hJ' := hJW.grown hg (hownY.ne (by omega))
            have hR' := hRW.grown hg (hownY.ne (by omega))
            have hK' := hKW.grown hg (hownY.ne (by omega))
            have HYN := Lib.hid (HYY.out.push hown' hg hat hcW hclW hcapW hcapM hwmW)
            clear hownY hrdW hbW hblW hJW hRW hKW hg hclW hcW hown' hat HYY hbrW hcapW hcapM
            refine hK.out _ _ hb5 (fun _ => ?_)
            clear hK K
            simp only [Act.put, List.setIfInBounds_toArray, List.set_cons_zero, List.set_cons_succ]
            refine take_ (i := 11) (d := some 23) (v := ?_) rfl rfl (by kernel_rfl) (by kernel_rfl) (by kernel_rfl) (fun _ _ _ h => h) (by rfl) ?_ (by first | rfl | trivial | assumption) ?_
            rotate_left
            · (intro V hSw; (try (have hF := HSX.out V hSw)); (try (cases hSw)); (try go_split_ands); go_simp; try with_reducible rfl)
            simp only [Act.put, List.setIfInBounds_toArray, List.set_cons_zero, List.set_cons_succ]
            have k3' := hK'.cell 0
            simp only [List.getElem?_toArray, List.getElem?_cons_zero] at k3'
            have kf' := hK'.frozen 0
            refine wpAnyH_ready (rs := [12]) (by kernel_rfl) (by simp) ?_
            refine AllReadyH.cons (o := _) rfl (fun K hK => ?_) AllReadyH.nil
            go_simp
            refine hK.out _ _ (hb5.setCell (by simp only; omega) _) (fun _ => ?_)
            clear hK K
            refine wpAnyH_done (by kernel_rfl) ?_ _
            have HK2 := Lib.hid (hK'.set_ 0 (.slice A' (j + 1) c'))
            have HY2 := Lib.hid (HYN.out.far (grownBy_set w' (w.heap.size + 2) 0 (.slice A' (j + 1) c')) (by omega))
            have HB2 := Lib.hid (show Below w.heap.size w (w'.setCell ⟨w.heap.size + 2, 0, none⟩ (.slice A' (j + 1) c')) from hb6.setCell (by simp only; omega) _)
            have HJ2 := Lib.hid (hJ'.far_ (b := w.heap.size + 2) (o := 0) (by omega) (.slice A' (j + 1) c'))
            have HR2 := Lib.hid (hR'.far_ (b := w.heap.size + 2) (o := 0) (by omega) (.slice A' (j + 1) c'))
            clear hK' k3' kf' hJ' hR'
            go_wp2_with fail
            go_roundw
            case rel => exact ⟨HB2.out, HJ2.out, HR2.out, j + 1, A', c', _, by omega, by go_num, HK2.out, by rw [HN.out]; exact HY2.out⟩
            case measure => simp [intOf]; omega
          · go_simp
            refine hK.out _ _ (Below.alloc (hbr4.mono (by omega)) (by have := hbr4.size; omega) _) (fun _ => ?_)
            clear hK K
            have k3a : ∀ o, (w4.alloc o).cell? ⟨w.heap.size + 2, 0, none⟩ = some (.slice A3 j c3) := fun o => ((hK0.below hbr4 hK0.lt).alloc o).cell 0
            refine wpAnyH_ready (rs := [1]) (by kernel_rfl) (by simp) ?_
            refine AllReadyH.cons (o := _) rfl (fun K hK => ?_) AllReadyH.nil
            go_simp
            refine hK.out _ _ (Below.alloc (hbr4.mono (by omega)) (by have := hbr4.size; omega) _) (fun _ => ?_)
            clear hK K
            clear k3a
            obtain ⟨W, hW⟩ : ∃ W, W = w4.alloc (.cells #[.slice A2 m c2] 47) := ⟨_, rfl⟩
            rw [← hW]
            have hb4W : Below w4.heap.size w4 W := by rw [hW]; exact (by repeat (first | exact Below.refl _ _ | assumption | apply Below.drew | apply below_drewN | apply Bel.alloc | (refine Bel.setCell_ ?_ ?_; rotate_left; omega) | (refine Bel.step ?_ (by assumption))))
            have hrdW : Rds W 1 (some ⟨w4.heap.size, 0, none⟩) 1 [.slice A2 m c2] := by rw [hW]; exact (Blk.new w4 47 #[.slice A2 m c2]).rds rfl
            clear hW
            have hbrW : Below wr.heap.size wr W := Bel.step hbr4 hb4W
            have hcW := hrc.rds.rdI.below hb4W
            have hwmW := (hrc.below hb4W).warm
            have hloW : ∀ g, blkOf A2 = some g → wr.heap.size ≤ g ∧ g < W.heap.size := fun g hg => ⟨(hrc.lt g hg).1, Nat.lt_of_lt_of_le (hrc.lt g hg).2 hb4W.size⟩
            have hcapW := hrc.cap
            have hcapM := hrc.capMax
            have hbrW : Below wr.heap.size wr W := hbrW
            have hyW := hown.below hbrW
            have hbW : Below (w.heap.size + 2) wr W := hbrW.mono (by omega)
            have hblW : Below w.heap.size w W := Bel.step hbl hbrW
            have hJW := hJ.below hbrW hJ.lt
            have hRW := hR.below hbrW hR.lt
            have hKW := hK0.below hbrW hK0.lt
            have hclW : ∀ g, blkOf A2 = some g → w.heap.size + 3 ≤ g ∧ g < W.heap.size ∧ blkOf A3 ≠ some g := fun g hg => by
              have h1 := hloW g hg
              refine ⟨by omega, h1.2, fun e => ?_⟩
              have h2 := (hown.1.1.lt g e).2
              omega
            have hWsz : w.heap.size + 3 ≤ W.heap.size := by have := hbrW.size; omega
            have HYY := Lib.hid hyW
            have hownY := hyW.1.1
            clear hyW
            refine wpAnyH_ready (rs := [10]) (by kernel_rfl) (by simp) ?_
            refine AllReadyH.cons (o := _) rfl (fun K hK => ?_) AllReadyH.nil
            with_reducible refine step_app' (some 22) rfl rfl (.tmp 13) (.tmp 21) 27 rfl 47 _ 1 24 infoRw Tryz.underlying27 rfl (by omega) rfl rfl hownY hrdW (slice_one _ _ _) (by omega) (by omega) hWsz ?_
            intro A' c' w' hown' hg hat
            have hb5 : Below (w.heap.size + 2) wr w' := Bel.grownOwn hbW hg (hownY.mono (by omega)) (by omega)
            have hb6 : Below w.heap.size w w' := Bel.grownOwn hblW hg (hownY.mono (by omega)) (by omega)
            have hJ' := hJW.grown hg (hownY.ne (by omega))
            have hR' := hRW.grown hg (hownY.ne (by omega))
            have hK' := hKW.grown hg (hownY.ne (by omega))
            have HYN := Lib.hid (HYY.out.push hown' hg hat hcW hclW hcapW hcapM hwmW)
            clear hownY hrdW hbW hblW hJW hRW hKW hg hclW hcW hown' hat HYY hbrW hcapW hcapM
            refine hK.out _ _ hb5 (fun _ => ?_)
            clear hK K
            simp only [Act.put, List.setIfInBounds_toArray, List.set_cons_zero, List.set_cons_succ]
            refine take_ (i := 11) (d := some 23) (v := ?_) rfl rfl (by kernel_rfl) (by kernel_rfl) (by kernel_rfl) (fun _ _ _ h => h) (by rfl) ?_ (by first | rfl | trivial | assumption) ?_
            rotate_left
            · (intro V hSw; (try (have hF := HSX.out V hSw)); (try (cases hSw)); (try go_split_ands); go_simp; try with_reducible rfl)
            simp only [Act.put, List.setIfInBounds_toArray, List.set_cons_zero, List.set_cons_succ]
            have k3' := hK'.cell 0
            simp only [List.getElem?_toArray, List.getElem?_cons_zero] at k3'
            have kf' := hK'.frozen 0
            refine wpAnyH_ready (rs := [12]) (by kernel_rfl) (by simp) ?_
            refine AllReadyH.cons (o := _) rfl (fun K hK => ?_) AllReadyH.nil
            go_simp
            refine hK.out _ _ (hb5.setCell (by simp only; omega) _) (fun _ => ?_)
            clear hK K
            refine wpAnyH_done (by kernel_rfl) ?_ _
            have HK2 := Lib.hid (hK'.set_ 0 (.slice A' (j + 1) c'))
            have HY2 := Lib.hid (HYN.out.far (grownBy_set w' (w.heap.size + 2) 0 (.slice A' (j + 1) c')) (by omega))
            have HB2 := Lib.hid (show Below w.heap.size w (w'.setCell ⟨w.heap.size + 2, 0, none⟩ (.slice A' (j + 1) c')) from hb6.setCell (by simp only; omega) _)
            have HJ2 := Lib.hid (hJ'.far_ (b := w.heap.size + 2) (o := 0) (by omega) (.slice A' (j + 1) c'))
            have HR2 := Lib.hid (hR'.far_ (b := w.heap.size + 2) (o := 0) (by omega) (.slice A' (j + 1) c'))
            clear hK' k3' kf' hJ' hR'
            go_wp2_with fail
            go_roundw
            case rel => exact ⟨HB2.out, HJ2.out, HR2.out, j + 1, A', c', _, by omega, by go_num, HK2.out, by rw [HN.out]; exact HY2.out⟩
            case measure => simp [intOf]; omega
    · obtain rfl : L = j := by omega
      rw [List.take_of_length_le (by rw [HT.out.1]; exact Nat.le_refl _)] at hown
      have q0 := hK0.cell 0
      have r0 := hR.cell 0
      simp only [List.getElem?_toArray, List.getElem?_cons_zero] at q0 r0
      have f0 := hR.frozen 0
      have hown2 := hown.far (grownBy_set wr (w.heap.size + 1) 0 (.slice A3 L c3)) (by omega)
      have HM := Lib.hid (hown2.mono (show w.heap.size ≤ w.heap.size + 3 by omega))
      clear hown hown2 hR
      go_wp2_with fail
      refine bodyPost_ret (v := .agg #[.slice A3 L c3]) (by simp [results, Tryz.results9, go_sem, r0]) rfl ?_
      exact ⟨A3, c3, _, rfl, HM.out, (by repeat (first | exact Below.refl _ _ | assumption | apply Below.drew | apply below_drewN | apply Bel.alloc | (refine Bel.setCell_ ?_ ?_; rotate_left; omega) | (refine Bel.step ?_ (by assumption))))⟩
end Go.Proofs.YtgkeolddpielpaaGreatDoor
