/- Parts of the proof: Nf4. -/
import Derived.Test.YtpffhoefmcpniaaGreatDoorB1
import Derived.Test.YtpffhoefmcpniaaGreatDoorB20
import Derived.Test.YtpffhoefmcpniaaGreatDoorB31
import Derived.Test.YtpffhoefmcpniaaGreatDoorB32
namespace Go.Proofs.YtpffhoefmcpniaaGreatDoor
open Go.RowKit

attribute [local go_sem ↓] Go.wp_at_zero Go.wp_at_succ

theorem plI_nats {vl : List Nat} (h : vl.Nodup) {x : Int} (h0 : 0 ≤ x) (hm : x.toNat ∈ vl) : plI (nats vl) x = (vl.idxOf x.toNat : Int) := by
 have hx : x ∈ nats vl := by
  rw [← Int.toNat_of_nonneg h0]
  exact nats_mem.2 hm
 obtain ⟨k, h1, h2⟩ := plI_mem hx
 rw [h1]
 obtain ⟨v, e, hv⟩ := nats_getE h2
 subst e
 rw [Int.toNat_natCast, idxOf_at h hv]
theorem plI_out {vl : List Nat} {x : Int} (h0 : 0 ≤ x) (hm : x.toNat ∉ vl) : ¬ 0 ≤ plI (nats vl) x := fun h => by
 have := plI_nn.1 h
 rw [← Int.toNat_of_nonneg h0] at this
 exact hm (nats_mem.1 this)
def HlPost (N : NetD) (vl : List Nat) (w : World) (r : Ending) (w' : World) : Prop := ∃ A1 c1 A2 c2, r = .returned (.tuple #[.slice A1 (hlf N true vl).length c1, .slice A2 (hlf N false vl).length c2]) ∧ RdI w' A1 (hlf N true vl).length (nats (hlf N true vl)) ∧ RdI w' A2 (hlf N false vl).length (nats (hlf N false vl)) ∧ Below w.heap.size w w'
set_option maxHeartbeats 8000000 in
set_option maxRecDepth 20000 in
theorem refHalves_any (A B C AV : Option Addr) (n m k c d e kv cv : Nat) (N : NetD) (vl : List Nat) (w : World) (h : RdNet w A B C n m k N) (hN : NetOk N) (hv : RdI w AV kv (nats vl)) (hok : PcOk N.vs.length vl) (h2 : 2 ≤ vl.length) :
 Calls Tryz.prog 61 #[.agg #[.slice A n c, .slice B m d, .slice C k e], .slice AV kv cv] w (HlPost N vl w) := by
 have HH := Lib.hid h
 have HV := Lib.hid hv
 have HOK := Lib.hid hok
 have HNK := Lib.hid hN
 have hkl : vl.length = kv := by have := hv.1; simpa [nats] using this
 have hnl : N.vs.length = n := h.1.1
 have hml : N.ar.length = m := h.2.1.1
 have hn4 : n ≤ 4096 := by rw [← hnl]; exact hN.lv
 have hm4 : m ≤ 16384 := by rw [← hml]; exact hN.la
 have hk4 : kv ≤ 4096 := by have := hok.len; omega
 have HPT := Lib.hid (pts_good hN hok h2)
 have HND := Lib.hid hok.nodup
 have HKL := Lib.hid hkl
 have HML := Lib.hid hml
 have HNL := Lib.hid hnl
 rw [hkl] at h2
 clear h hv hok hN hkl hnl hml
 go_enter Tryz.func61, Tryz.ntmps61
 go_wp2_with fail
 (refine wp_named ?_; intro w1 hw1)
 have hb1 : Below w.heap.size w w1 := by rw [hw1]; exact bELt
 have hX1 : Blk w1 w.heap.size 26 #[.slice A n c, .slice B m d, .slice C k e] := by rw [hw1]; exact bLNt
 have HZ1 := Lib.hid hX1.lt
 have HX1 := Lib.hid hX1
 have HB1 := Lib.hid hb1
 clear hw1 hX1 hb1
 go_loopw [6, 8] (fun a q W => Below w1.heap.size w1 W ∧ ∃ (i : Nat) (A1 : Option Addr) (c1 : Nat), i ≤ kv ∧ q = .int .i64 (i : Int) ∧ a = .slice A1 i c1 ∧ Own W w1.heap.size 127 2 A1 i c1 (pcells ((ptsN N vl).take i))) (fun _ q _ => kv - (intOf q).toNat)
 case atStart => exact ⟨Below.refl _ _, 0, none, 0, Nat.zero_le _, rfl, rfl, Own.nil _ _ _ _⟩
 case round =>
  obtain ⟨hbl, i, A1, c1, hi, rfl, rfl, ho⟩ := hrel
  have HBL := Lib.hid hbl
  have HO := Lib.hid ho
  clear hbl ho
  by_cases hlt : i < kv
  · have hbw := Bel.step HB1.out HBL.out
    obtain ⟨vb, vo, x, rfl, hx, cv_⟩ := (HV.out.below hbw).at_ hlt
    obtain ⟨v, rfl, hvi⟩ := nats_getE hx
    have hvn : v < n := by rw [← HNL.out]; exact HOK.out.2 v (List.mem_of_getElem? hvi)
    obtain ⟨t, ht⟩ : ∃ t, N.vs[v]? = some t := ⟨_, List.getElem?_eq_getElem (by rw [HNL.out]; exact hvn)⟩
    obtain ⟨nb, no, rfl, c0, c1_, _⟩ := (HH.out.below hbw).1.2 v t ht
    have hptv : ptN N v = (t.1, t.2.1) := by unfold ptN; rw [ht]
    have HNX := Lib.hid (show pcells ((ptsN N vl).take (i + 1)) = pcells ((ptsN N vl).take i) ++ pcells [(t.1, t.2.1)] by
     have : (ptsN N vl)[i]? = some (t.1, t.2.1) := by unfold ptsN; rw [List.getElem?_map, hvi]; simp [hptv]
     rw [List.take_succ_eq_append_getElem (List.getElem?_eq_some_iff.1 this).1, (List.getElem?_eq_some_iff.1 this).2, pcells_app])
    obtain ⟨tx, ty, tz⟩ := t
    have x0 : wr.cell? ⟨w.heap.size, 0, none⟩ = some (.slice (some ⟨nb, no, none⟩) n c) := by rw [(HX1.out.below HBL.out HX1.out.lt).cell]; rfl
    have i1 : (0 : Int) ≤ (i : Int) := by omega
    have i2 : (i : Int) < (kv : Int) := by omega
    have i3 : (0 : Int) ≤ (v : Int) := by omega
    have i4 : (v : Int) < (n : Int) := by omega
    have HI := Lib.hid hlt
    have HLV := Lib.hid (lt_of_cell cv_)
    have lv : vb < w1.heap.size := by
     obtain ⟨b', o', x', e', _, h'⟩ := (HV.out.below HB1.out).at_ hlt
     cases e'
     exact lt_of_cell h'
    have ln : nb < w1.heap.size := by
     obtain ⟨b', o', e', h', _⟩ := (HH.out.below HB1.out).1.2 v (tx, ty, tz) ht
     cases e'
     exact lt_of_cell h'
    have HSX := Lib.hid (show ∀ V : World, (V.cell? ⟨w.heap.size, 0, none⟩ = some (.slice (some ⟨nb, no, none⟩) n c) ∧ V.cell? ⟨vb, vo + i, none⟩ = some (.int .i64 (v : Int)) ∧ V.cell? ⟨nb, no + v * 3, none⟩ = some (.int .i64 tx) ∧ V.cell? ⟨nb, no + v * 3 + 1, none⟩ = some (.int .i64 ty)) → V.cell? ⟨w.heap.size, 0, none⟩ = some (.slice (some ⟨nb, no, none⟩) n c) ∧ V.cell? ⟨vb, vo + i, none⟩ = some (.int .i64 (v : Int)) ∧ V.cell? ⟨nb, no + v * 3, none⟩ = some (.int .i64 tx) ∧ V.cell? ⟨nb, no + v * 3 + 1, none⟩ = some (.int .i64 ty) ∧ (0 : Int) ≤ (i : Int) ∧ (i : Int) < (kv : Int) ∧ (0 : Int) ≤ (v : Int) ∧ (v : Int) < (n : Int) from fun V hV => ⟨hV.1, hV.2.1, hV.2.2.1, hV.2.2.2, i1, i2, i3, i4⟩)
    clear hx hvi ht hptv
    go_wp2_with fail
    refine wp_region_held_drew (S := fun V => V.cell? ⟨w.heap.size, 0, none⟩ = some (.slice (some ⟨nb, no, none⟩) n c) ∧ V.cell? ⟨vb, vo + i, none⟩ = some (.int .i64 (v : Int)) ∧ V.cell? ⟨nb, no + v * 3, none⟩ = some (.int .i64 tx) ∧ V.cell? ⟨nb, no + v * 3 + 1, none⟩ = some (.int .i64 ty)) (by kernel_rfl) ⟨x0, cv_, c0, c1_⟩ (fun _ => ?_)
    refine tk 0 22 (h := ⟨_, tv, ?_⟩)
    simp only [pE, List.set]
    refine tk 1 23 (h := ⟨_, tv, ?_⟩)
    simp only [pE, List.set]
    refine tk 2 24 (h := ⟨_, tv, ?_⟩)
    simp only [pE, List.set]
    refine tk 3 25 (h := ⟨_, tv, ?_⟩)
    simp only [pE, List.set]
    refine tk 4 26 (h := ⟨_, tv, ?_⟩)
    simp only [pE, List.set]
    refine tk 5 27 (h := ⟨_, tv, ?_⟩)
    simp only [pE, List.set]
    refine tk 6 28 (h := ⟨_, tv, ?_⟩)
    simp only [pE, List.set]
    refine tk 7 29 (h := ⟨_, tv, ?_⟩)
    simp only [pE, List.set]
    refine tk 8 30 (h := ⟨_, tv, ?_⟩)
    simp only [pE, List.set]
    refine tk 9 31 (h := ⟨_, tv, ?_⟩)
    simp only [pE, List.set]
    refine tk 10 32 (h := ⟨_, tv, ?_⟩)
    simp only [pE, List.set]
    refine tk 11 33 (h := ⟨_, tv, ?_⟩)
    simp only [pE, List.set]
    refine tk 12 34 (h := ⟨_, tv, ?_⟩)
    simp only [pE, List.set]
    refine tk 13 35 (h := ⟨_, tv, ?_⟩)
    simp only [pE, List.set]
    refine tk 14 36 (h := ⟨_, tv, ?_⟩)
    simp only [pE, List.set]
    refine tk 15 37 (h := ⟨_, tv, ?_⟩)
    simp only [pE, List.set]
    refine tk 16 38 (h := ⟨_, tv, ?_⟩)
    simp only [pE, List.set]
    refine tk 17 39 (h := ⟨_, tv, ?_⟩)
    simp only [pE, List.set]
    refine tk 18 40 (h := ⟨_, tv, ?_⟩)
    simp only [pE, List.set]
    refine tk 19 41 (h := ⟨_, tv, ?_⟩)
    simp only [pE, List.set]
    refine wpAnyH_ready (rs := [20]) (by kernel_rfl) (by simp) ?_
    refine AllReadyH.cons (o := _) rfl (fun K hK => ?_) AllReadyH.nil
    go_simp
    obtain ⟨W4, hW4⟩ : ∃ W, W = (wr.alloc (.cells #[.int .i64 tx, .int .i64 ty] 127)).drew := ⟨_, rfl⟩
    rw [← hW4]
    have hb4 : Below wr.heap.size wr W4 := by rw [hW4]; exact bELt
    have hrd : Rds W4 2 (some ⟨wr.heap.size, 0, none⟩) 1 (pcells [(tx, ty)]) := by rw [hW4]; exact (Blk.drew (Blk.new wr 127 #[.int .i64 tx, .int .i64 ty])).rds rfl
    have hown := HO.out.below hb4
    have hsz4 : w1.heap.size ≤ W4.heap.size := Nat.le_trans HBL.out.size hb4.size
    have y0 := Below.cellOf hb4 (Nat.le_refl _) x0
    have y1 := Below.cellOf hb4 (Nat.le_refl _) cv_
    have y2 := Below.cellOf hb4 (Nat.le_refl _) c0
    have y3 := Below.cellOf hb4 (Nat.le_refl _) c1_
    have HB4 := Lib.hid (Bel.step HBL.out hb4)
    clear hW4 hb4
    refine hK.out _ _ ⟨y0, y1, y2, y3⟩ (fun _ => ?_)
    clear hK K
    refine wpAnyH_ready (rs := [21]) (by kernel_rfl) (by simp) ?_
    refine AllReadyH.cons (o := _) rfl (fun K hK => ?_) AllReadyH.nil
    with_reducible refine step_app' (some 43) rfl rfl (.tmp 22) (.tmp 42) 123 rfl 127 _ 2 16 infoPairN Tryz.underlying123 rfl (by omega) rfl rfl hown hrd (pcells_one _) (by omega) (by omega) hsz4 ?_
    intro A5 c5 w5 ho5 hg5 hat5
    have hneb : ∀ q, q < w1.heap.size → some q ≠ blkOf A1 := fun q hq e => by have := (hown.lt q e.symm).1; omega
    have HB5 := Lib.hid (Below.grown HB4.out hg5 hsz4 (fun q e => (hown.lt q e).1))
    have HO5 := Lib.hid (show Own w5 w1.heap.size 127 2 A5 (i + 1) c5 (pcells ((ptsN N vl).take (i + 1))) by rw [HNX.out]; exact ho5)
    refine hK.out _ _ ⟨hg5.cell y0 (hneb _ HZ1.out), hg5.cell y1 (hneb _ lv), hg5.cell y2 (hneb _ ln), hg5.cell y3 (hneb _ ln)⟩ (fun _ => ?_)
    clear hK K hown hrd hsz4 y0 y1 y2 y3 ho5 hg5 hat5 hneb
    simp only [Act.put, List.setIfInBounds_toArray, List.set_cons_zero, List.set_cons_succ]
    refine tk 22 6 (h := ⟨_, tv, ?_⟩)
    simp only [pE, List.set]
    refine wpAnyH_done (by kernel_rfl) ?_ _
    go_wp2_with fail
    go_roundw
    case rel => exact ⟨HB5.out, i + 1, A5, c5, by have := HI.out; omega, by go_num, rfl, HO5.out⟩
    case measure => have := HI.out; simp [intOf]; omega
  obtain rfl : kv = i := by omega
  obtain ⟨W0, rfl⟩ : ∃ W, W = wr := ⟨_, rfl⟩
  have HP0 := Lib.hid (show RdP W0 A1 kv (ptsN N vl) from by
   have := HO.out
   rw [List.take_of_length_le (by rw [pts_len, HKL.out]; exact Nat.le_refl _)] at this
   exact this.rds.rdP)
  have HB0 := Lib.hid (Bel.step HB1.out HBL.out)
  have HX0 := Lib.hid (HX1.out.below HBL.out HX1.out.lt)
  have HZ0 := Lib.hid HBL.out.size
  clear hlt hi HO
  go_wp2_with fail
  go_loopw [7, 9] (fun a q W => Below W0.heap.size W0 W ∧ ∃ (i ne : Nat) (A2 : Option Addr) (c2 : Nat), i ≤ m ∧ q = .int .i64 (i : Int) ∧ a = .slice A2 ne c2 ∧ ne = (arcsTo N vl i).length ∧ Own W W0.heap.size 127 2 A2 ne c2 (pcells ((arcsTo N vl i).map (edgOf N vl)))) (fun _ q _ => m - (intOf q).toNat)
  case atStart => exact ⟨Below.refl _ _, 0, 0, none, 0, Nat.zero_le _, rfl, rfl, rfl, Own.nil _ _ _ _⟩
  case round =>
   obtain ⟨hbl, i, ne, A2, c2, hi, rfl, rfl, hne, ho⟩ := hrel
   have HBL2 := Lib.hid hbl
   have HO2 := Lib.hid ho
   have HNE := Lib.hid hne
   have hnm : ne ≤ i := by rw [hne]; exact arcsTo_len N vl i
   have x1 : wr.cell? ⟨w.heap.size, 1, none⟩ = some (.slice B m d) := by rw [(HX0.out.below hbl HX0.out.lt).cell]; rfl
   clear hbl ho hne
   by_cases hlt : i < m
   · have hbw := Bel.step HB0.out HBL2.out
     obtain ⟨t, ht⟩ : ∃ t, N.ar[i]? = some t := ⟨_, List.getElem?_eq_getElem (by rw [HML.out]; exact hlt)⟩
     obtain ⟨eb, eo, rfl, c0, c1_, _⟩ := (HH.out.below hbw).2.1.2 i t ht
     have hao := HNK.out.arcs t (List.mem_of_getElem? ht)
     obtain ⟨tx, ty, tz⟩ := t
     have a0 : 0 ≤ tx := hao.f0
     have b0 : 0 ≤ ty := hao.g0
     have HIN := Lib.hid (inA_at (vl := vl) ht)
     have HT := Lib.hid ht
     have i1 : (0 : Int) ≤ (i : Int) := by omega
     have i2 : (i : Int) < (m : Int) := by omega
     have HI := Lib.hid hlt
     have HPL := Lib.hid (show ∀ x : Int, Calls Tryz.prog 83 #[.slice AV kv cv, .int .i64 x] wr fun e w' => e = .returned (.int .i64 (plI (nats vl) x)) ∧ wr = w' from fun x => place_any AV kv cv (nats vl) x wr (HV.out.below hbw) (by omega))
     have HSU := Lib.hid (arcsTo_succ N vl i)
     clear ht hao hbw hlt
     by_cases hin : tx.toNat ∈ vl ∧ ty.toNat ∈ vl
     · have hpx := plI_nats HND.out a0 hin.1
       have hpy := plI_nats HND.out b0 hin.2
       have HPX := Lib.hid (HPL.out tx)
       have HPY := Lib.hid (HPL.out ty)
       rw [hpx] at HPX
       rw [hpy] at HPY
       have HED := Lib.hid (show edgOf N vl i = ((vl.idxOf tx.toNat : Int), (vl.idxOf ty.toNat : Int)) by unfold edgOf; rw [HT.out])
       have HNX := Lib.hid (show arcsTo N vl (i + 1) = arcsTo N vl i ++ [i] by
        rw [HSU.out, HIN.out, decide_eq_true hin.1, decide_eq_true hin.2]
        rfl)
       generalize vl.idxOf tx.toNat = px at *
       generalize vl.idxOf ty.toNat = py at *
       have g1 : (px : Int) ≥ 0 := by omega
       have g2 : (py : Int) ≥ 0 := by omega
       clear hin hpx hpy HPL HSU HIN
       go_wp2_with fail
       with_reducible refine HPX.out.mono ?_
       rintro r w' ⟨rfl, rfl⟩
       go_wp2_with fail
       with_reducible refine HPY.out.mono ?_
       rintro r w' ⟨rfl, rfl⟩
       obtain ⟨W4, hW4⟩ : ∃ W, W = wr.alloc (.cells #[.int .i64 (px : Int), .int .i64 (py : Int)] 127) := ⟨_, rfl⟩
       have hb4 : Below wr.heap.size wr W4 := by rw [hW4]; exact bELt
       have hrd : Rds W4 2 (some ⟨wr.heap.size, 0, none⟩) 1 (pcells [((px : Int), (py : Int))]) := by rw [hW4]; exact (Blk.new wr 127 #[.int .i64 (px : Int), .int .i64 (py : Int)]).rds rfl
       have hown := HO2.out.below hb4
       have HB4 := Lib.hid (Bel.step HBL2.out hb4)
       have hsz4 : W0.heap.size ≤ W4.heap.size := HB4.out.size
       have HW4 := Lib.hid hW4
       clear hW4 hb4
       go_wp2_with (at_builtin; rw [← HW4.out]; with_reducible refine wpList_app rfl (.tmp 73) (.tmp 77) 123 rfl 127 _ 2 16 infoPairN Tryz.underlying123 rfl (by omega) rfl rfl hown hrd (pcells_one _) (by omega) (by omega) hsz4 ?_)
       intro A5 c5 w5 ho5 hg5 hat5
       have HB5 := Lib.hid (Below.grown HB4.out hg5 hsz4 (fun q e => (hown.lt q e).1))
       have HO5 := Lib.hid (show Own w5 W0.heap.size 127 2 A5 (ne + 1) c5 (pcells ((arcsTo N vl (i + 1)).map (edgOf N vl))) by
        rw [HNX.out, List.map_append, pcells_app]
        rw [show [i].map (edgOf N vl) = [((px : Int), (py : Int))] by simp [HED.out]]
        exact ho5)
       clear hown hrd hsz4 ho5 hg5 hat5
       go_wp2_with fail
       go_roundw
       case rel => exact ⟨HB5.out, i + 1, ne + 1, A5, c5, by have := HI.out; omega, by go_num, rfl, by rw [HNX.out, List.length_append, ← HNE.out]; rfl, HO5.out⟩
       case measure => have := HI.out; simp [intOf]; omega
     · have HNX := Lib.hid (show arcsTo N vl (i + 1) = arcsTo N vl i by
        rw [HSU.out, HIN.out]
        have : (decide (tx.toNat ∈ vl) && decide (ty.toNat ∈ vl)) = false := by
         rw [← Bool.not_eq_true, Bool.and_eq_true, decide_eq_true_eq, decide_eq_true_eq]
         exact hin
        rw [this]
        simp)
       have HPX := Lib.hid (HPL.out tx)
       have HPY := Lib.hid (HPL.out ty)
       have hor : ¬ plI (nats vl) tx ≥ 0 ∨ (plI (nats vl) tx ≥ 0 ∧ ¬ plI (nats vl) ty ≥ 0) := by
        by_cases h1 : tx.toNat ∈ vl
        · have h3 : ty.toNat ∉ vl := fun h => hin ⟨h1, h⟩
          refine .inr ⟨?_, plI_out b0 h3⟩
          rw [plI_nats HND.out a0 h1]
          omega
        · exact .inl (plI_out a0 h1)
       generalize plI (nats vl) tx = px at *
       generalize plI (nats vl) ty = py at *
       clear hin HPL HSU HIN
       rcases hor with g1 | ⟨g1, g2⟩
       all_goals
        go_wp2_with fail
        with_reducible refine HPX.out.mono ?_
        rintro r w' ⟨rfl, rfl⟩
        go_wp2_with fail
        with_reducible refine HPY.out.mono ?_
        rintro r w' ⟨rfl, rfl⟩
        go_wp2_with fail
        go_roundw
        case rel => exact ⟨HBL2.out, i + 1, ne, A2, c2, by have := HI.out; omega, by go_num, rfl, by rw [HNX.out]; exact HNE.out, by rw [HNX.out]; exact HO2.out⟩
        case measure => have := HI.out; simp [intOf]; omega
   obtain rfl : m = i := by omega
   have HE0 := Lib.hid (show RdP wr A2 ne (edgsN N vl) from by
    have := HO2.out.rds.rdP
    unfold edgsN arcsN
    rw [HML.out]
    exact this)
   have HBE := Lib.hid (refBest_any A1 A2 kv ne c1 c2 (ptsN N vl) (edgsN N vl) wr (HP0.out.below HBL2.out) HE0.out HPT.out (by omega) (by omega))
   have HBX := Lib.hid (Bel.step HB0.out HBL2.out)
   clear hlt hi
   go_wp2_with fail
   clear x1
   with_reducible refine HBE.out.mono ?_
   rintro r w6 ⟨AS, n', cS, s, Ls, rfl, hS, hnc, hall, hopt, hb6⟩
   have hbst : IsBest (edgsN N vl) (ptsN N vl) s.side := ⟨Ls, s, hall, hopt, rfl⟩
   have hsd := bestB_eq hbst
   have hfair := hbst.fair (by rw [pts_len, HKL.out]; exact h2)
   rw [pts_len, HKL.out] at hfair
   obtain rfl : n' = kv := by rw [← hS.1]; exact hfair.1
   have HSL := Lib.hid hfair.1
   have HSD := Lib.hid (show sideN N vl = s.side from hsd)
   have HS6 := Lib.hid hS
   have HB6 := Lib.hid (Bel.step HBX.out hb6)
   clear hbst hsd hfair hS hall hopt hb6 HBE
   go_wp2_with fail
   (refine wp_named ?_; intro w7 hw7)
   have hb7 : Below w6.heap.size w6 w7 := by rw [hw7]; exact bELt
   have HQ7 := Lib.hid (show Blk w7 w6.heap.size 166 #[.slice AS n' cS, .int .i64 s.cross, .int .i64 s.dir, .int .i64 s.kind] by rw [hw7]; exact bLNt)
   have HS7 := Lib.hid (HS6.out.below hb7)
   have HB7 := Lib.hid (Bel.step HB6.out hb7)
   clear hw7 hb7
   go_loopw [13, 14, 15] (fun a b q W => Below w7.heap.size w7 W ∧ ∃ (i n3 c3 n4 c4 : Nat) (A3 A4 : Option Addr), i ≤ n' ∧ q = .int .i64 (i : Int) ∧ a = .slice A3 n3 c3 ∧ b = .slice A4 n4 c4 ∧ n3 = (sel true (vl.take i) (s.side.take i)).length ∧ n4 = (sel false (vl.take i) (s.side.take i)).length ∧ Own W w7.heap.size 3 1 A3 n3 c3 (icells (nats (sel true (vl.take i) (s.side.take i)))) ∧ Own W w7.heap.size 3 1 A4 n4 c4 (icells (nats (sel false (vl.take i) (s.side.take i)))) ∧ (∀ q, blkOf A3 = some q → blkOf A4 ≠ some q)) (fun _ _ q _ => n' - (intOf q).toNat)
   case atStart => exact ⟨Below.refl _ _, 0, 0, 0, 0, 0, none, none, Nat.zero_le _, rfl, rfl, rfl, by simp [sel], by simp [sel], by simpa [sel, nats, icells] using Own.nil w7 w7.heap.size 1 3, by simpa [sel, nats, icells] using Own.nil w7 w7.heap.size 1 3, fun q h => by simp [blkOf] at h⟩
   case round =>
    obtain ⟨hbl, i, n3, c3, n4, c4, A3, A4, hi, rfl, rfl, rfl, hn3, hn4', ho3, ho4, hdj⟩ := hrel
    have HBL3 := Lib.hid hbl
    have HO3 := Lib.hid ho3
    have HO4 := Lib.hid ho4
    have HN3 := Lib.hid hn3
    have HN4 := Lib.hid hn4'
    have HDJ0 := Lib.hid hdj
    have hl3 : n3 ≤ i := by rw [hn3]; exact Nat.le_trans (sel_sub true _ _).length_le (List.length_take_le _ _)
    have hl4 : n4 ≤ i := by rw [hn4']; exact Nat.le_trans (sel_sub false _ _).length_le (List.length_take_le _ _)
    have q0 : wr.cell? ⟨w6.heap.size, 0, none⟩ = some (.slice AS n' cS) := by rw [(HQ7.out.below hbl HQ7.out.lt).cell]; rfl
    clear hbl ho3 ho4 hn3 hn4' hdj
    by_cases hlt : i < n'
    · obtain ⟨vb, vo, x, rfl, hx, cv_⟩ := (HV.out.below (Bel.step HB7.out HBL3.out)).at_ hlt
      obtain ⟨v, rfl, hvi⟩ := nats_getE hx
      obtain ⟨sb, so, bv, rfl, hbv, cb⟩ := (HS7.out.below HBL3.out).at_ hlt
      have HST := Lib.hid (fun cc : Bool => sel_take (c := cc) hvi hbv)
      have i1 : (0 : Int) ≤ (i : Int) := by omega
      have i2 : (i : Int) < (n' : Int) := by omega
      have HI := Lib.hid hlt
      have hlv := lt_of_cell cv_
      clear hx hvi hbv hlt
      cases bv with
      | true =>
       have HSX := Lib.hid (show sel true (vl.take (i + 1)) (s.side.take (i + 1)) = sel true (vl.take i) (s.side.take i) ++ [v] by have := HST.out true; simpa using this)
       have HSY := Lib.hid (show sel false (vl.take (i + 1)) (s.side.take (i + 1)) = sel false (vl.take i) (s.side.take i) by have := HST.out false; simpa using this)
       have HAX := Lib.hid HO3.out
       have HBX := Lib.hid HO4.out
       have HDJ := Lib.hid HDJ0.out
       obtain ⟨W4, hW4⟩ : ∃ W, W = wr.alloc (.cells #[.int .i64 (v : Int)] 3) := ⟨_, rfl⟩
       have hb4 : Below wr.heap.size wr W4 := by rw [hW4]; exact bELt
       have hrd : Rds W4 1 (some ⟨wr.heap.size, 0, none⟩) 1 (icells [(v : Int)]) := by rw [hW4]; exact (Blk.new wr 3 #[.int .i64 (v : Int)]).rds rfl
       have hown := HAX.out.below hb4
       have HOT := Lib.hid (HBX.out.below hb4)
       have HB4 := Lib.hid (Bel.step HBL3.out hb4)
       have hsz4 : w7.heap.size ≤ W4.heap.size := HB4.out.size
       have HZ4 := Lib.hid (show wr.heap.size ≤ W4.heap.size from hb4.size)
       have HLTB := Lib.hid HBX.out.lt
       have HW4 := Lib.hid hW4
       clear hW4 hb4
       go_wp2_with (at_builtin; rw [← HW4.out]; with_reducible refine wpList_app rfl (.tmp 93) (.tmp 98) 27 rfl 3 _ 1 8 infoInt Tryz.underlying27 rfl (by omega) rfl rfl hown hrd (icells_one _) (by omega) (by omega) hsz4 ?_)
       intro A9 c9 w9 ho9 hg9 hat9
       have HB9 := Lib.hid (Below.grown HB4.out hg9 hsz4 (fun q e => (hown.lt q e).1))
       have HOT9 := Lib.hid (HOT.out.far hg9 (by
        cases e : blkOf A4 with
        | none => exact .inl rfl
        | some q => exact .inr (fun e2 => HDJ.out q (by first | exact e2.symm | exact e) (by first | exact e | exact e2.symm))))
       have HO9 := Lib.hid (show Own w9 w7.heap.size 3 1 A9 (n3 + 1) c9 (icells (nats (sel true (vl.take (i + 1)) (s.side.take (i + 1))))) by rw [HSX.out, nats_snoc]; exact ho9)
       have HDJ9 := Lib.hid (show ∀ q, blkOf A9 = some q → blkOf A4 ≠ some q from fun q hq e => by
        rcases hat9 with e1 | e1
        · rw [e1] at hq
          exact HDJ.out q (by first | exact hq | exact e) (by first | exact e | exact hq)
        · rw [e1] at hq
          injection hq with hq
          have := (HLTB.out q e).2
          have := HZ4.out
          omega)
       clear hown hrd hsz4 ho9 hg9 hat9
       go_wp2_with fail
       go_roundw
       case rel => exact ⟨HB9.out, i + 1, n3 + 1, c9, n4, c4, A9, A4, by have := HI.out; omega, by go_num, rfl, rfl, by rw [HSX.out, List.length_append, ← HN3.out]; rfl, by rw [HSY.out]; exact HN4.out, HO9.out, by rw [HSY.out]; exact HOT9.out, HDJ9.out⟩
       case measure => have := HI.out; simp [intOf]; omega
      | false =>
       have HSX := Lib.hid (show sel false (vl.take (i + 1)) (s.side.take (i + 1)) = sel false (vl.take i) (s.side.take i) ++ [v] by have := HST.out false; simpa using this)
       have HSY := Lib.hid (show sel true (vl.take (i + 1)) (s.side.take (i + 1)) = sel true (vl.take i) (s.side.take i) by have := HST.out true; simpa using this)
       have HAX := Lib.hid HO4.out
       have HBX := Lib.hid HO3.out
       have HDJ := Lib.hid HDJ0.out
       obtain ⟨W4, hW4⟩ : ∃ W, W = wr.alloc (.cells #[.int .i64 (v : Int)] 3) := ⟨_, rfl⟩
       have hb4 : Below wr.heap.size wr W4 := by rw [hW4]; exact bELt
       have hrd : Rds W4 1 (some ⟨wr.heap.size, 0, none⟩) 1 (icells [(v : Int)]) := by rw [hW4]; exact (Blk.new wr 3 #[.int .i64 (v : Int)]).rds rfl
       have hown := HAX.out.below hb4
       have HOT := Lib.hid (HBX.out.below hb4)
       have HB4 := Lib.hid (Bel.step HBL3.out hb4)
       have hsz4 : w7.heap.size ≤ W4.heap.size := HB4.out.size
       have HZ4 := Lib.hid (show wr.heap.size ≤ W4.heap.size from hb4.size)
       have HLTB := Lib.hid HBX.out.lt
       have HW4 := Lib.hid hW4
       clear hW4 hb4
       go_wp2_with (at_builtin; rw [← HW4.out]; with_reducible refine wpList_app rfl (.tmp 100) (.tmp 105) 27 rfl 3 _ 1 8 infoInt Tryz.underlying27 rfl (by omega) rfl rfl hown hrd (icells_one _) (by omega) (by omega) hsz4 ?_)
       intro A9 c9 w9 ho9 hg9 hat9
       have HB9 := Lib.hid (Below.grown HB4.out hg9 hsz4 (fun q e => (hown.lt q e).1))
       have HOT9 := Lib.hid (HOT.out.far hg9 (by
        cases e : blkOf A3 with
        | none => exact .inl rfl
        | some q => exact .inr (fun e2 => HDJ.out q (by first | exact e2.symm | exact e) (by first | exact e | exact e2.symm))))
       have HO9 := Lib.hid (show Own w9 w7.heap.size 3 1 A9 (n4 + 1) c9 (icells (nats (sel false (vl.take (i + 1)) (s.side.take (i + 1))))) by rw [HSX.out, nats_snoc]; exact ho9)
       have HDJ9 := Lib.hid (show ∀ q, blkOf A9 = some q → blkOf A3 ≠ some q from fun q hq e => by
        rcases hat9 with e1 | e1
        · rw [e1] at hq
          exact HDJ.out q (by first | exact hq | exact e) (by first | exact e | exact hq)
        · rw [e1] at hq
          injection hq with hq
          have := (HLTB.out q e).2
          have := HZ4.out
          omega)
       clear hown hrd hsz4 ho9 hg9 hat9
       go_wp2_with fail
       go_roundw
       case rel => exact ⟨HB9.out, i + 1, n3, c3, n4 + 1, c9, A3, A9, by have := HI.out; omega, by go_num, rfl, rfl, by rw [HSY.out]; exact HN3.out, by rw [HSX.out, List.length_append, ← HN4.out]; rfl, by rw [HSY.out]; exact HOT9.out, HO9.out, fun q h1 h2 => HDJ9.out q h2 h1⟩
       case measure => have := HI.out; simp [intOf]; omega
    obtain rfl : i = n' := by omega
    have e1 : vl.take i = vl := List.take_of_length_le (by rw [HKL.out]; exact Nat.le_refl _)
    have e2 : s.side.take i = s.side := List.take_of_length_le (by rw [HSL.out]; exact Nat.le_refl _)
    have e3 : sel true vl s.side = hlf N true vl := by unfold hlf; rw [HSD.out]
    have e4 : sel false vl s.side = hlf N false vl := by unfold hlf; rw [HSD.out]
    rw [e1, e2, e3] at HN3 HO3
    rw [e1, e2, e4] at HN4 HO4
    have HR3 := Lib.hid HO3.out.rds.rdI
    have HR4 := Lib.hid HO4.out.rds.rdI
    have HEN := Lib.hid (Bel.step HB7.out HBL3.out)
    clear e1 e2 e3 e4
    go_wp2_with fail
    go_ret2
    obtain rfl := HN3.out
    obtain rfl := HN4.out
    exact ⟨A3, c3, A4, c4, rfl, HR3.out, HR4.out, HEN.out⟩
end Go.Proofs.YtpffhoefmcpniaaGreatDoor
