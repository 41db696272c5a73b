/- Parts of the proof: Ne4. -/
import Derived.Test.YtpffhoefmcpniaaGreatDoorB1
import Derived.Test.YtpffhoefmcpniaaGreatDoorB30
namespace Go.Proofs.YtpffhoefmcpniaaGreatDoor
open Go.RowKit

attribute [local go_sem ↓] Go.wp_at_zero Go.wp_at_succ

theorem nats_snoc (l : List Nat) (k : Nat) : icells (nats (l ++ [k])) = icells (nats l) ++ icells [(k : Int)] := by rw [nats_app, icells_app]; rfl
theorem inA_at {N : NetD} {vl : List Nat} {k : Nat} {x : Tri} (h : N.ar[k]? = some x) : inA N vl k = (decide (x.1.toNat ∈ vl) && decide (x.2.1.toNat ∈ vl)) := by
 unfold inA; rw [h]
theorem ends_at {N : NetD} {k : Nat} {p : Int × Int} (h : (N.ar.map (fun a => (a.1, a.2.1)))[k]? = some p) : ∃ x, N.ar[k]? = some x ∧ p = (x.1, x.2.1) := by
 rw [List.getElem?_map] at h
 cases hx : N.ar[k]? with
 | none => rw [hx] at h; cases h
 | some x => rw [hx] at h; cases h; exact ⟨x, rfl, rfl⟩
set_option maxHeartbeats 4000000 in
set_option maxRecDepth 20000 in
theorem cWhole_ok (gc cp ce cl : Nat) (AP AE AL AV : Option Addr) (cs : List Value) (N : NetD) (k cv : Nat) (vl : List Nat) (w : World) (h : CtV w gc AP AE AL cp ce cl cs N) (hv : RdI w AV k (nats vl)) (hA : ∀ g, 0 < k → blkOf AV = some g → blkOf AL ≠ some g) (hok : PcOk N.vs.length vl) (hN : NetOk N) :
 Calls Tryz.prog 34 #[.pointer (some ⟨gc, 0, none⟩), .slice AV k cv] w fun e w' => ∃ A1 c1 A2 c2, e = .returned (.agg #[.slice A1 vl.length c1, .slice A2 (arcsN N vl).length c2]) ∧ RdPc N AL w' A1 A2 c1 c2 vl ∧ (∀ g, blkOf A1 = some g ∨ blkOf A2 = some g → w.heap.size ≤ g ∧ g < w'.heap.size) ∧ Below w.heap.size w w' := by
 have HV := Lib.hid hv
 have HA := Lib.hid hA
 have HOK := Lib.hid hok
 have HH := Lib.hid h
 have HNK := Lib.hid hN
 have HL := Lib.hid (show k = vl.length by rw [← hv.1, nats_len])
 have hn4 := hN.lv
 have hm4 := hN.la
 have hk4 : k ≤ 4096 := by have := HL.out; have := hok.len; omega
 obtain ⟨w1, hw1⟩ : ∃ w1, w1 = w.alloc (.cells #[.slice none 0 0, .slice none 0 0] 87) := ⟨_, rfl⟩
 have hb1 : Below w.heap.size w w1 := by rw [hw1]; exact bELt
 have hR1 : Blk w1 w.heap.size 87 #[.slice none 0 0, .slice none 0 0] := by rw [hw1]; exact bLNt
 have HW1 := Lib.hid hw1
 have hrd := (hv.below hb1).rdsI
 have hown := Own.nil w1 w1.heap.size 1 3
 clear h hv hA hok hw1 hN
 go_enter Tryz.func34, Tryz.ntmps34
 go_wp2_with (at_builtin; rw [← HW1.out]; with_reducible refine wpList_app rfl (.const (.slice none 0 0)) (.tmp 10) 27 rfl 3 _ 1 8 infoInt Tryz.underlying27 rfl (by omega) rfl rfl hown hrd (icells_one _) (by omega) (by omega) (Nat.le_refl _) ?_)
 intro A' c' w2 ho2 hg2 _
 have hb2 := Bel.grownOwn (Below.refl w1.heap.size w1) hg2 hown (Nat.le_refl _)
 try simp only [Nat.zero_add, List.nil_append] at ho2
 have HO2 := Lib.hid ho2
 have HR2 := Lib.hid (hR1.below hb2 hR1.lt)
 have HB2 := Lib.hid (Bel.step hb1 hb2)
 have HZ1 := Lib.hid (show w.heap.size < w1.heap.size from hR1.lt)
 have HZ2 := Lib.hid hb2.size
 clear hown hrd ho2 hg2 hb2 hb1 hR1 HW1
 try simp only [Nat.zero_add]
 go_wp2_with fail
 (refine wp_named ?_; intro w3 hw3)
 have hb3 : Below w2.heap.size w2 w3 := by rw [hw3]; exact bELt
 have HP3 := Lib.hid (show Blk w3 w2.heap.size 87 #[.slice A' k c', .slice none 0 0] by rw [hw3]; exact bLNt)
 clear hw3
 obtain ⟨g5, hg5⟩ : ∃ g, g = w2.heap.size := ⟨_, rfl⟩
 rw [← hg5] at HP3 ⊢
 have HG5 := Lib.hid hg5
 have HW3 := Lib.hid (show w.heap.size < w3.heap.size by have := HP3.out.lt; have := HZ1.out; have := HZ2.out; omega)
 clear hg5
 have HB3 := Lib.hid (Bel.step HB2.out hb3)
 have HR3 := Lib.hid (HR2.out.below hb3 HR2.out.lt)
 have HO3 := Lib.hid (HO2.out.below hb3)
 have HC3 := Lib.hid (HH.out.below HB3.out)
 have HV3 := Lib.hid (HV.out.below HB3.out)
 clear hb3 HB2 HR2
 go_loopw [15] (fun q W => w3.grownBy W (blkOf AL) ∧ ∃ j : Nat, j ≤ k ∧ q = .int .i64 (j : Int) ∧ CtL W gc AP AE AL cp ce cl cs N (plcL N.vs.length vl j)) (fun q _ => k - (intOf q).toNat)
 case atStart => exact ⟨World.grownBy.refl _ _, 0, Nat.zero_le _, rfl, by rw [plcL_zero]; exact HC3.out⟩
 case round =>
  obtain ⟨hg, j, hj, rfl, hC⟩ := hrel
  have HC := Lib.hid hC
  have HGR := Lib.hid hg
  clear hC hg
  by_cases hlt : j < k
  · obtain ⟨b, o, x, rfl, hx, hc⟩ := HV3.out.at_ hlt
    obtain ⟨v, hv, rfl⟩ := nats_inv hx
    have hvn := HOK.out.2 v (List.mem_of_getElem? hv)
    have hcW := HGR.out.cell hc (fun e => HA.out b (by omega) rfl e.symm)
    obtain ⟨gl, y, hy, hAL, cy, fy, gy, hset⟩ := HC.out.at_ hvn
    have p2 : wr.cell? ⟨gc, 2, none⟩ = some (.slice (some ⟨gl, 0, none⟩) N.vs.length cl) := by rw [HC.out.blk.cell, hAL]; rfl
    have HS := Lib.hid (show CtL (wr.setCell ⟨gl, v, none⟩ (.int .i64 (j : Int))) gc AP AE AL cp ce cl cs N (plcL N.vs.length vl (j + 1)) by rw [← plcL_next HOK.out.nodup hv hvn]; exact hset (j : Int))
    have HG2 := Lib.hid (show w3.grownBy (wr.setCell ⟨gl, v, none⟩ (.int .i64 (j : Int))) (blkOf AL) from HGR.out.trans (by rw [hAL]; exact grownBy_set wr gl v _))
    have i1 : (j : Int) < (k : Int) := by omega
    have i2 : (0 : Int) ≤ (j : Int) := by omega
    have i3 : (0 : Int) ≤ (v : Int) := by omega
    have i4 : (v : Int) < (N.vs.length : Int) := by omega
    clear hx hc hv hy hset hAL
    go_wp2_with fail
    go_roundw
    case rel => exact ⟨HG2.out, j + 1, by omega, by go_num, HS.out⟩
    case measure => simp [intOf]; omega
  obtain rfl : k = j := by omega
  clear hlt hj
  obtain ⟨w5, hw5⟩ : ∃ W, W = wr := ⟨_, rfl⟩
  subst hw5
  have HC5 := Lib.hid (show CtL w5 gc AP AE AL cp ce cl cs N (plcL N.vs.length vl vl.length) by have := HC.out; rw [HL.out] at this; exact this)
  have HAL := Lib.hid (show ∀ g, w.heap.size ≤ g → blkOf AL ≠ some g from fun g hg => (HH.out.new hg).2.2.2)
  have hPlt := HP3.out.lt
  have HP5 := Lib.hid (HP3.out.grown HGR.out (HAL.out g5 (by have := HG5.out; have := HZ1.out; have := HZ2.out; omega)))
  have HR5 := Lib.hid (HR3.out.grown HGR.out (HAL.out w.heap.size (Nat.le_refl _)))
  have HO5 := Lib.hid (HO3.out.far HGR.out (by
   cases e : blkOf A' with
   | none => exact .inl rfl
   | some q => exact .inr (fun e2 => HAL.out q (by have := (HO3.out.lt q e).1; have := HZ1.out; omega) e2.symm)))
  have HV5 := Lib.hid (HV3.out.grownX HGR.out (fun g h0 hg => HA.out g h0 hg))
  have p1 : w5.cell? ⟨gc, 1, none⟩ = some (.slice AE N.ar.length ce) := by rw [HC5.out.blk.cell]; rfl
  clear HC HC3 HP3 HR3 HO3 HV3 hPlt
  go_wp2_with fail
  go_loopw [33] (fun q W => w5.grownBy W (some g5) ∧ ∃ (i : Nat) (AA : Option Addr) (ca : Nat), i ≤ N.ar.length ∧ q = .int .i64 (i : Int) ∧ CtL W gc AP AE AL cp ce cl cs N (plcL N.vs.length vl vl.length) ∧ Blk W g5 87 #[.slice A' k c', .slice AA (arcsTo N vl i).length ca] ∧ Own W w5.heap.size 3 1 AA (arcsTo N vl i).length ca (icells (nats (arcsTo N vl i)))) (fun q _ => N.ar.length - (intOf q).toNat)
  case atStart => exact ⟨World.grownBy.refl _ _, 0, none, 0, Nat.zero_le _, rfl, HC5.out, HP5.out, Own.nil _ _ _ _⟩
  case round =>
   clear p1
   obtain ⟨hg, i, AA, ca, hi, rfl, hC, hP, hO⟩ := hrel
   have HC := Lib.hid hC
   have HGR2 := Lib.hid hg
   have HP := Lib.hid hP
   have HO := Lib.hid hO
   clear hC hg hP hO
   by_cases hlt : i < N.ar.length
   · obtain ⟨b, o, x, y, hAE, hx, cx, cy⟩ := HC.out.ends.at_ hlt
     obtain ⟨t, ht, e⟩ := ends_at hx
     obtain ⟨rfl, rfl⟩ : t.1 = x ∧ t.2.1 = y := by cases e; exact ⟨rfl, rfl⟩
     have hao := HNK.out.arcs t (List.mem_of_getElem? ht)
     obtain ⟨u, hu⟩ : ∃ u : Nat, t.1 = u := ⟨t.1.toNat, by have := hao.f0; omega⟩
     obtain ⟨v, hv⟩ : ∃ v : Nat, t.2.1 = v := ⟨t.2.1.toNat, by have := hao.g0; omega⟩
     have hun : u < N.vs.length := by have := hao.f1; omega
     have hvn : v < N.vs.length := by have := hao.g1; omega
     have hin := inA_at (vl := vl) ht
     rw [hu] at cx
     rw [hv] at cy
     rw [hu, hv] at hin
     simp only [Int.toNat_natCast] at hin
     have HNX := Lib.hid (arcsTo_succ N vl i)
     rw [hin] at HNX
     obtain ⟨gl, z, hz, hAL, cz, fz, gz, _⟩ := HC.out.at_ hun
     obtain ⟨gl', z', hz', hAL', cz', fz', gz', _⟩ := HC.out.at_ hvn
     rw [hAL] at hAL'
     cases hAL'
     rw [plcL_full hun] at hz
     rw [plcL_full hvn] at hz'
     have p2 : wr.cell? ⟨gc, 2, none⟩ = some (.slice (some ⟨gl, 0, none⟩) N.vs.length cl) := by rw [HC.out.blk.cell, hAL]; rfl
     have i1 : (i : Int) < (N.ar.length : Int) := by omega
     have i2 : (0 : Int) ≤ (i : Int) := by omega
     have i3 : (0 : Int) ≤ (u : Int) := by omega
     have i4 : (u : Int) < (N.vs.length : Int) := by omega
     have i5 : (0 : Int) ≤ (v : Int) := by omega
     have i6 : (v : Int) < (N.vs.length : Int) := by omega
     have hkl : (arcsTo N vl i).length ≤ i := arcsTo_len N vl i
     subst hAE
     have HALE := Lib.hid hAL
     clear hx ht e hao hu hv hin hAL gz gz'
     by_cases hum : u ∈ vl
     rotate_left
     · rw [if_neg hum] at hz
       injection hz with hz
       subst hz
       have HN2 := Lib.hid (show arcsTo N vl (i + 1) = arcsTo N vl i by rw [HNX.out]; simp [hum])
       clear hz' HNX hum
       go_wp2_with fail
       (refine wp_named ?_; intro w7 hw7)
       have hb7 : Below wr.heap.size wr w7 := by rw [hw7]; exact bELt
       have HT7 := Lib.hid (show Blk w7 wr.heap.size 127 #[.int .i64 (u : Int), .int .i64 (v : Int)] by rw [hw7]; exact bLNt)
       clear hw7
       have HC7 := Lib.hid (HC.out.below hb7)
       have HG7 := Lib.hid (grown_below HGR2.out hb7)
       have HP7 := Lib.hid (HP.out.below hb7 HP.out.lt)
       have HO7 := Lib.hid (HO.out.below hb7)
       have c7 := Below.cellOf hb7 (Nat.le_refl _) cz
       have c7' := Below.cellOf hb7 (Nat.le_refl _) cz'
       have p7 := Below.cellOf hb7 (Nat.le_refl _) p2
       clear HC HGR2 HP HO cz cz' p2 cx cy hb7 fz fz'
       obtain ⟨e0, e1⟩ := HT7.out.two.1, HT7.out.two.2.1
       have HSX := Lib.hid (show ∀ V, Below w7.heap.size w7 V → V.cell? ⟨gc, 2, none⟩ = some (.slice (some ⟨gl, 0, none⟩) N.vs.length cl) ∧ V.cell? ⟨wr.heap.size, 0, none⟩ = some (.int .i64 (u : Int)) ∧ V.cell? ⟨gl, u, none⟩ = some (.int .i64 (-1)) ∧ decide ((-1 : Int) ≥ 0) = false from fun V hV => ⟨Below.cellOf hV (Nat.le_refl _) p7, Below.cellOf hV (Nat.le_refl _) e0, Below.cellOf hV (Nat.le_refl _) c7, by decide⟩)
       clear p7 c7 c7' e0 e1
       refine wp_region_held_drew (S := fun V => Below w7.heap.size w7 V) (by kernel_rfl) (Below.refl _ _).drew (fun _ => ?_)
       refine tk 0 38 (h := ⟨_, tv, ?_⟩)
       simp only [pE, List.set]
       refine tk 1 39 (h := ⟨_, tv, ?_⟩)
       simp only [pE, List.set]
       refine tk 2 40 (h := ⟨_, tv, ?_⟩)
       simp only [pE, List.set]
       refine tk 3 41 (h := ⟨_, tv, ?_⟩)
       simp only [pE, List.set]
       refine tk 4 42 (h := ⟨_, tv, ?_⟩)
       simp only [pE, List.set]
       refine tk 5 43 (h := ⟨_, tv, ?_⟩)
       simp only [pE, List.set]
       refine tk 6 44 (h := ⟨_, tv, ?_⟩)
       simp only [pE, List.set]
       refine tk 7 45 (h := ⟨_, tv, ?_⟩)
       simp only [pE, List.set]
       refine tk 8 46 (h := ⟨_, tv, ?_⟩)
       simp only [pE, List.set]
       refine tk 9 47 (h := ⟨_, tv, ?_⟩)
       simp only [pE, List.set]
       refine tu 10 48 (h := ?_)
       simp only [pE, List.set]
       refine tu 11 49 (h := ?_)
       simp only [pE, List.set]
       refine tu 12 50 (h := ?_)
       simp only [pE, List.set]
       refine tu 13 51 (h := ?_)
       simp only [pE, List.set]
       refine tu 14 52 (h := ?_)
       simp only [pE, List.set]
       refine tu 15 53 (h := ?_)
       simp only [pE, List.set]
       refine tu 16 54 (h := ?_)
       simp only [pE, List.set]
       refine tu 17 55 (h := ?_)
       simp only [pE, List.set]
       refine tu 18 56 (h := ?_)
       simp only [pE, List.set]
       refine tk 19 57 (h := ⟨_, tv, ?_⟩)
       simp only [pE, List.set]
       refine wpAnyH_done (by kernel_rfl) ?_ _
       obtain ⟨W8, hW8⟩ : ∃ W, W = w7.drew := ⟨_, rfl⟩
       rw [← hW8]
       have HG8 := Lib.hid (show w5.grownBy W8 (some g5) by rw [hW8]; exact grown_below HG7.out (Below.refl _ _).drew)
       have HC8 := Lib.hid (show CtL W8 gc AP (some ⟨b, o, none⟩) AL cp ce cl cs N (plcL N.vs.length vl vl.length) by rw [hW8]; exact HC7.out.below (Below.refl _ _).drew)
       have HP8 := Lib.hid (show Blk W8 g5 87 #[.slice A' k c', .slice AA (arcsTo N vl i).length ca] by rw [hW8]; exact HP7.out)
       have HO8 := Lib.hid (show Own W8 w5.heap.size 3 1 AA (arcsTo N vl i).length ca (icells (nats (arcsTo N vl i))) by rw [hW8]; exact HO7.out)
       clear hW8 HG7 HC7 HP7 HO7 HSX
       go_wp2_with fail
       go_roundw
       case rel => exact ⟨HG8.out, i + 1, AA, ca, by omega, by go_num, HC8.out, by rw [HN2.out]; exact HP8.out, by rw [HN2.out]; exact HO8.out⟩
       case measure => simp [intOf]; omega
     rw [if_pos hum] at hz
     injection hz with hz
     subst hz
     generalize vl.idxOf u = pu at *
     by_cases hvm : v ∈ vl
     rotate_left
     · rw [if_neg hvm] at hz'
       injection hz' with hz'
       subst hz'
       have HN2 := Lib.hid (show arcsTo N vl (i + 1) = arcsTo N vl i by rw [HNX.out]; simp [hvm])
       clear HNX hum hvm
       go_wp2_with fail
       (refine wp_named ?_; intro w7 hw7)
       have hb7 : Below wr.heap.size wr w7 := by rw [hw7]; exact bELt
       have HT7 := Lib.hid (show Blk w7 wr.heap.size 127 #[.int .i64 (u : Int), .int .i64 (v : Int)] by rw [hw7]; exact bLNt)
       clear hw7
       have HC7 := Lib.hid (HC.out.below hb7)
       have HG7 := Lib.hid (grown_below HGR2.out hb7)
       have HP7 := Lib.hid (HP.out.below hb7 HP.out.lt)
       have HO7 := Lib.hid (HO.out.below hb7)
       have c7 := Below.cellOf hb7 (Nat.le_refl _) cz
       have c7' := Below.cellOf hb7 (Nat.le_refl _) cz'
       have p7 := Below.cellOf hb7 (Nat.le_refl _) p2
       clear HC HGR2 HP HO cz cz' p2 cx cy hb7 fz fz'
       obtain ⟨e0, e1⟩ := HT7.out.two.1, HT7.out.two.2.1
       have HSX := Lib.hid (show ∀ V, Below w7.heap.size w7 V → V.cell? ⟨gc, 2, none⟩ = some (.slice (some ⟨gl, 0, none⟩) N.vs.length cl) ∧ V.cell? ⟨wr.heap.size, 0, none⟩ = some (.int .i64 (u : Int)) ∧ V.cell? ⟨wr.heap.size, 1, none⟩ = some (.int .i64 (v : Int)) ∧ V.cell? ⟨gl, u, none⟩ = some (.int .i64 (pu : Int)) ∧ V.cell? ⟨gl, v, none⟩ = some (.int .i64 (-1)) ∧ decide ((pu : Int) ≥ 0) = true ∧ decide ((-1 : Int) ≥ 0) = false from fun V hV => ⟨Below.cellOf hV (Nat.le_refl _) p7, Below.cellOf hV (Nat.le_refl _) e0, Below.cellOf hV (Nat.le_refl _) e1, Below.cellOf hV (Nat.le_refl _) c7, Below.cellOf hV (Nat.le_refl _) c7', decide_eq_true (by omega), by decide⟩)
       clear p7 c7 c7' e0 e1
       refine wp_region_held_drew (S := fun V => Below w7.heap.size w7 V) (by kernel_rfl) (Below.refl _ _).drew (fun _ => ?_)
       refine tk 0 38 (h := ⟨_, tv, ?_⟩)
       simp only [pE, List.set]
       refine tk 1 39 (h := ⟨_, tv, ?_⟩)
       simp only [pE, List.set]
       refine tk 2 40 (h := ⟨_, tv, ?_⟩)
       simp only [pE, List.set]
       refine tk 3 41 (h := ⟨_, tv, ?_⟩)
       simp only [pE, List.set]
       refine tk 4 42 (h := ⟨_, tv, ?_⟩)
       simp only [pE, List.set]
       refine tk 5 43 (h := ⟨_, tv, ?_⟩)
       simp only [pE, List.set]
       refine tk 6 44 (h := ⟨_, tv, ?_⟩)
       simp only [pE, List.set]
       refine tk 7 45 (h := ⟨_, tv, ?_⟩)
       simp only [pE, List.set]
       refine tk 8 46 (h := ⟨_, tv, ?_⟩)
       simp only [pE, List.set]
       refine tk 9 47 (h := ⟨_, tv, ?_⟩)
       simp only [pE, List.set]
       refine tk 10 48 (h := ⟨_, tv, ?_⟩)
       simp only [pE, List.set]
       refine tk 11 49 (h := ⟨_, tv, ?_⟩)
       simp only [pE, List.set]
       refine tk 12 50 (h := ⟨_, tv, ?_⟩)
       simp only [pE, List.set]
       refine tk 13 51 (h := ⟨_, tv, ?_⟩)
       simp only [pE, List.set]
       refine tk 14 52 (h := ⟨_, tv, ?_⟩)
       simp only [pE, List.set]
       refine tk 15 53 (h := ⟨_, tv, ?_⟩)
       simp only [pE, List.set]
       refine tk 16 54 (h := ⟨_, tv, ?_⟩)
       simp only [pE, List.set]
       refine tk 17 55 (h := ⟨_, tv, ?_⟩)
       simp only [pE, List.set]
       refine tk 18 56 (h := ⟨_, tv, ?_⟩)
       simp only [pE, List.set]
       refine tk 19 57 (h := ⟨_, tv, ?_⟩)
       simp only [pE, List.set]
       refine wpAnyH_done (by kernel_rfl) ?_ _
       obtain ⟨W8, hW8⟩ : ∃ W, W = w7.drew := ⟨_, rfl⟩
       rw [← hW8]
       have HG8 := Lib.hid (show w5.grownBy W8 (some g5) by rw [hW8]; exact grown_below HG7.out (Below.refl _ _).drew)
       have HC8 := Lib.hid (show CtL W8 gc AP (some ⟨b, o, none⟩) AL cp ce cl cs N (plcL N.vs.length vl vl.length) by rw [hW8]; exact HC7.out.below (Below.refl _ _).drew)
       have HP8 := Lib.hid (show Blk W8 g5 87 #[.slice A' k c', .slice AA (arcsTo N vl i).length ca] by rw [hW8]; exact HP7.out)
       have HO8 := Lib.hid (show Own W8 w5.heap.size 3 1 AA (arcsTo N vl i).length ca (icells (nats (arcsTo N vl i))) by rw [hW8]; exact HO7.out)
       clear hW8 HG7 HC7 HP7 HO7 HSX
       go_wp2_with fail
       go_roundw
       case rel => exact ⟨HG8.out, i + 1, AA, ca, by omega, by go_num, HC8.out, by rw [HN2.out]; exact HP8.out, by rw [HN2.out]; exact HO8.out⟩
       case measure => simp [intOf]; omega
     rw [if_pos hvm] at hz'
     injection hz' with hz'
     subst hz'
     generalize vl.idxOf v = pv at *
     have HN2 := Lib.hid (show arcsTo N vl (i + 1) = arcsTo N vl i ++ [i] by rw [HNX.out]; simp [hum, hvm])
     clear HNX hum hvm
     go_wp2_with fail
     (refine wp_named ?_; intro w7 hw7)
     have hb7 : Below wr.heap.size wr w7 := by rw [hw7]; exact bELt
     have HT7 := Lib.hid (show Blk w7 wr.heap.size 127 #[.int .i64 (u : Int), .int .i64 (v : Int)] by rw [hw7]; exact bLNt)
     clear hw7
     have HC7 := Lib.hid (HC.out.below hb7)
     have HG7 := Lib.hid (grown_below HGR2.out hb7)
     have HP7 := Lib.hid (HP.out.below hb7 HP.out.lt)
     have HO7 := Lib.hid (HO.out.below hb7)
     have c7 := Below.cellOf hb7 (Nat.le_refl _) cz
     have c7' := Below.cellOf hb7 (Nat.le_refl _) cz'
     have p7 := Below.cellOf hb7 (Nat.le_refl _) p2
     clear HC HGR2 HP HO cz cz' p2 cx cy hb7 fz fz'
     obtain ⟨e0, e1⟩ := HT7.out.two.1, HT7.out.two.2.1
     have HSX := Lib.hid (show ∀ V, Below w7.heap.size w7 V → V.cell? ⟨gc, 2, none⟩ = some (.slice (some ⟨gl, 0, none⟩) N.vs.length cl) ∧ V.cell? ⟨wr.heap.size, 0, none⟩ = some (.int .i64 (u : Int)) ∧ V.cell? ⟨wr.heap.size, 1, none⟩ = some (.int .i64 (v : Int)) ∧ V.cell? ⟨gl, u, none⟩ = some (.int .i64 (pu : Int)) ∧ V.cell? ⟨gl, v, none⟩ = some (.int .i64 (pv : Int)) ∧ decide ((pu : Int) ≥ 0) = true ∧ decide ((pv : Int) ≥ 0) = true from fun V hV => ⟨Below.cellOf hV (Nat.le_refl _) p7, Below.cellOf hV (Nat.le_refl _) e0, Below.cellOf hV (Nat.le_refl _) e1, Below.cellOf hV (Nat.le_refl _) c7, Below.cellOf hV (Nat.le_refl _) c7', decide_eq_true (by omega), decide_eq_true (by omega)⟩)
     clear p7 c7 c7' e0 e1
     refine wp_region_held_drew (S := fun V => Below w7.heap.size w7 V) (by kernel_rfl) (Below.refl _ _).drew (fun _ => ?_)
     refine tk 0 38 (h := ⟨_, tv, ?_⟩)
     simp only [pE, List.set]
     refine tk 1 39 (h := ⟨_, tv, ?_⟩)
     simp only [pE, List.set]
     refine tk 2 40 (h := ⟨_, tv, ?_⟩)
     simp only [pE, List.set]
     refine tk 3 41 (h := ⟨_, tv, ?_⟩)
     simp only [pE, List.set]
     refine tk 4 42 (h := ⟨_, tv, ?_⟩)
     simp only [pE, List.set]
     refine tk 5 43 (h := ⟨_, tv, ?_⟩)
     simp only [pE, List.set]
     refine tk 6 44 (h := ⟨_, tv, ?_⟩)
     simp only [pE, List.set]
     refine tk 7 45 (h := ⟨_, tv, ?_⟩)
     simp only [pE, List.set]
     refine tk 8 46 (h := ⟨_, tv, ?_⟩)
     simp only [pE, List.set]
     refine tk 9 47 (h := ⟨_, tv, ?_⟩)
     simp only [pE, List.set]
     refine tk 10 48 (h := ⟨_, tv, ?_⟩)
     simp only [pE, List.set]
     refine tk 11 49 (h := ⟨_, tv, ?_⟩)
     simp only [pE, List.set]
     refine tk 12 50 (h := ⟨_, tv, ?_⟩)
     simp only [pE, List.set]
     refine tk 13 51 (h := ⟨_, tv, ?_⟩)
     simp only [pE, List.set]
     refine tk 14 52 (h := ⟨_, tv, ?_⟩)
     simp only [pE, List.set]
     refine tk 15 53 (h := ⟨_, tv, ?_⟩)
     simp only [pE, List.set]
     refine tk 16 54 (h := ⟨_, tv, ?_⟩)
     simp only [pE, List.set]
     refine tk 17 55 (h := ⟨_, tv, ?_⟩)
     simp only [pE, List.set]
     refine tk 18 56 (h := ⟨_, tv, ?_⟩)
     simp only [pE, List.set]
     refine tk 19 57 (h := ⟨_, tv, ?_⟩)
     simp only [pE, List.set]
     refine wpAnyH_done (by kernel_rfl) ?_ _
     obtain ⟨W8, hW8⟩ : ∃ W, W = w7.drew := ⟨_, rfl⟩
     rw [← hW8]
     have HG8 := Lib.hid (show w5.grownBy W8 (some g5) by rw [hW8]; exact grown_below HG7.out (Below.refl _ _).drew)
     have HC8 := Lib.hid (show CtL W8 gc AP (some ⟨b, o, none⟩) AL cp ce cl cs N (plcL N.vs.length vl vl.length) by rw [hW8]; exact HC7.out.below (Below.refl _ _).drew)
     have HP8 := Lib.hid (show Blk W8 g5 87 #[.slice A' k c', .slice AA (arcsTo N vl i).length ca] by rw [hW8]; exact HP7.out)
     have HO8 := Lib.hid (show Own W8 w5.heap.size 3 1 AA (arcsTo N vl i).length ca (icells (nats (arcsTo N vl i))) by rw [hW8]; exact HO7.out)
     clear hW8 HG7 HC7 HP7 HO7 HSX
     obtain ⟨W9, hW9⟩ : ∃ W, W = W8.alloc (.cells #[.int .i64 (i : Int)] 3) := ⟨_, rfl⟩
     have hb9 : Below W8.heap.size W8 W9 := by rw [hW9]; exact bELt
     have hrd : Rds W9 1 (some ⟨W8.heap.size, 0, none⟩) 1 (icells [(i : Int)]) := by rw [hW9]; exact (Blk.new W8 3 #[.int .i64 (i : Int)]).rds rfl
     have HC9 := Lib.hid (HC8.out.below hb9)
     have HG9 := Lib.hid (grown_below HG8.out hb9)
     have HP9 := Lib.hid (HP8.out.below hb9 HP8.out.lt)
     have hown := HO8.out.below hb9
     have HO9 := Lib.hid hown
     have hsz : w5.heap.size ≤ W9.heap.size := HG9.out.size
     have HW9 := Lib.hid hW9
     have q1 := HP8.out.cell 1
     simp only [List.getElem?_toArray, List.getElem?_cons_succ, List.getElem?_cons_zero] at q1
     have hlt8 := HP8.out.lt
     clear hW9 hb9
     go_wp2_with (at_builtin; rw [← HW9.out]; with_reducible refine wpList_app rfl (.tmp 59) (.tmp 61) 27 rfl 3 _ 1 8 infoInt Tryz.underlying27 rfl (by omega) rfl rfl hown hrd (icells_one _) (by omega) (by omega) hsz ?_)
     intro A3 c3 w10 ho10 hg10 hat10
     have h5lt : g5 < w5.heap.size := HP5.out.lt
     have hBw := HP9.out.grown hg10 (HO9.out.ne h5lt)
     have p10 := hBw.cell 1
     simp only [List.getElem?_toArray, List.getElem?_cons_succ, List.getElem?_cons_zero] at p10
     have pf := hBw.frozen 1
     have HO10 := Lib.hid (show Own (w10.setCell ⟨g5, 1, none⟩ (.slice A3 ((arcsTo N vl i).length + 1) c3)) w5.heap.size 3 1 A3 ((arcsTo N vl i).length + 1) c3 (icells (nats (arcsTo N vl i ++ [i]))) from by rw [nats_snoc]; exact ho10.setB h5lt _)
     have HP10 := Lib.hid (show Blk (w10.setCell ⟨g5, 1, none⟩ (.slice A3 ((arcsTo N vl i).length + 1) c3)) g5 87 #[.slice A' k c', .slice A3 ((arcsTo N vl i).length + 1) c3] from by have := hBw.set_ 1 (.slice A3 ((arcsTo N vl i).length + 1) c3); simpa using this)
     have HG10 := Lib.hid ((grown_far HG9.out hg10 (fun q hq => (HO9.out.lt q hq).1)).trans (grownBy_set w10 g5 1 (.slice A3 ((arcsTo N vl i).length + 1) c3)))
     have hc10 := HC9.out.grown hg10 (fun q hq => HH.out.new (by have := (HO9.out.lt q hq).1; have := HG5.out; have := HZ1.out; have := HZ2.out; omega))
     have HC10 := Lib.hid (hc10.grown (grownBy_set w10 g5 1 (.slice A3 ((arcsTo N vl i).length + 1) c3)) (fun q hq => by cases hq; exact HH.out.new (by have := HG5.out; have := HZ1.out; have := HZ2.out; omega)))
     clear hown hrd hsz ho10 hg10 hat10 hBw q1 hlt8 hc10
     go_wp2_with fail
     go_roundw
     case rel => exact ⟨HG10.out, i + 1, A3, c3, by omega, by go_num, HC10.out, by rw [HN2.out, List.length_append]; exact HP10.out, by rw [HN2.out, List.length_append]; exact HO10.out⟩
     case measure => simp [intOf]; omega
   obtain rfl : i = N.ar.length := by omega
   clear hlt hi
   have hz5 : w.heap.size < g5 := by have := HG5.out; have := HZ1.out; have := HZ2.out; omega
   have HVr := Lib.hid (HV5.out.grownX HGR2.out (fun g h0 hg e => by cases e; have := HV.out.ltN h0 hg; omega))
   have HRr := Lib.hid (HR5.out.grown HGR2.out (fun e => by injection e with e; omega))
   have HOr := Lib.hid (HO5.out.far HGR2.out (by
    cases e : blkOf A' with
    | none => exact .inl rfl
    | some q => exact .inr (fun e2 => by injection e2 with e2; have := (HO2.out.lt q e).2; have := HG5.out; omega)))
   have HCL := Lib.hid (cClear_ok gc cp ce cl AP AE AL AV cs N k cv vl wr HC.out HVr.out HA.out HOK.out hn4)
   clear HC HVr HV5 HC5 HP5 HR5 HO5
   go_wp2_with fail
   with_reducible refine HCL.out.mono ?_
   rintro e w6 ⟨rfl, hC6, hg6⟩
   have HP6 := Lib.hid (HP.out.grown hg6 (HAL.out g5 (by omega)))
   have HR6 := Lib.hid (HRr.out.grown hg6 (HAL.out w.heap.size (Nat.le_refl _)))
   have hb6 : Below w.heap.size w w6 := HH.out.back hC6 ((grown_farR ((grown_below (World.grownBy.refl w (blkOf AL)) HB3.out).trans HGR.out) HGR2.out (fun q e => by cases e; omega)).trans hg6)
   have HO6 := Lib.hid ((HOr.out.far hg6 (by
    cases e : blkOf A' with
    | none => exact .inl rfl
    | some q => exact .inr (fun e2 => HAL.out q (by have := (HO2.out.lt q e).1; have := HZ1.out; omega) e2.symm))).mono (show w.heap.size + 1 ≤ w1.heap.size from HZ1.out))
   have hz53 : w.heap.size < w5.heap.size := by have := HGR.out.size; have := HW3.out; omega
   have HA6 := Lib.hid ((HO.out.far hg6 (by
    cases e : blkOf AA with
    | none => exact .inl rfl
    | some q => exact .inr (fun e2 => HAL.out q (by have := (HO.out.lt q e).1; omega) e2.symm))).mono (show w.heap.size + 1 ≤ w5.heap.size by omega))
   have p0 := HP6.out.cell 0
   have p1 := HP6.out.cell 1
   simp only [List.getElem?_toArray, List.getElem?_cons_succ, List.getElem?_cons_zero] at p0 p1
   obtain ⟨r0, r1, f0, f1⟩ := HR6.out.two
   have HBE := Lib.hid (show Below w.heap.size w ((w6.setCell ⟨w.heap.size, 0, none⟩ (.slice A' k c')).setCell ⟨w.heap.size, 1, none⟩ (.slice AA (arcsTo N vl N.ar.length).length ca)) from (hb6.setCell (Nat.le_refl _) _).setCell (Nat.le_refl _) _)
   have HOE := Lib.hid (((HO6.out.setB (g := w.heap.size) (i := 0) (by omega) (.slice A' k c')).setB (g := w.heap.size) (i := 1) (by omega) (.slice AA (arcsTo N vl N.ar.length).length ca)))
   have HAE := Lib.hid (((HA6.out.setB (g := w.heap.size) (i := 0) (by omega) (.slice A' k c')).setB (g := w.heap.size) (i := 1) (by omega) (.slice AA (arcsTo N vl N.ar.length).length ca)))
   clear HCL hC6 hg6 HP6 HR6 HP HRr HOr HO
   go_wp2_with fail
   refine bodyPost_ret (v := .agg #[.slice A' k c', .slice AA (arcsTo N vl N.ar.length).length ca]) (by simp [results, Tryz.results34, go_sem, r0, r1]) rfl ?_
   have hl := HL.out
   subst hl
   refine ⟨A', c', AA, ca, rfl, ⟨HOE.out.rds.rdI, HAE.out.rds.rdI, fun g _ hg => HAL.out g (by have := (HOE.out.lt g hg).1; omega), fun g _ hg => HAL.out g (by have := (HAE.out.lt g hg).1; omega), HOE.out.cap, HAE.out.cap, HOE.out.capMax, HAE.out.capMax⟩, fun g hg => ?_, HBE.out⟩
   rcases hg with hg | hg
   · have := HOE.out.lt g hg; exact ⟨by omega, this.2⟩
   · have := HAE.out.lt g hg; exact ⟨by omega, this.2⟩
end Go.Proofs.YtpffhoefmcpniaaGreatDoor
