/- Parts of the proof: Ne6. -/
import Derived.Test.YtpffhoefmcpniaaGreatDoorB1
import Derived.Test.YtpffhoefmcpniaaGreatDoorB32
namespace Go.Proofs.YtpffhoefmcpniaaGreatDoor
open Go.RowKit

attribute [local go_sem ↓] Go.wp_at_zero Go.wp_at_succ

def HvPost (N : NetD) (AL : Option Addr) (vl : List Nat) (w : World) (e : Ending) (w' : World) : Prop := ∃ B1 d1 B2 d2 C1 e1 C2 e2,
 e = .returned (.tuple #[.agg #[.slice B1 (hlf N true vl).length d1, .slice B2 (arcsN N (hlf N true vl)).length d2], .agg #[.slice C1 (hlf N false vl).length e1, .slice C2 (arcsN N (hlf N false vl)).length e2], .nilIface]) ∧
 RdPc N AL w' B1 B2 d1 d2 (hlf N true vl) ∧ RdPc N AL w' C1 C2 e1 e2 (hlf N false vl) ∧ (∀ g, blkOf B1 = some g ∨ blkOf B2 = some g ∨ blkOf C1 = some g ∨ blkOf C2 = some g → w.heap.size ≤ g ∧ g < w'.heap.size) ∧ Below w.heap.size w w'
set_option maxHeartbeats 8000000 in
set_option maxRecDepth 20000 in
theorem cHalves_ok (gc cp ce cl c1 c2 : Nat) (AP AE AL A1 A2 : Option Addr) (cs : List Value) (N : NetD) (vl : List Nat) (w : World) (h : CtV w gc AP AE AL cp ce cl cs N) (hp : RdPc N AL w A1 A2 c1 c2 vl) (hok : PcOk N.vs.length vl) (h2 : 2 ≤ vl.length) (hN : NetOk N) :
 Calls Tryz.prog 60 #[.pointer (some ⟨gc, 0, none⟩), .agg #[.slice A1 vl.length c1, .slice A2 (arcsN N vl).length c2]] w (HvPost N AL vl w) := by
 have HOK := Lib.hid hok
 have HH := Lib.hid h
 have HPC := Lib.hid hp
 have HNK := Lib.hid hN
 have H2 := Lib.hid h2
 have hn4 := hN.lv
 have hm4 := hN.la
 have hk4 : vl.length ≤ 4096 := by have := hok.len; omega
 have ha4 : (arcsN N vl).length ≤ 16384 := by have := arcsTo_len N vl N.ar.length; unfold arcsN; omega
 obtain ⟨csP, hszP, hmkP⟩ := run_makePa vl.length (by omega)
 obtain ⟨csE, hszE, hmkE⟩ := run_makePa (arcsN N vl).length (by omega)
 clear h hok hN hp h2
 go_enter_defers Tryz.func60, Tryz.ntmps60
 refine Code.wp_mono (Q := noPan (bodyPostD Tryz.prog Tryz.f60 (HvPost N AL vl w))) (fun e a w h => noPan_le h) ?_
 go_wp2_with fail
 (refine wp_named ?_; intro w3 hw3)
 have hb3 : Below w.heap.size w w3 := by rw [hw3]; exact bELt
 have q3 : Blk w3 w.heap.size 87 #[.slice A1 vl.length c1, .slice A2 (arcsN N vl).length c2] := by rw [hw3]; exact bLNt
 have q4 : Blk w3 (w.heap.size + 1) 87 #[.slice none 0 0, .slice none 0 0] := by rw [hw3]; exact bLNt
 have q5 : Blk w3 (w.heap.size + 1 + 1) 87 #[.slice none 0 0, .slice none 0 0] := by rw [hw3]; exact bLNt
 have q6 : Blk w3 (w.heap.size + 1 + 1 + 1) 127 csP := by rw [hw3]; exact bLNt
 clear hw3 hmkP
 have HW3 := Lib.hid (show HvW w w3 gc AP AE AL cp ce cl cs N A1 A2 c1 c2 vl (plcL N.vs.length vl 0) from ⟨grown_below (World.grownBy.refl w _) hb3, by rw [plcL_zero]; exact HH.out.below hb3, HPC.out.below hb3, q3, q4, q5, fun g h0 hg => HPC.out.r1.ltN h0 hg, fun g h0 hg => HPC.out.r2.ltN h0 hg, fun k hk => HH.out.new hk⟩)
 have HP3 := Lib.hid (PaTo.start (l := ptsN N vl) (pts_len N vl) q6 hszP)
 clear q3 q4 q5 q6 hb3 hszP
 go_loopw [30] (fun q W => ∃ j : Nat, j ≤ vl.length ∧ q = .int .i64 (j : Int) ∧ HvW w W gc AP AE AL cp ce cl cs N A1 A2 c1 c2 vl (plcL N.vs.length vl j) ∧ PaTo W (w.heap.size + 1 + 1 + 1) vl.length j (ptsN N vl)) (fun q _ => vl.length - (intOf q).toNat)
 case atStart => exact ⟨0, Nat.zero_le _, rfl, HW3.out, HP3.out⟩
 case round =>
  obtain ⟨j, hj, rfl, hW, hP⟩ := hrel
  have HW := Lib.hid hW
  have HP := Lib.hid hP
  clear hW hP HW3 HP3
  by_cases hlt : j < vl.length
  · obtain ⟨b, o, x, hA1, hx, hc⟩ := HW.out.pc.r1.at_ hlt
    obtain ⟨v, hv, rfl⟩ := nats_inv hx
    have hvn := HOK.out.2 v (List.mem_of_getElem? hv)
    obtain ⟨bp, op, px, py, hAP, hpx, cpx, cpy⟩ := HW.out.ct.pts.at_ hvn
    obtain ⟨gl, y, hy, hAL, cy, fy, gy, hset⟩ := HW.out.ct.at_ hvn
    obtain ⟨⟨z0, e0⟩, ⟨z1, e1⟩, fz0, fz1, gz⟩ := HP.out.cells hlt
    have hpt : (ptsN N vl)[j]? = some (px, py) := by
     unfold ptsN
     rw [List.getElem?_map, hv]
     rw [List.getElem?_map] at hpx
     unfold ptN
     cases hq : N.vs[v]? with
     | none => rw [hq] at hpx; cases hpx
     | some t => rw [hq] at hpx; simpa [hq] using hpx
    have p0 : wr.cell? ⟨gc, 0, none⟩ = some (.slice (some ⟨bp, op, none⟩) N.vs.length cp) := by rw [HW.out.ct.blk.cell, hAP]; rfl
    have p2 : wr.cell? ⟨gc, 2, none⟩ = some (.slice (some ⟨gl, 0, none⟩) N.vs.length cl) := by rw [HW.out.ct.blk.cell, hAL]; rfl
    have hne1 : gl ≠ w.heap.size + 1 + 1 + 1 := fun e => (HW.out.new (w.heap.size + 1 + 1 + 1) (by omega)).2.2.2 (by rw [hAL, e]; rfl)
    have hne2 : gc ≠ w.heap.size + 1 + 1 + 1 := fun e => (HW.out.new (w.heap.size + 1 + 1 + 1) (by omega)).1 e.symm
    obtain ⟨W4, hW4⟩ : ∃ W, W = (wr.setCell ⟨w.heap.size + 1 + 1 + 1, j * 2, none⟩ (.int .i64 px)).setCell ⟨w.heap.size + 1 + 1 + 1, j * 2 + 1, none⟩ (.int .i64 py) := ⟨_, rfl⟩
    have HW4 := Lib.hid (show HvW w W4 gc AP AE AL cp ce cl cs N A1 A2 c1 c2 vl (plcL N.vs.length vl j) by rw [hW4]; exact HW.out.far ((grownBy_set wr _ _ _).trans (grownBy_set _ _ _ _)) (fun k e => by injection e with e; omega))
    have HP4 := Lib.hid (show PaTo W4 (w.heap.size + 1 + 1 + 1) vl.length (j + 1) (ptsN N vl) by rw [hW4]; exact HP.out.next hpt)
    obtain ⟨gl', y', hy', hAL', cy', fy', gy', hset4⟩ := HW4.out.ct.at_ hvn
    obtain rfl : gl = gl' := by rw [hAL] at hAL'; injection hAL' with e; injection e
    have HW5 := Lib.hid (HW4.out.place (v := v) (x := .int .i64 (j : Int)) hAL (hset4 (j : Int)))
    rw [plcL_next HOK.out.nodup hv hvn] at HW5
    have HP5 := Lib.hid (HP4.out.keep (W' := W4.setCell ⟨gl, v, none⟩ (.int .i64 (j : Int))) (fun _ => Below.heap_setCell _ _ _ _ (fun e => hne1 e.symm)))
    rw [hW4] at HW5 HP5
    have i1 : (j : Int) < (vl.length : Int) := by omega
    have i2 : (0 : Int) ≤ (j : Int) := by omega
    have i3 : (0 : Int) ≤ (v : Int) := by omega
    have i4 : (v : Int) < (N.vs.length : Int) := by omega
    subst hA1
    clear hx hy hAP hpx hpt hset hW4 HW4 HP4 hy' hAL' cy' fy' gy' hset4 hv hAL gz gy
    go_wp2_with fail
    go_roundw
    case rel => exact ⟨j + 1, by omega, by go_num, HW5.out, HP5.out⟩
    case measure => simp [intOf]; omega
  obtain rfl : j = vl.length := by omega
  clear hlt hj
  have b0 := HW.out.b3.cell 0
  have b1 := HW.out.b3.cell 1
  simp only [List.getElem?_toArray, List.getElem?_cons_succ, List.getElem?_cons_zero] at b0 b1
  have b3l : w.heap.size < wr.heap.size := HW.out.b3.lt
  have hca := fun ob => Below.cellOf (show Below wr.heap.size wr (wr.alloc ob) from bELt) (Nat.le_refl _) b1
  go_wp2_with fail
  (refine wp_named ?_; intro w5 hw5)
  have hb5 : Below wr.heap.size wr w5 := by rw [hw5]; exact bELt
  have q5 : Blk w5 wr.heap.size 127 csE := by rw [hw5]; exact bLNt
  clear hw5 hmkE b0 b1
  obtain ⟨ge, hge⟩ : ∃ g, g = wr.heap.size := ⟨_, rfl⟩
  rw [← hge] at q5 ⊢
  have HGE := Lib.hid (show w.heap.size + 3 < ge by have := HW.out.b5.lt; obtain ⟨_, _, h1, _⟩ := HP.out; have := h1.lt; omega)
  have HGW := Lib.hid hge
  clear hge b3l
  have HW5 := Lib.hid (HW.out.below hb5)
  have HP5 := Lib.hid (HP.out.done.below hb5)
  have HE5 := Lib.hid (PaTo.start (l := edgsN N vl) (by unfold edgsN; rw [List.length_map]) q5 hszE)
  clear hb5 q5 HP HW
  go_loopw [63] (fun q W => ∃ i : Nat, i ≤ (arcsN N vl).length ∧ q = .int .i64 (i : Int) ∧ HvW w W gc AP AE AL cp ce cl cs N A1 A2 c1 c2 vl (plcL N.vs.length vl vl.length) ∧ RdP W (some ⟨w.heap.size + 1 + 1 + 1, 0, none⟩) vl.length (ptsN N vl) ∧ PaTo W ge (arcsN N vl).length i (edgsN N vl)) (fun q _ => (arcsN N vl).length - (intOf q).toNat)
  case atStart => exact ⟨0, Nat.zero_le _, rfl, HW5.out, HP5.out, HE5.out⟩
  case round =>
   clear HW5 HP5 HE5
   obtain ⟨i, hi, rfl, hW, hP, hE⟩ := hrel
   have HW := Lib.hid hW
   have HP := Lib.hid hP
   have HE := Lib.hid hE
   clear hW hP hE
   by_cases hlt : i < (arcsN N vl).length
   · obtain ⟨b, o, x, hA2, hx, hc⟩ := HW.out.pc.r2.at_ hlt
     obtain ⟨a, ha, rfl⟩ := nats_inv hx
     obtain ⟨t, ht, hu0, hv0⟩ := mem_arcsN.1 (List.mem_of_getElem? ha)
     have hla := (List.getElem?_eq_some_iff.1 ht).1
     obtain ⟨bp, op, px, py, hAE, hpx, cpx, cpy⟩ := HW.out.ct.ends.at_ hla
     obtain ⟨t', ht', e⟩ := ends_at hpx
     rw [ht] at ht'
     obtain rfl : t = t' := by injection ht'
     obtain ⟨rfl, rfl⟩ : px = t.1 ∧ py = t.2.1 := by cases e; exact ⟨rfl, rfl⟩
     have hao := HNK.out.arcs t (List.mem_of_getElem? ht)
     obtain ⟨u, hu⟩ : ∃ u : Nat, t.1 = u := ⟨t.1.toNat, by have := hao.f0; omega⟩
     obtain ⟨v, hv⟩ : ∃ v : Nat, t.2.1 = v := ⟨t.2.1.toNat, by have := hao.g0; omega⟩
     have hun : u < N.vs.length := by have := hao.f1; omega
     have hvn : v < N.vs.length := by have := hao.g1; omega
     rw [hu, Int.toNat_natCast] at hu0
     rw [hv, Int.toNat_natCast] at hv0
     rw [hu] at cpx
     rw [hv] at cpy
     obtain ⟨gl, z, hz, hAL, cz, fz, gz, hs1⟩ := HW.out.ct.at_ hun
     obtain ⟨gl', z', hz', hAL', cz', fz', gz', hs2⟩ := HW.out.ct.at_ hvn
     rw [hAL] at hAL'
     cases hAL'
     rw [plcL_full hun, if_pos hu0] at hz
     rw [plcL_full hvn, if_pos hv0] at hz'
     injection hz with hz
     injection hz' with hz'
     subst hz hz'
     have hedg : (edgsN N vl)[i]? = some ((vl.idxOf u : Int), (vl.idxOf v : Int)) := by
      unfold edgsN
      rw [List.getElem?_map, ha]
      simp only [Option.map_some]
      unfold edgOf
      rw [ht]
      simp only [hu, hv, Int.toNat_natCast]
     obtain ⟨⟨z0, e0⟩, ⟨z1, e1⟩, fz0, fz1, gz2⟩ := HE.out.cells hlt
     have p1 : wr.cell? ⟨gc, 1, none⟩ = some (.slice (some ⟨bp, op, none⟩) N.ar.length ce) := by rw [HW.out.ct.blk.cell, hAE]; rfl
     have p2 : wr.cell? ⟨gc, 2, none⟩ = some (.slice (some ⟨gl, 0, none⟩) N.vs.length cl) := by rw [HW.out.ct.blk.cell, hAL]; rfl
     generalize vl.idxOf u = pu at *
     generalize vl.idxOf v = pv at *
     have hlt_ : ∀ q, (q = gc ∨ q = bp ∨ q = gl) → q < ge := fun q hq => by
      rcases Nat.lt_or_ge q ge with h | h
      · exact h
      · exfalso
        have hn := HW.out.new q (by have := HGE.out; omega)
        rcases hq with rfl | rfl | rfl
        · exact hn.1 rfl
        · exact hn.2.2.1 (by rw [hAE]; rfl)
        · exact hn.2.2.2 (by rw [hAL]; rfl)
     have l1 := hlt_ gc (.inl rfl)
     have l2 := hlt_ bp (.inr (.inl rfl))
     have l3 := hlt_ gl (.inr (.inr rfl))
     have HSX := Lib.hid (show ∀ V, Below ge wr V → V.cell? ⟨gc, 1, none⟩ = some (.slice (some ⟨bp, op, none⟩) N.ar.length ce) ∧ V.cell? ⟨gc, 2, none⟩ = some (.slice (some ⟨gl, 0, none⟩) N.vs.length cl) ∧ V.cell? ⟨bp, op + a * 2, none⟩ = some (.int .i64 (u : Int)) ∧ V.cell? ⟨bp, op + a * 2 + 1, none⟩ = some (.int .i64 (v : Int)) ∧ V.cell? ⟨gl, u, none⟩ = some (.int .i64 (pu : Int)) ∧ V.cell? ⟨gl, v, none⟩ = some (.int .i64 (pv : Int)) from
      fun V hV => ⟨(hV.cell l1).trans p1, (hV.cell l1).trans p2, (hV.cell l2).trans cpx, (hV.cell l2).trans cpy, (hV.cell l3).trans cz, (hV.cell l3).trans cz'⟩)
     have i1 : (i : Int) < ((arcsN N vl).length : Int) := by omega
     have i2 : (0 : Int) ≤ (i : Int) := by omega
     have i3 : (0 : Int) ≤ (u : Int) := by omega
     have i4 : (u : Int) < (N.vs.length : Int) := by omega
     have i5 : (0 : Int) ≤ (v : Int) := by omega
     have i6 : (v : Int) < (N.vs.length : Int) := by omega
     have i7 : (0 : Int) ≤ (a : Int) := by omega
     have i8 : (a : Int) < (N.ar.length : Int) := by omega
     obtain ⟨W4, hW4⟩ : ∃ W, W = ((wr.setCell ⟨ge, i * 2, none⟩ (.int .i64 (pu : Int))).setCell ⟨ge, i * 2 + 1, none⟩ (.int .i64 (pv : Int))).drew := ⟨_, rfl⟩
     have HW4 := Lib.hid (show HvW w W4 gc AP AE AL cp ce cl cs N A1 A2 c1 c2 vl (plcL N.vs.length vl vl.length) by rw [hW4]; exact (HW.out.far ((grownBy_set _ _ _ _).trans (grownBy_set _ _ _ _)) (fun k e => by injection e with e; have := HGE.out; omega)).below (Below.refl _ _).drew)
     have HE4 := Lib.hid (show PaTo W4 ge (arcsN N vl).length (i + 1) (edgsN N vl) by rw [hW4]; exact (HE.out.next hedg).keep (fun _ => rfl))
     have HP4 := Lib.hid (show RdP W4 (some ⟨w.heap.size + 1 + 1 + 1, 0, none⟩) vl.length (ptsN N vl) by rw [hW4]; exact (HP.out.grownN ((grownBy_set _ _ _ _).trans (grownBy_set _ _ _ _)) (fun g e1 e2 => by have e1 : some (w.heap.size + 1 + 1 + 1) = some g := e1; injection e1 with e1; injection e2 with e2; have := HGE.out; omega)).below (Below.refl _ _).drew)
     have HBW4 := Lib.hid (show Below ge wr W4 by rw [hW4]; exact (Below.setCell (Below.setCell (Below.refl _ _) (p := ⟨ge, i * 2, none⟩) (Nat.le_refl _) _) (p := ⟨ge, i * 2 + 1, none⟩) (Nat.le_refl _) _).drew)
     subst hA2
     have HW4E := Lib.hid hW4
     clear hx ha ht hu0 hv0 hla hAE hpx ht' e hao hu hv cpx cpy hAL cz cz' fz fz' gz gz' hs1 hs2 hedg p1 p2 hlt_ hW4 HE HP
     go_wp2_with fail
     refine wp_region_held_drew (S := fun V => Below ge wr V) (by kernel_rfl) (Below.refl _ _).drew (fun _ => ?_)
     refine tk 0 68 (h := ⟨_, tv, ?_⟩)
     simp only [pE, List.set]
     refine tk 1 69 (h := ⟨_, tv, ?_⟩)
     simp only [pE, List.set]
     refine tk 2 70 (h := ⟨_, tv, ?_⟩)
     simp only [pE, List.set]
     refine tk 3 71 (h := ⟨_, tv, ?_⟩)
     simp only [pE, List.set]
     refine tk 4 72 (h := ⟨_, tv, ?_⟩)
     simp only [pE, List.set]
     refine tk 5 73 (h := ⟨_, tv, ?_⟩)
     simp only [pE, List.set]
     refine tk 6 74 (h := ⟨_, tv, ?_⟩)
     simp only [pE, List.set]
     refine tk 7 75 (h := ⟨_, tv, ?_⟩)
     simp only [pE, List.set]
     refine tk 8 76 (h := ⟨_, tv, ?_⟩)
     simp only [pE, List.set]
     refine tk 9 77 (h := ⟨_, tv, ?_⟩)
     simp only [pE, List.set]
     refine tk 10 78 (h := ⟨_, tv, ?_⟩)
     simp only [pE, List.set]
     refine tk 11 79 (h := ⟨_, tv, ?_⟩)
     simp only [pE, List.set]
     refine tk 12 80 (h := ⟨_, tv, ?_⟩)
     simp only [pE, List.set]
     refine tk 13 81 (h := ⟨_, tv, ?_⟩)
     simp only [pE, List.set]
     refine tk 14 82 (h := ⟨_, tv, ?_⟩)
     simp only [pE, List.set]
     refine tk 15 83 (h := ⟨_, tv, ?_⟩)
     simp only [pE, List.set]
     refine tk 16 84 (h := ⟨_, tv, ?_⟩)
     simp only [pE, List.set]
     refine tk 17 85 (h := ⟨_, tv, ?_⟩)
     simp only [pE, List.set]
     refine tk 18 86 (h := ⟨_, tv, ?_⟩)
     simp only [pE, List.set]
     refine tk 19 87 (h := ⟨_, tv, ?_⟩)
     simp only [pE, List.set]
     refine tk 20 88 (h := ⟨_, tv, ?_⟩)
     simp only [pE, List.set]
     refine tk 21 89 (h := ⟨_, tv, ?_⟩)
     simp only [pE, List.set]
     refine tk 22 90 (h := ⟨_, tv, ?_⟩)
     simp only [pE, List.set]
     refine tk 23 91 (h := ⟨_, tv, ?_⟩)
     simp only [pE, List.set]
     refine tk 24 92 (h := ⟨_, tv, ?_⟩)
     simp only [pE, List.set]
     refine tk 25 93 (h := ⟨_, tv, ?_⟩)
     simp only [pE, List.set]
     refine tk 26 94 (h := ⟨_, tv, ?_⟩)
     simp only [pE, List.set]
     refine tk 27 95 (h := ⟨_, tv, ?_⟩)
     simp only [pE, List.set]
     refine tk 28 96 (h := ⟨_, tv, ?_⟩)
     simp only [pE, List.set]
     refine tk 29 97 (h := ⟨_, tv, ?_⟩)
     simp only [pE, List.set]
     refine tk 30 98 (h := ⟨_, tv, ?_⟩)
     simp only [pE, List.set]
     refine tk 31 99 (h := ⟨_, tv, ?_⟩)
     simp only [pE, List.set]
     refine wpAnyH_ready (rs := [32]) (by kernel_rfl) (by simp) ?_
     refine AllReadyH.cons (o := _) rfl (fun K hK => ?_) AllReadyH.nil
     go_simp
     rw [← HW4E.out]
     refine hK.out _ _ HBW4.out (fun _ => ?_)
     clear hK K
     refine wpAnyH_done (by kernel_rfl) ?_ _
     go_wp2_with fail
     go_roundw
     case rel => exact ⟨i + 1, by omega, by go_num, HW4.out, HP4.out, HE4.out⟩
     case measure => simp [intOf]; omega
   obtain rfl : i = (arcsN N vl).length := by omega
   clear hlt hi
   have hgood := pts_good HNK.out HOK.out H2.out
   have HCB := Lib.hid (cutBest_any (some ⟨w.heap.size + 1 + 1 + 1, 0, none⟩) (some ⟨ge, 0, none⟩) vl.length (arcsN N vl).length vl.length (arcsN N vl).length (ptsN N vl) (edgsN N vl) wr HP.out HE.out.done hgood (by omega) (by omega))
   clear hgood
   go_wp2_with fail
   with_reducible refine HCB.out.mono ?_
   rintro e w8 ⟨AS, n', cS, s, Ls, rfl, hS, hnc, hall, hopt, hb8⟩
   have hbst : IsBest (edgsN N vl) (ptsN N vl) s.side := ⟨Ls, s, hall, hopt, rfl⟩
   have hsd := bestB_eq hbst
   have hfair := hbst.fair (by rw [pts_len]; exact H2.out)
   rw [pts_len] at hfair
   obtain rfl : n' = vl.length := by rw [← hS.1]; exact hfair.1
   have HSL := Lib.hid hfair.1
   have HSD := Lib.hid (show sideN N vl = s.side from hsd)
   have HW8 := Lib.hid (HW.out.below hb8)
   have HE8 := Lib.hid (HE.out.done.below hb8)
   have HS8 := Lib.hid hS
   have HLS := Lib.hid (show ∀ g, blkOf AS = some g → g < w8.heap.size from fun g hg => by
    obtain ⟨b, o, x, e, _, hc⟩ := hS.at_ (i := 0) (by have := H2.out; omega)
    rw [e] at hg
    have hg : some b = some g := hg
    injection hg with hg
    have := lt_of_cell hc
    simp only at this
    omega)
   have HGE8 := Lib.hid (show ge < w8.heap.size by obtain ⟨_, cur, h1, _⟩ := HE.out; exact Nat.lt_of_lt_of_le h1.lt hb8.size)
   have b0 := HW8.out.b3.cell 0
   simp only [List.getElem?_toArray, List.getElem?_cons_zero] at b0
   have hcb := fun o1 o2 o3 => Below.cellOf (show Below w8.heap.size w8 (((w8.alloc o1).alloc o2).alloc o3) from bELt) (Nat.le_refl _) b0
   clear hbst hsd hfair hS hall hopt hb8 HCB HW HP HE
   go_wp2_with fail
   (refine wp_named ?_; intro w9 hw9)
   have hb9 : Below w8.heap.size w8 w9 := by rw [hw9]; exact bELt
   have q13 : Blk w9 w8.heap.size 162 #[.slice AS vl.length cS, .int .i64 s.cross, .int .i64 s.dir, .int .i64 s.kind] := by rw [hw9]; exact bLNt
   have q15 : Blk w9 (w8.heap.size + 1) 87 #[.slice none 0 0, .slice none 0 0] := by rw [hw9]; exact bLNt
   have q16 : Blk w9 (w8.heap.size + 1 + 1) 87 #[.slice none 0 0, .slice none 0 0] := by rw [hw9]; exact bLNt
   clear hw9 b0 hcb
   have HX9 := Lib.hid (show HvX w w9 gc AP AE AL cp ce cl cs N A1 A2 c1 c2 vl w8.heap.size ge AS cS s from ⟨HW8.out.below hb9, HE8.out.below hb9, HS8.out.below hb9, q13, ⟨HGE.out, HGE8.out⟩, HLS.out⟩)
   have HT9 := Lib.hid (show TwW w9 (w8.heap.size + 1 + 1 + 1) (w8.heap.size + 1) (w8.heap.size + 1 + 1) none none none none 0 0 0 0 [] [] [] [] from ⟨q15, q16, Own.nil _ _ _ _, Own.nil _ _ _ _, Own.nil _ _ _ _, Own.nil _ _ _ _, .inl rfl, .inl rfl, .inl rfl, .inl rfl, .inl rfl, .inl rfl, by omega, by omega, by omega, q16.lt⟩)
   clear q13 q15 q16 hb9 HW8 HE8 HS8
   obtain ⟨B8, hB8⟩ : ∃ B, B = w8.heap.size := ⟨_, rfl⟩
   rw [← hB8] at HX9 HT9 HLS HGE8 ⊢
   clear hB8
   go_loopw [115] (fun q W => ∃ (i : Nat) (F O : Option Addr) (cf co : Nat), i ≤ vl.length ∧ q = .int .i64 (i : Int) ∧ HvX w W gc AP AE AL cp ce cl cs N A1 A2 c1 c2 vl B8 ge AS cS s ∧ TwW W (B8 + 1 + 1 + 1) (B8 + 1) (B8 + 1 + 1) F O none none cf co 0 0 (sel true (vl.take i) (s.side.take i)) (sel false (vl.take i) (s.side.take i)) [] []) (fun q _ => vl.length - (intOf q).toNat)
   case atStart => exact ⟨0, none, none, 0, 0, Nat.zero_le _, rfl, HX9.out, by simpa [sel] using HT9.out⟩
   case round =>
    clear HX9 HT9
    obtain ⟨i, F, O, cf, co, hi, rfl, hX, hT⟩ := hrel
    have HX := Lib.hid hX
    have HT := Lib.hid hT
    clear hX hT
    by_cases hlt : i < vl.length
    · obtain ⟨b, o, x, hA1, hx, hc⟩ := HX.out.hv.pc.r1.at_ hlt
      obtain ⟨v, hv, rfl⟩ := nats_inv hx
      obtain ⟨sb, so, y, hAS, hy, hcy⟩ := HX.out.rs.at_ hlt
      have hst := sel_take (c := true) hv hy
      have hsf := sel_take (c := false) hv hy
      have hlt1 : (sel true (vl.take i) (s.side.take i)).length ≤ i := Nat.le_trans (sel_sub _ _ _).length_le (List.length_take_le _ _)
      have hlt2 : (sel false (vl.take i) (s.side.take i)).length ≤ i := Nat.le_trans (sel_sub _ _ _).length_le (List.length_take_le _ _)
      have s0 : wr.cell? ⟨B8, 0, none⟩ = some (.slice AS vl.length cS) := by rw [HX.out.bs.cell]; rfl
      have i1 : (i : Int) < (vl.length : Int) := by omega
      have i2 : (0 : Int) ≤ (i : Int) := by omega
      subst hA1 hAS
      clear hx hv hy
      generalize sel true (vl.take i) (s.side.take i) = lf at *
      generalize sel false (vl.take i) (s.side.take i) = lo at *
      cases y
      · simp only [Bool.false_eq_true, if_false, List.append_nil, if_true] at hst hsf
        have HST := Lib.hid hst
        have HSF := Lib.hid hsf
        clear hst hsf
        obtain ⟨W4, hW4⟩ : ∃ W, W = wr.alloc (.cells #[.int .i64 (v : Int)] 3) := ⟨_, rfl⟩
        have hb4 : Below wr.heap.size wr W4 := by rw [hW4]; exact bELt
        have hrd : Rds W4 1 (some ⟨wr.heap.size, 0, none⟩) 1 (icells [(v : Int)]) := by rw [hW4]; exact (Blk.new wr 3 #[.int .i64 (v : Int)]).rds rfl
        have HX4 := Lib.hid (HX.out.below hb4)
        have HT4 := Lib.hid (HT.out.below hb4)
        have HW4 := Lib.hid hW4
        have hown := HT4.out.oo
        have hsz := HT4.out.sz
        have g0 : wr.cell? ⟨B8 + 1 + 1, 0, none⟩ = some (.slice O (lo).length co) := by rw [HT.out.bh.cell]; rfl
        clear hW4 hb4 HX HT
        go_wp2_with (at_builtin; rw [← HW4.out]; with_reducible refine wpList_app rfl (.tmp 132) (.tmp 134) 27 rfl 3 _ 1 8 infoInt Tryz.underlying27 rfl (by omega) rfl rfl hown hrd (icells_one _) (by omega) (by omega) hsz ?_)
        intro A7 c7 w7 ho7 hg7 hat7
        have hBw := HT4.out.bh.grown hg7 (HT4.out.oo.ne HT4.out.hB)
        have p7 : w7.cell? ⟨B8 + 1 + 1, 0, none⟩ = some (.slice O (lo).length co) := by rw [hBw.cell]; rfl
        have pf := hBw.frozen 0
        have HT7 := Lib.hid (HT4.out.pushO ho7 hg7 hat7)
        have HX7 := Lib.hid ((HX4.out.far hg7 (fun q e => by have := (HT4.out.oo.lt q e).1; omega)).far (grownBy_set w7 (B8 + 1 + 1) 0 (.slice A7 ((lo).length + 1) c7)) (fun q e => by injection e with e; omega))
        clear hown hrd hsz ho7 hg7 hat7 hBw g0 HW4 HT4 HX4
        go_wp2_with fail
        go_roundw
        case rel => exact ⟨i + 1, F, A7, cf, c7, by omega, by go_num, HX7.out, by rw [HST.out, HSF.out]; exact HT7.out⟩
        case measure => simp [intOf]; omega
      · simp only [Bool.true_eq_false, if_false, List.append_nil, if_true] at hst hsf
        have HST := Lib.hid hst
        have HSF := Lib.hid hsf
        clear hst hsf
        obtain ⟨W4, hW4⟩ : ∃ W, W = wr.alloc (.cells #[.int .i64 (v : Int)] 3) := ⟨_, rfl⟩
        have hb4 : Below wr.heap.size wr W4 := by rw [hW4]; exact bELt
        have hrd : Rds W4 1 (some ⟨wr.heap.size, 0, none⟩) 1 (icells [(v : Int)]) := by rw [hW4]; exact (Blk.new wr 3 #[.int .i64 (v : Int)]).rds rfl
        have HX4 := Lib.hid (HX.out.below hb4)
        have HT4 := Lib.hid (HT.out.below hb4)
        have HW4 := Lib.hid hW4
        have hown := HT4.out.of
        have hsz := HT4.out.sz
        have g0 : wr.cell? ⟨B8 + 1, 0, none⟩ = some (.slice F (lf).length cf) := by rw [HT.out.bg.cell]; rfl
        clear hW4 hb4 HX HT
        go_wp2_with (at_builtin; rw [← HW4.out]; with_reducible refine wpList_app rfl (.tmp 126) (.tmp 128) 27 rfl 3 _ 1 8 infoInt Tryz.underlying27 rfl (by omega) rfl rfl hown hrd (icells_one _) (by omega) (by omega) hsz ?_)
        intro A7 c7 w7 ho7 hg7 hat7
        have hBw := HT4.out.bg.grown hg7 (HT4.out.of.ne HT4.out.gB)
        have p7 : w7.cell? ⟨B8 + 1, 0, none⟩ = some (.slice F (lf).length cf) := by rw [hBw.cell]; rfl
        have pf := hBw.frozen 0
        have HT7 := Lib.hid (HT4.out.pushF ho7 hg7 hat7)
        have HX7 := Lib.hid ((HX4.out.far hg7 (fun q e => by have := (HT4.out.of.lt q e).1; omega)).far (grownBy_set w7 (B8 + 1) 0 (.slice A7 ((lf).length + 1) c7)) (fun q e => by injection e with e; omega))
        clear hown hrd hsz ho7 hg7 hat7 hBw g0 HW4 HT4 HX4
        go_wp2_with fail
        go_roundw
        case rel => exact ⟨i + 1, A7, O, c7, co, by omega, by go_num, HX7.out, by rw [HST.out, HSF.out]; exact HT7.out⟩
        case measure => simp [intOf]; omega
    obtain rfl : i = vl.length := by omega
    clear hlt hi
    have HT3 := Lib.hid (show TwW wr (B8 + 1 + 1 + 1) (B8 + 1) (B8 + 1 + 1) F O none none cf co 0 0 (sel true vl s.side) (sel false vl s.side) (aselTo N vl s.side true 0) (aselTo N vl s.side false 0) by
     have := HT.out
     rw [List.take_length, List.take_of_length_le (show s.side.length ≤ vl.length by rw [HSL.out]; exact Nat.le_refl _)] at this
     simpa [aselTo_zero] using this)
    have b1 : wr.cell? ⟨w.heap.size, 1, none⟩ = some (.slice A2 (arcsN N vl).length c2) := by rw [HX.out.hv.b3.cell]; rfl
    clear HT
    go_wp2_with fail
    clear b1
    go_loopw [141] (fun q W => ∃ (i : Nat) (X Y : Option Addr) (cx cy : Nat), i ≤ (arcsN N vl).length ∧ q = .int .i64 (i : Int) ∧ HvX w W gc AP AE AL cp ce cl cs N A1 A2 c1 c2 vl B8 ge AS cS s ∧ TwW W (B8 + 1 + 1 + 1) (B8 + 1) (B8 + 1 + 1) F O X Y cf co cx cy (sel true vl s.side) (sel false vl s.side) (aselTo N vl s.side true i) (aselTo N vl s.side false i)) (fun q _ => (arcsN N vl).length - (intOf q).toNat)
    case atStart => exact ⟨0, none, none, 0, 0, Nat.zero_le _, rfl, HX.out, HT3.out⟩
    case round =>
     clear HX HT3
     obtain ⟨i, X, Y, cx, cy, hi, rfl, hX, hT⟩ := hrel
     have HX := Lib.hid hX
     have HT := Lib.hid hT
     clear hX hT
     by_cases hlt : i < (arcsN N vl).length
     · obtain ⟨b, o, x, hA2, hx, hc⟩ := HX.out.hv.pc.r2.at_ hlt
       obtain ⟨a, ha, rfl⟩ := nats_inv hx
       obtain ⟨eb, eo, ex, ey, hge, hE, cex, cey⟩ := HX.out.re.at_ hlt
       cases hge
       have hen := edgs_ends N vl _ (List.mem_of_getElem? hE)
       simp only at hen
       obtain ⟨p, hp⟩ : ∃ p : Nat, ex = p := ⟨ex.toNat, by omega⟩
       obtain ⟨q, hq⟩ : ∃ q : Nat, ey = q := ⟨ey.toNat, by omega⟩
       subst hp hq
       have hpl : p < vl.length := by omega
       have hql : q < vl.length := by omega
       have hed : edgOf N vl a = ((p : Int), (q : Int)) := by
        unfold edgsN at hE
        rw [List.getElem?_map, ha] at hE
        simpa using hE
       obtain ⟨sb, so, y1, hAS, hy1, hcy1⟩ := HX.out.rs.at_ hpl
       obtain ⟨sb', so', y2, hAS', hy2, hcy2⟩ := HX.out.rs.at_ hql
       rw [hAS] at hAS'
       cases hAS'
       have hst := aselTo_next (sd := s.side) (c := true) ha
       have hsf := aselTo_next (sd := s.side) (c := false) ha
       rw [hed] at hst hsf
       have hs1 : sAt s.side (p : Int) = y1 := by unfold sAt; rw [Int.toNat_natCast, List.getD_eq_getElem?_getD, hy1]; rfl
       have hs2 : sAt s.side (q : Int) = y2 := by unfold sAt; rw [Int.toNat_natCast, List.getD_eq_getElem?_getD, hy2]; rfl
       simp only [hs1, hs2] at hst hsf
       have hlt1 := aselTo_len N vl s.side true i
       have hlt2 := aselTo_len N vl s.side false i
       have s0 : wr.cell? ⟨B8, 0, none⟩ = some (.slice AS vl.length cS) := by rw [HX.out.bs.cell]; rfl
       rw [Nat.zero_add] at cex cey
       have i1 : (i : Int) < ((arcsN N vl).length : Int) := by omega
       have i2 : (0 : Int) ≤ (i : Int) := by omega
       have i3 : (0 : Int) ≤ (p : Int) := by omega
       have i4 : (p : Int) < (vl.length : Int) := by omega
       have i5 : (0 : Int) ≤ (q : Int) := by omega
       have i6 : (q : Int) < (vl.length : Int) := by omega
       subst hA2 hAS
       have HSX := Lib.hid (show ∀ V, Below wr.heap.size wr V → V.cell? ⟨B8, 0, none⟩ = some (.slice (some ⟨sb, so, none⟩) vl.length cS) ∧ V.cell? ⟨ge, i * 2, none⟩ = some (.int .i64 (p : Int)) ∧ V.cell? ⟨ge, i * 2 + 1, none⟩ = some (.int .i64 (q : Int)) ∧ V.cell? ⟨sb, so + p, none⟩ = some (.bool y1) ∧ V.cell? ⟨sb, so + q, none⟩ = some (.bool y2) from
        fun V hV => ⟨Below.cellOf hV (Nat.le_refl _) s0, Below.cellOf hV (Nat.le_refl _) cex, Below.cellOf hV (Nat.le_refl _) cey, Below.cellOf hV (Nat.le_refl _) hcy1, Below.cellOf hV (Nat.le_refl _) hcy2⟩)
       clear hx ha hE hen hed hy1 hy2 hs1 hs2 s0 cex cey hcy1 hcy2
       generalize aselTo N vl s.side true i = lx at *
       generalize aselTo N vl s.side false i = ly at *
       go_wp2_with fail
       refine wp_region_held_drew (S := fun V => Below wr.heap.size wr V) (by kernel_rfl) (Below.refl _ _).drew (fun _ => ?_)
       refine tk 0 146 (h := ⟨_, tv, ?_⟩)
       simp only [pE, List.set]
       refine tk 1 147 (h := ⟨_, tv, ?_⟩)
       simp only [pE, List.set]
       refine tk 2 148 (h := ⟨_, tv, ?_⟩)
       simp only [pE, List.set]
       refine tk 3 149 (h := ⟨_, tv, ?_⟩)
       simp only [pE, List.set]
       refine tk 4 150 (h := ⟨_, tv, ?_⟩)
       simp only [pE, List.set]
       refine tk 5 151 (h := ⟨_, tv, ?_⟩)
       simp only [pE, List.set]
       refine tk 6 152 (h := ⟨_, tv, ?_⟩)
       simp only [pE, List.set]
       refine tk 7 153 (h := ⟨_, tv, ?_⟩)
       simp only [pE, List.set]
       refine tk 8 154 (h := ⟨_, tv, ?_⟩)
       simp only [pE, List.set]
       refine tk 9 155 (h := ⟨_, tv, ?_⟩)
       simp only [pE, List.set]
       refine tk 10 156 (h := ⟨_, tv, ?_⟩)
       simp only [pE, List.set]
       refine tk 11 157 (h := ⟨_, tv, ?_⟩)
       simp only [pE, List.set]
       refine tk 12 158 (h := ⟨_, tv, ?_⟩)
       simp only [pE, List.set]
       refine tk 13 159 (h := ⟨_, tv, ?_⟩)
       simp only [pE, List.set]
       refine tk 14 160 (h := ⟨_, tv, ?_⟩)
       simp only [pE, List.set]
       refine tk 15 161 (h := ⟨_, tv, ?_⟩)
       simp only [pE, List.set]
       refine tk 16 162 (h := ⟨_, tv, ?_⟩)
       simp only [pE, List.set]
       refine tk 17 163 (h := ⟨_, tv, ?_⟩)
       simp only [pE, List.set]
       refine tk 18 21 (h := ⟨_, tv, ?_⟩)
       simp only [pE, List.set]
       refine tk 19 22 (h := ⟨_, tv, ?_⟩)
       simp only [pE, List.set]
       refine wpAnyH_done (by kernel_rfl) ?_ _
       obtain ⟨W3, hW3⟩ : ∃ W, W = wr.drew := ⟨_, rfl⟩
       rw [← hW3]
       have HX3 := Lib.hid (show HvX w W3 gc AP AE AL cp ce cl cs N A1 (some ⟨b, o, none⟩) c1 c2 vl B8 ge (some ⟨sb, so, none⟩) cS s by rw [hW3]; exact HX.out.below (Below.refl _ _).drew)
       have HT3 := Lib.hid (show TwW W3 (B8 + 1 + 1 + 1) (B8 + 1) (B8 + 1 + 1) F O X Y cf co cx cy (sel true vl s.side) (sel false vl s.side) lx ly by rw [hW3]; exact HT.out.below (Below.refl _ _).drew)
       clear hW3 HX HT HSX hc
       have HX := HX3
       have HT := HT3
       clear HX3 HT3
       cases y1 <;> cases y2
       · simp at hst hsf
         have HST := Lib.hid hst
         have HSF := Lib.hid hsf
         clear hst hsf
         obtain ⟨W4, hW4⟩ : ∃ W, W = W3.alloc (.cells #[.int .i64 (a : Int)] 3) := ⟨_, rfl⟩
         have hb4 : Below W3.heap.size W3 W4 := by rw [hW4]; exact bELt
         have hrd : Rds W4 1 (some ⟨W3.heap.size, 0, none⟩) 1 (icells [(a : Int)]) := by rw [hW4]; exact (Blk.new W3 3 #[.int .i64 (a : Int)]).rds rfl
         have HX4 := Lib.hid (HX.out.below hb4)
         have HT4 := Lib.hid (HT.out.below hb4)
         have HW4 := Lib.hid hW4
         have hown := HT4.out.oy
         have hsz := HT4.out.sz
         have g0 : W3.cell? ⟨B8 + 1 + 1, 1, none⟩ = some (.slice Y (ly).length cy) := by rw [HT.out.bh.cell]; rfl
         clear hW4 hb4 HX HT
         go_wp2_with (at_builtin; rw [← HW4.out]; with_reducible refine wpList_app rfl (.tmp 181) (.tmp 183) 27 rfl 3 _ 1 8 infoInt Tryz.underlying27 rfl (by omega) rfl rfl hown hrd (icells_one _) (by omega) (by omega) hsz ?_)
         intro A7 c7 w7 ho7 hg7 hat7
         have hBw := HT4.out.bh.grown hg7 (HT4.out.oy.ne HT4.out.hB)
         have p7 : w7.cell? ⟨B8 + 1 + 1, 1, none⟩ = some (.slice Y (ly).length cy) := by rw [hBw.cell]; rfl
         have pf := hBw.frozen 1
         have HT7 := Lib.hid (HT4.out.pushY ho7 hg7 hat7)
         have HX7 := Lib.hid ((HX4.out.far hg7 (fun q e => by have := (HT4.out.oy.lt q e).1; omega)).far (grownBy_set w7 (B8 + 1 + 1) 1 (.slice A7 ((ly).length + 1) c7)) (fun q e => by injection e with e; omega))
         clear hown hrd hsz ho7 hg7 hat7 hBw g0 HW4 HT4 HX4
         go_wp2_with fail
         go_roundw
         case rel => exact ⟨i + 1, X, A7, cx, c7, by omega, by go_num, HX7.out, by rw [HST.out, HSF.out]; exact HT7.out⟩
         case measure => simp [intOf]; omega
       · simp at hst hsf
         have HST := Lib.hid hst
         have HSF := Lib.hid hsf
         clear hst hsf
         go_wp2_with fail
         go_roundw
         case rel => exact ⟨i + 1, X, Y, cx, cy, by omega, by go_num, HX.out, by rw [HST.out, HSF.out]; exact HT.out⟩
         case measure => simp [intOf]; omega
       · simp at hst hsf
         have HST := Lib.hid hst
         have HSF := Lib.hid hsf
         clear hst hsf
         go_wp2_with fail
         go_roundw
         case rel => exact ⟨i + 1, X, Y, cx, cy, by omega, by go_num, HX.out, by rw [HST.out, HSF.out]; exact HT.out⟩
         case measure => simp [intOf]; omega
       · simp at hst hsf
         have HST := Lib.hid hst
         have HSF := Lib.hid hsf
         clear hst hsf
         obtain ⟨W4, hW4⟩ : ∃ W, W = W3.alloc (.cells #[.int .i64 (a : Int)] 3) := ⟨_, rfl⟩
         have hb4 : Below W3.heap.size W3 W4 := by rw [hW4]; exact bELt
         have hrd : Rds W4 1 (some ⟨W3.heap.size, 0, none⟩) 1 (icells [(a : Int)]) := by rw [hW4]; exact (Blk.new W3 3 #[.int .i64 (a : Int)]).rds rfl
         have HX4 := Lib.hid (HX.out.below hb4)
         have HT4 := Lib.hid (HT.out.below hb4)
         have HW4 := Lib.hid hW4
         have hown := HT4.out.ox
         have hsz := HT4.out.sz
         have g0 : W3.cell? ⟨B8 + 1, 1, none⟩ = some (.slice X (lx).length cx) := by rw [HT.out.bg.cell]; rfl
         clear hW4 hb4 HX HT
         go_wp2_with (at_builtin; rw [← HW4.out]; with_reducible refine wpList_app rfl (.tmp 169) (.tmp 171) 27 rfl 3 _ 1 8 infoInt Tryz.underlying27 rfl (by omega) rfl rfl hown hrd (icells_one _) (by omega) (by omega) hsz ?_)
         intro A7 c7 w7 ho7 hg7 hat7
         have hBw := HT4.out.bg.grown hg7 (HT4.out.ox.ne HT4.out.gB)
         have p7 : w7.cell? ⟨B8 + 1, 1, none⟩ = some (.slice X (lx).length cx) := by rw [hBw.cell]; rfl
         have pf := hBw.frozen 1
         have HT7 := Lib.hid (HT4.out.pushX ho7 hg7 hat7)
         have HX7 := Lib.hid ((HX4.out.far hg7 (fun q e => by have := (HT4.out.ox.lt q e).1; omega)).far (grownBy_set w7 (B8 + 1) 1 (.slice A7 ((lx).length + 1) c7)) (fun q e => by injection e with e; omega))
         clear hown hrd hsz ho7 hg7 hat7 hBw g0 HW4 HT4 HX4
         go_wp2_with fail
         go_roundw
         case rel => exact ⟨i + 1, A7, Y, c7, cy, by omega, by go_num, HX7.out, by rw [HST.out, HSF.out]; exact HT7.out⟩
         case measure => simp [intOf]; omega
     obtain rfl : i = (arcsN N vl).length := by omega
     clear hlt hi
     have HT4 := Lib.hid (show TwW wr (B8 + 1 + 1 + 1) (B8 + 1) (B8 + 1 + 1) F O X Y cf co cx cy (hlf N true vl) (hlf N false vl) (arcsN N (hlf N true vl)) (arcsN N (hlf N false vl)) by
      have := HT.out
      rw [aselTo_all HOK.out.nodup HSL.out, aselTo_all HOK.out.nodup HSL.out] at this
      unfold hlf
      rw [HSD.out]
      exact this)
     clear HT
     have hz3 : w.heap.size + 3 < B8 := by have := HX.out.lg; omega
     have x0 : wr.cell? ⟨B8 + 1, 0, none⟩ = some (.slice F (hlf N true vl).length cf) := by rw [HT4.out.bg.cell]; rfl
     have x1 : wr.cell? ⟨B8 + 1, 1, none⟩ = some (.slice X (arcsN N (hlf N true vl)).length cx) := by rw [HT4.out.bg.cell]; rfl
     have y0 : wr.cell? ⟨B8 + 1 + 1, 0, none⟩ = some (.slice O (hlf N false vl).length co) := by rw [HT4.out.bh.cell]; rfl
     have y1 : wr.cell? ⟨B8 + 1 + 1, 1, none⟩ = some (.slice Y (arcsN N (hlf N false vl)).length cy) := by rw [HT4.out.bh.cell]; rfl
     obtain ⟨d0, d1, df0, df1⟩ := HX.out.hv.b4.two
     obtain ⟨k0, k1, kf0, kf1⟩ := HX.out.hv.b5.two
     have hlx := HT4.out.bg.lt
     have hly := HT4.out.bh.lt
     have HSX := Lib.hid (show ∀ V, Kept (fun b => b ≠ w.heap.size + 1 ∧ b ≠ w.heap.size + 1 + 1) wr V → V.cell? ⟨B8 + 1, 0, none⟩ = some (.slice F (hlf N true vl).length cf) ∧ V.cell? ⟨B8 + 1, 1, none⟩ = some (.slice X (arcsN N (hlf N true vl)).length cx) ∧ V.cell? ⟨B8 + 1 + 1, 0, none⟩ = some (.slice O (hlf N false vl).length co) ∧ V.cell? ⟨B8 + 1 + 1, 1, none⟩ = some (.slice Y (arcsN N (hlf N false vl)).length cy) from
      fun V hV => ⟨cell_keep (hV (B8 + 1) ⟨by omega, by omega⟩ hlx) x0, cell_keep (hV (B8 + 1) ⟨by omega, by omega⟩ hlx) x1, cell_keep (hV (B8 + 1 + 1) ⟨by omega, by omega⟩ hly) y0, cell_keep (hV (B8 + 1 + 1) ⟨by omega, by omega⟩ hly) y1⟩)
     have HE0 := Lib.hid (show EndW w wr gc AP AE AL cp ce cl cs N A1 A2 c1 c2 vl (B8 + 1 + 1 + 1) F O X Y cf co cx cy (hlf N true vl) (hlf N false vl) (arcsN N (hlf N true vl)) (arcsN N (hlf N false vl)) from ⟨HX.out.hv.gl, HX.out.hv.ct, HX.out.hv.pc, HT4.out.of, HT4.out.oo, HT4.out.ox, HT4.out.oy, HX.out.hv.l1, HX.out.hv.l2, HX.out.hv.new⟩)
     have HB4 := Lib.hid HX.out.hv.b4
     have HB5 := Lib.hid HX.out.hv.b5
     clear x0 x1 y0 y1 HX HT4 hlx hly
     go_wp2_with fail
     refine wp_region_held_drew (S := fun V => Kept (fun b => b ≠ w.heap.size + 1 ∧ b ≠ w.heap.size + 1 + 1) wr V) (by kernel_rfl) (Kept.refl _ _) (fun _ => ?_)
     refine tk 0 187 (h := ⟨_, tv, ?_⟩)
     simp only [pE, List.set]
     refine tk 1 188 (h := ⟨_, tv, ?_⟩)
     simp only [pE, List.set]
     refine wpAnyH_ready (rs := [2]) (by kernel_rfl) (by simp) ?_
     refine AllReadyH.cons (o := _) rfl (fun K hK => ?_) AllReadyH.nil
     go_simp
     obtain ⟨W2, hW2⟩ : ∃ W, W = ((wr.setCell ⟨w.heap.size + 1, 0, none⟩ (.slice F (hlf N true vl).length cf)).setCell ⟨w.heap.size + 1, 1, none⟩ (.slice X (arcsN N (hlf N true vl)).length cx)).drew := ⟨_, rfl⟩
     rw [← hW2]
     have hk2 : Kept (fun b => b ≠ w.heap.size + 1 ∧ b ≠ w.heap.size + 1 + 1) wr W2 := by
      rw [hW2]
      intro b hb hl
      show ((wr.setCell _ _).setCell _ _).heap[b]? = _
      rw [Below.heap_setCell _ _ _ _ hb.1, Below.heap_setCell _ _ _ _ hb.1]
     have HE2 := Lib.hid (show EndW w W2 gc AP AE AL cp ce cl cs N A1 A2 c1 c2 vl (B8 + 1 + 1 + 1) F O X Y cf co cx cy (hlf N true vl) (hlf N false vl) (arcsN N (hlf N true vl)) (arcsN N (hlf N false vl)) by rw [hW2]; exact ((HE0.out.set (by omega) (by omega) _).set (by omega) (by omega) _).drew)
     have HB42 := Lib.hid (show Blk W2 (w.heap.size + 1) 87 #[.slice F (hlf N true vl).length cf, .slice X (arcsN N (hlf N true vl)).length cx] by rw [hW2]; exact (show Blk _ _ _ _ from by have := (HB4.out.set_ 0 (.slice F (hlf N true vl).length cf)).set_ 1 (.slice X (arcsN N (hlf N true vl)).length cx); simpa using this).drew)
     have HB52 := Lib.hid (show Blk W2 (w.heap.size + 1 + 1) 87 #[.slice none 0 0, .slice none 0 0] by rw [hW2]; exact ((HB5.out.far (p := ⟨w.heap.size + 1, 0, none⟩) (by simp) _).far (p := ⟨w.heap.size + 1, 1, none⟩) (by simp) _).drew)
     clear hW2 d0 d1 df0 df1 k0 k1 kf0 kf1 HE0 HB4 HB5
     refine hK.out _ _ hk2 (fun _ => ?_)
     clear hK K
     obtain ⟨k0, k1, kf0, kf1⟩ := HB52.out.two
     refine wpAnyH_ready (rs := [3]) (by kernel_rfl) (by simp) ?_
     refine AllReadyH.cons (o := _) rfl (fun K hK => ?_) AllReadyH.nil
     go_simp
     obtain ⟨W3, hW3⟩ : ∃ W, W = (W2.setCell ⟨w.heap.size + 1 + 1, 0, none⟩ (.slice O (hlf N false vl).length co)).setCell ⟨w.heap.size + 1 + 1, 1, none⟩ (.slice Y (arcsN N (hlf N false vl)).length cy) := ⟨_, rfl⟩
     rw [← hW3]
     have hk3 : Kept (fun b => b ≠ w.heap.size + 1 ∧ b ≠ w.heap.size + 1 + 1) wr W3 := by
      rw [hW3]
      intro b hb hl
      rw [Below.heap_setCell _ _ _ _ hb.2, Below.heap_setCell _ _ _ _ hb.2]
      exact hk2 b hb hl
     have HE3 := Lib.hid (show EndW w W3 gc AP AE AL cp ce cl cs N A1 A2 c1 c2 vl (B8 + 1 + 1 + 1) F O X Y cf co cx cy (hlf N true vl) (hlf N false vl) (arcsN N (hlf N true vl)) (arcsN N (hlf N false vl)) by rw [hW3]; exact (HE2.out.set (by omega) (by omega) _).set (by omega) (by omega) _)
     have HB53 := Lib.hid (show Blk W3 (w.heap.size + 1 + 1) 87 #[.slice O (hlf N false vl).length co, .slice Y (arcsN N (hlf N false vl)).length cy] by rw [hW3]; have := (HB52.out.set_ 0 (.slice O (hlf N false vl).length co)).set_ 1 (.slice Y (arcsN N (hlf N false vl)).length cy); simpa using this)
     have HB43 := Lib.hid (show Blk W3 (w.heap.size + 1) 87 #[.slice F (hlf N true vl).length cf, .slice X (arcsN N (hlf N true vl)).length cx] by rw [hW3]; exact (HB42.out.far (p := ⟨w.heap.size + 1 + 1, 0, none⟩) (by simp) _).far (p := ⟨w.heap.size + 1 + 1, 1, none⟩) (by simp) _)
     clear hW3 k0 k1 kf0 kf1 HE2 HB42 HB52
     refine hK.out _ _ hk3 (fun _ => ?_)
     clear hK K
     refine tk 4 6 (h := ⟨_, tv, ?_⟩)
     simp only [pE, List.set]
     refine wpAnyH_done (by kernel_rfl) ?_ _
     go_wp2_with fail
     refine noPan_ret ?_
     have HA := Lib.hid (show ∀ g, w.heap.size ≤ g → blkOf AL ≠ some g from fun g hg => (HE3.out.new g hg).2.2.2)
     refine leaves_cons (f := 59) (args := #[.pointer (some ⟨gc, 0, none⟩), .slice A1 vl.length c1]) (by simp) (by simp [go_sem]) ?_
     refine (cClear_d gc cp ce cl AP AE AL A1 cs N vl.length c1 vl .returning _ HE3.out.ct HE3.out.pc.r1 HE3.out.pc.n1 HOK.out hn4).mono ?_
     rintro e u' w4 ⟨rfl, rfl, hC4, hg4⟩
     have fr : ∀ (A : Option Addr) (n c : Nat) (l : List Nat), Own W3 (B8 + 1 + 1 + 1) 3 1 A n c (icells (nats l)) → Own w4 (B8 + 1 + 1 + 1) 3 1 A n c (icells (nats l)) := fun A n c l ho => ho.far hg4 (by
      cases e : blkOf A with
      | none => exact .inl rfl
      | some q => exact .inr (fun e2 => HA.out q (by have := (ho.lt q e).1; omega) e2.symm))
     have o1 := fr _ _ _ _ HE3.out.of
     have o2 := fr _ _ _ _ HE3.out.oo
     have o3 := fr _ _ _ _ HE3.out.ox
     have o4 := fr _ _ _ _ HE3.out.oy
     obtain ⟨r0, r1, _, _⟩ := (HB43.out.grown hg4 (HA.out _ (by omega))).two
     obtain ⟨r2, r3, _, _⟩ := (HB53.out.grown hg4 (HA.out _ (by omega))).two
     have hbe : Below w.heap.size w w4 := HH.out.back hC4 (HE3.out.gl.trans hg4)
     refine ⟨.tuple #[.agg #[.slice F (hlf N true vl).length cf, .slice X (arcsN N (hlf N true vl)).length cx], .agg #[.slice O (hlf N false vl).length co, .slice Y (arcsN N (hlf N false vl)).length cy], .nilIface], by simp [results, Tryz.results60, go_sem, r0, r1, r2, r3], ?_⟩
     refine ⟨F, cf, X, cx, O, co, Y, cy, rfl, ⟨o1.rds.rdI, o3.rds.rdI, fun g _ hg => HA.out g (by have := (o1.lt g hg).1; omega), fun g _ hg => HA.out g (by have := (o3.lt g hg).1; omega), o1.cap, o3.cap, o1.capMax, o3.capMax⟩, ⟨o2.rds.rdI, o4.rds.rdI, fun g _ hg => HA.out g (by have := (o2.lt g hg).1; omega), fun g _ hg => HA.out g (by have := (o4.lt g hg).1; omega), o2.cap, o4.cap, o2.capMax, o4.capMax⟩, fun g hg => ?_, hbe⟩
     rcases hg with hg | hg | hg | hg
     · have := o1.lt g hg; exact ⟨by omega, this.2⟩
     · have := o3.lt g hg; exact ⟨by omega, this.2⟩
     · have := o2.lt g hg; exact ⟨by omega, this.2⟩
     · have := o4.lt g hg; exact ⟨by omega, this.2⟩
end Go.Proofs.YtpffhoefmcpniaaGreatDoor
