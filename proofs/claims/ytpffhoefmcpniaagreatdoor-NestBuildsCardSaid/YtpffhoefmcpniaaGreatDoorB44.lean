/- Parts of the proof: QChP, QSe, NeS, Nf9. -/
import Derived.Test.YtpffhoefmcpniaaGreatDoorB1
import Derived.Test.YtpffhoefmcpniaaGreatDoorB25
import Derived.Test.YtpffhoefmcpniaaGreatDoorB26
import Derived.Test.YtpffhoefmcpniaaGreatDoorB30
import Derived.Test.YtpffhoefmcpniaaGreatDoorB37
import Derived.Test.YtpffhoefmcpniaaGreatDoorB39
import Derived.Test.YtpffhoefmcpniaaGreatDoorB41
namespace Go.Proofs.YtpffhoefmcpniaaGreatDoor
open Go.RowKit

/-! the number of an entry, one by one -/
end Go.Proofs.YtpffhoefmcpniaaGreatDoor

namespace Go.Proofs.YtpffhoefmcpniaaGreatDoor
open Go.RowKit

attribute [local go_sem ↓] Go.wp_at_zero Go.wp_at_succ

/-! a weight that is set -/
end Go.Proofs.YtpffhoefmcpniaaGreatDoor

namespace Go.Proofs.YtpffhoefmcpniaaGreatDoor
open Go.RowKit

end Go.Proofs.YtpffhoefmcpniaaGreatDoor

namespace Go.Proofs.YtpffhoefmcpniaaGreatDoor
open Go.RowKit

attribute [local go_sem ↓] Go.wp_at_zero Go.wp_at_succ

theorem CelI.low {W : World} {g L i n T q : Nat} {rw_ : Nat → List Int} (h : CelI W g L i n T rw_) (hq : q < g) (o : Nat) (v : Value) : CelI (W.setCell ⟨q, o, none⟩ v) g L i n T rw_ := by
 obtain ⟨⟨cur, h1, h2, h3, h4⟩, h5, h6⟩ := h
 exact ⟨⟨cur, h1.far_ (by omega) v, h2, h3, fun j a b => by
  obtain ⟨A, k1, k2, k3⟩ := h4 j a b
  exact ⟨A, k1, k2.far v (fun e => by have := (k3 q e).1; omega), k3⟩⟩, h5, by simpa [World.setCell] using h6⟩
theorem rowsP_len (ps : List (List Nat)) : (rowsP ps).length = ps.length := by simp [rowsP]
theorem RwO.grownB {W V : World} {B n c : Nat} {t : TypeId} {A : Option Addr} {xs : List Value} {ls : List (List Int)} (h : RwO W B t A n c xs ls) (hf : FreshR B xs) {r : Nat} (hg : W.grownBy V (some r)) (hr : r < B) : RwO V B t A n c xs ls :=
 ⟨h.1.far hg (by
  cases e : blkOf A with
  | none => exact .inl rfl
  | some q => exact .inr (fun e2 => by injection e2 with e2; have := (h.1.lt q e).1; omega)), h.2.1, fun j l hj => by
  obtain ⟨R, m, d, k1, k2, k3, k4, k5⟩ := h.2.2 j l hj
  exact ⟨R, m, d, k1, k2.grownN hg (fun q e e2 => by injection e2 with e2; have := hf j R m d k1 q e; omega), fun q e => ⟨Nat.lt_of_lt_of_le (k3 q e).1 hg.size, (k3 q e).2⟩, k4, k5⟩⟩
def RBuPost (rows : List (List Int)) (L : Nat) (w : World) (e : Ending) (w' : World) : Prop := ∃ Q, e = .returned (.tuple #[.agg #[.slice Q L L], .agg #[.slice none 0 0, .int .i64 0]]) ∧ RdT w' Q L rows ∧ Below w.heap.size w w'
set_option maxHeartbeats 8000000 in
set_option maxRecDepth 20000 in
theorem refBuild_ok (A B C AV : Option Addr) (n m k c d e L cv : Nat) (N : NetD) (bs : List Int) (w : World) (h : RdNet w A B C n m k N) (hN : NetOk N) (hv : RdI w AV L bs) (hb : BndOk bs) (hm : ∀ b ∈ natsOf bs, b ≤ 9223372036854775807) :
 Calls Tryz.prog 12 #[.agg #[.slice A n c, .slice B m d, .slice C k e], .slice AV L cv] w (RBuPost (rowsN N (natsOf bs)) L w) := by
 have hnl : N.vs.length = n := h.1.1
 subst hnl
 have HH := Lib.hid h
 have HNK := Lib.hid hN
 have hn4 := hN.lv
 have HV := Lib.hid hv
 have hL6 : L ≤ 6 := by rw [← hv.1]; exact hb.l6
 have HPOS := Lib.hid (fun b hb' => And.intro (hb.pos b hb') (hm b hb'))
 have HMK := Lib.hid (run_makeI N.vs.length (by omega))
 have HBL := Lib.hid (show (natsOf bs).length = L by rw [natsOf_len]; exact hv.1)
 have hmr := run_makeRw L (by omega)
 have HCB := Lib.hid (fun V (hV : Below w.heap.size w V) => checkBounds_ok AV L cv bs V (hv.below hV) hb)
 clear h hN hv hb hm
 go_enter Tryz.func12, Tryz.ntmps12
 go_wp2_with fail
 (refine calls_named ?_; intro w1 hw1)
 have hb1 : Below w.heap.size w w1 := by rw [hw1]; exact bELt
 have HX1 := Lib.hid (show Blk w1 w.heap.size 26 #[.slice A N.vs.length c, .slice B m d, .slice C k e] by rw [hw1]; exact bLNt)
 have HP1 := Lib.hid (show Blk w1 (w.heap.size + 1) 39 #[.slice none 0 0] by rw [hw1]; exact bLNt)
 have HR1 := Lib.hid (show Blk w1 (w.heap.size + 1 + 1) 42 #[.slice none 0 0, .int .i64 0] by rw [hw1]; exact bLNt)
 clear hw1
 with_reducible refine (HCB.out w1 hb1).mono ?_
 rintro r w2 ⟨rfl, hb2⟩
 have HX2 := Lib.hid (HX1.out.below hb2 HX1.out.lt)
 have HP2 := Lib.hid (HP1.out.below hb2 HP1.out.lt)
 have HR2 := Lib.hid (HR1.out.below hb2 HR1.out.lt)
 have HB2 := Lib.hid (Bel.step hb1 hb2)
 clear hb1 hb2 HX1 HP1 HR1 HCB
 go_wp2_with fail
 (refine wp_named ?_; intro w3 hw3)
 obtain ⟨gC, hgC⟩ : ∃ gC, gC = w2.heap.size + 1 := ⟨_, rfl⟩
 obtain ⟨gQ, hgQ⟩ : ∃ gQ, gQ = w2.heap.size + 1 + 1 := ⟨_, rfl⟩
 have hb3 : Below w2.heap.size w2 w3 := by rw [hw3]; exact bELt
 have HC3 := Lib.hid (show Blk w3 gC 27 (zeros (.slice none 0 0) L) by rw [hw3, hgC]; exact bLNt)
 have HQ3 := Lib.hid (show Blk w3 gQ 39 #[.slice (some ⟨gC, 0, none⟩) L L] by rw [hw3, hgQ, hgC]; exact bLNt)
 have HX3 := Lib.hid (HX2.out.below hb3 HX2.out.lt)
 have HP3 := Lib.hid (HP2.out.below hb3 HP2.out.lt)
 have HR3 := Lib.hid (HR2.out.below hb3 HR2.out.lt)
 have HB3 := Lib.hid (Bel.step HB2.out hb3)
 have hz1 := HR2.out.lt
 have HGC := Lib.hid (show w.heap.size + 1 + 1 < gC ∧ gC < gQ ∧ gQ < w3.heap.size from ⟨by omega, by omega, HQ3.out.lt⟩)
 rw [← hgQ]
 clear hw3 hb3 HX2 HP2 HR2 HB2 hmr hgC hgQ hz1
 go_loopw [8, 9] (fun a q W => Below w3.heap.size w3 W ∧ ∃ (j c1 : Nat) (A1 : Option Addr), j ≤ N.vs.length ∧ q = .int .i64 (j : Int) ∧ a = .slice A1 j c1 ∧ Own W w3.heap.size 3 1 A1 j c1 (icells (nats (List.range j)))) (fun _ q _ => N.vs.length - (intOf q).toNat)
 case atStart => exact ⟨Below.refl _ _, 0, 0, none, Nat.zero_le _, rfl, rfl, Own.nil _ _ _ _⟩
 case round =>
  obtain ⟨hbl, j, c1, A1, hj, rfl, rfl, ho⟩ := hrel
  have HBL0 := Lib.hid hbl
  have HO := Lib.hid ho
  have x0 : wr.cell? ⟨w.heap.size, 0, none⟩ = some (.slice A N.vs.length c) := by rw [(HX3.out.below hbl HX3.out.lt).cell]; rfl
  clear hbl ho
  by_cases hlt : j < N.vs.length
  · have HJ := Lib.hid hlt
    have i1 : (j : Int) < (N.vs.length : Int) := by omega
    obtain ⟨W4, hW4⟩ : ∃ W, W = wr.alloc (.cells #[.int .i64 (j : Int)] 3) := ⟨_, rfl⟩
    have hb4 : Below wr.heap.size wr W4 := by rw [hW4]; exact bELt
    have hrd : Rds W4 1 (some ⟨wr.heap.size, 0, none⟩) 1 (icells [(j : Int)]) := by rw [hW4]; exact (Blk.new wr 3 #[.int .i64 (j : Int)]).rds rfl
    have hown := HO.out.below hb4
    have HB4 := Lib.hid (Bel.step HBL0.out hb4)
    have hsz4 : w3.heap.size ≤ W4.heap.size := HB4.out.size
    have HW4 := Lib.hid hW4
    clear hW4 hb4
    go_wp2_with (at_builtin; rw [← HW4.out]; with_reducible refine wpList_app rfl (.tmp 35) (.tmp 37) 27 rfl 3 _ 1 8 infoInt Tryz.underlying27 rfl (by omega) rfl rfl hown hrd (icells_one _) (by omega) (by omega) hsz4 ?_)
    intro A5 c5 w5 ho5 hg5 hat5
    have HB5 := Lib.hid (Below.grown HB4.out hg5 hsz4 (fun q e => (hown.lt q e).1))
    have HO5 := Lib.hid (show Own w5 w3.heap.size 3 1 A5 (j + 1) c5 (icells (nats (List.range (j + 1)))) by rw [List.range_succ, nats_snoc]; exact ho5)
    clear hown hrd hsz4 ho5 hg5 hat5 x0
    go_wp2_with fail
    go_roundw
    case rel => exact ⟨HB5.out, j + 1, c5, A5, by have := HJ.out; omega, by go_num, rfl, HO5.out⟩
    case measure => have := HJ.out; simp [intOf]; omega
  obtain rfl : j = N.vs.length := by omega
  obtain ⟨W0, rfl⟩ : ∃ W, W = wr := ⟨_, rfl⟩
  clear hlt hj
  go_wp2_with fail
  clear x0
  (refine wp_named ?_; intro w5 hw5)
  have hb5 : Below W0.heap.size W0 w5 := by rw [hw5]; exact bELt
  have hdn : downP N ((natsOf bs).drop L) = [List.range N.vs.length] := by rw [List.drop_eq_nil_of_le (by rw [HBL.out]; exact Nat.le_refl _)]; rfl
  have hnow : RwO w5 W0.heap.size 27 (some ⟨W0.heap.size, 0, none⟩) 1 1 [.slice A1 N.vs.length c1] (rowsP (downP N ((natsOf bs).drop L))) := by
   rw [hdn]
   refine ⟨by rw [hw5]; exact Own.lit W0 #[.slice A1 N.vs.length c1] 1 (Nat.le_refl _) (by omega) rfl, rfl, fun j l hj => ?_⟩
   rcases j with _ | j
   · obtain rfl : nats (List.range N.vs.length) = l := by injection hj
     exact ⟨A1, N.vs.length, c1, rfl, HO.out.rds.rdI.below hb5, fun g hg => ⟨Nat.lt_of_lt_of_le (HO.out.lt g hg).2 hb5.size, fun e => by
      have := (HO.out.lt g hg).2
      injection e with e
      simp only at e
      omega⟩, HO.out.cap, HO.out.capMax⟩
   · simp [rowsP] at hj
  have hb35 := Bel.step HBL0.out hb5
  have hC5 := HC3.out.below hb35 HC3.out.lt
  have HQ5 := Lib.hid (HQ3.out.below hb35 HQ3.out.lt)
  have HX5 := Lib.hid (HX3.out.below hb35 HX3.out.lt)
  have HP5 := Lib.hid (HP3.out.below hb35 HP3.out.lt)
  have HR5 := Lib.hid (HR3.out.below hb35 HR3.out.lt)
  have HB5 := Lib.hid (Bel.step HB3.out hb35)
  have HZ5 := Lib.hid hb35.size
  clear hw5 hb5 hdn hb35 HO HBL0 HX3 HP3 HR3 HC3 HQ3 HB3
  go_loopw [10, 11] (fun a q W => w5.grownBy W (some gC) ∧ ∃ (r na ca B0 T : Nat) (A : Option Addr) (xs : List Value), r ≤ L ∧ q = .int .i64 (r : Int) ∧ a = .slice A na ca ∧ RwO W B0 27 A na ca xs (rowsP (downP N ((natsOf bs).drop r))) ∧ CelI W gC L r N.vs.length T (fun j => rowN N.vs.length (downP N ((natsOf bs).drop j)))) (fun _ q _ => (intOf q).toNat)
  case atStart => exact ⟨World.grownBy.refl _ _, L, 1, 1, W0.heap.size, _, _, _, Nat.le_refl _, rfl, rfl, hnow, CelI.start hC5⟩
  case round =>
   clear hnow hC5
   obtain ⟨hg, r, na, ca, B0, T, A1, xs, hr, rfl, rfl, hnow, hcel⟩ := hrel
   obtain ⟨W0, rfl⟩ : ∃ W, W = wr := ⟨_, rfl⟩
   have hgc := HGC.out
   have hbw : Below w.heap.size w W0 := Below.grown HB5.out hg HB5.out.size (fun q e => by injection e with e; omega)
   have hX := HX5.out.grown hg (fun e => by injection e with e; omega)
   have hQ := HQ5.out.grown hg (fun e => by injection e with e; omega)
   have hP := HP5.out.grown hg (fun e => by injection e with e; omega)
   have hR := HR5.out.grown hg (fun e => by injection e with e; omega)
   have q0 : W0.cell? ⟨gQ, 0, none⟩ = some (.slice (some ⟨gC, 0, none⟩) L L) := by rw [hQ.cell]; rfl
   by_cases hr0 : r = 0
   · subst hr0
     have c0 : W0.cell? ⟨w.heap.size + 1, 0, none⟩ = some (.slice none 0 0) := by rw [hP.cell]; rfl
     have f0 := hP.frozen 0
     have hP2 := hP.set_ 0 (.slice (some ⟨gC, 0, none⟩) L L)
     have hR2 := hR.far_ (b := w.heap.size + 1) (o := 0) (by omega) (.slice (some ⟨gC, 0, none⟩) L L)
     have d0 : (W0.setCell ⟨w.heap.size + 1, 0, none⟩ (.slice (some ⟨gC, 0, none⟩) L L)).cell? ⟨w.heap.size + 1 + 1, 0, none⟩ = some (.slice none 0 0) := by rw [hR2.cell]; rfl
     have d1 : (W0.setCell ⟨w.heap.size + 1, 0, none⟩ (.slice (some ⟨gC, 0, none⟩) L L)).cell? ⟨w.heap.size + 1 + 1, 1, none⟩ = some (.int .i64 0) := by rw [hR2.cell]; rfl
     have g0 := hR2.frozen 0
     have g1 := hR2.frozen 1
     have hR3 := (hR2.set_ 0 (.slice none 0 0)).set_ 1 (.int .i64 0)
     have hP3 := (hP2.far_ (b := w.heap.size + 1 + 1) (o := 0) (by omega) (.slice none 0 0)).far_ (b := w.heap.size + 1 + 1) (o := 1) (by omega) (.int .i64 0)
     obtain ⟨V9, hV9⟩ : ∃ V, V = ((W0.setCell ⟨w.heap.size + 1, 0, none⟩ (.slice (some ⟨gC, 0, none⟩) L L)).setCell ⟨w.heap.size + 1 + 1, 0, none⟩ (.slice none 0 0)).setCell ⟨w.heap.size + 1 + 1, 1, none⟩ (.int .i64 0) := ⟨_, rfl⟩
     have HCE := Lib.hid (show CelI V9 gC L 0 N.vs.length T (fun j => rowN N.vs.length (downP N ((natsOf bs).drop j))) by rw [hV9]; exact ((hcel.low (by omega) 0 _).low (by omega) 0 _).low (by omega) 1 _)
     have HBV := Lib.hid (show Below w.heap.size w V9 by rw [hV9]; exact ((hbw.setCell (p := ⟨w.heap.size + 1, 0, none⟩) (show w.heap.size ≤ w.heap.size + 1 by omega) _).setCell (p := ⟨w.heap.size + 1 + 1, 0, none⟩) (show w.heap.size ≤ w.heap.size + 1 + 1 by omega) _).setCell (p := ⟨w.heap.size + 1 + 1, 1, none⟩) (show w.heap.size ≤ w.heap.size + 1 + 1 by omega) _)
     have HD := Lib.hid (show V9.cell? ⟨w.heap.size + 1, 0, none⟩ = some (.slice (some ⟨gC, 0, none⟩) L L) ∧ V9.cell? ⟨w.heap.size + 1 + 1, 0, none⟩ = some (.slice none 0 0) ∧ V9.cell? ⟨w.heap.size + 1 + 1, 1, none⟩ = some (.int .i64 0) by rw [hV9]; exact ⟨by rw [hP3.cell]; rfl, by rw [hR3.cell]; rfl, by rw [hR3.cell]; rfl⟩)
     have HV9 := Lib.hid hV9
     have e0 : ¬ ((((0 : Nat)) : Int) ≥ 1) := by omega
     clear hV9 hP2 hR2 hR3 hP3 hnow hcel hX hQ hP hR hbw hg
     go_wp2_with fail
     rw [← HV9.out]
     obtain ⟨e1, e2, e3⟩ := HD.out
     refine bodyPost_ret (v := .tuple #[.agg #[.slice (some ⟨gC, 0, none⟩) L L], .agg #[.slice none 0 0, .int .i64 0]]) (by simp [results, Tryz.results12, go_sem, e1, e2, e3]) rfl ?_
     rw [rowsN_range, HBL.out]
     exact ⟨_, rfl, HCE.out.rdT (by omega), HBV.out⟩
   obtain ⟨i, hri⟩ : ∃ i, r = i + 1 := ⟨r - 1, by omega⟩
   have hi : i < L := by omega
   rw [hri] at hnow hcel
   have HRI := Lib.hid hri
   have er : (r : Int) - 1 = (i : Int) := by omega
   clear hri hr0
   have hlenA := hnow.2.1
   rw [rowsP_len] at hlenA
   obtain ⟨ab, ao, y, rfl, hy, hcy⟩ := (HV.out.below hbw).at_ hi
   obtain ⟨b, rfl, hbi, hb1, hbm⟩ := bnd_at HPOS.out hy
   have hdi := downP_drop N hbi
   have hok := downP_ok N ((natsOf bs).drop (i + 1))
   have hfl := downP_flat N ((natsOf bs).drop (i + 1))
   have hpn := downP_len N ((natsOf bs).drop (i + 1))
   have HPM := Lib.hid (downP_perm N ((natsOf bs).drop (i + 1))).1
   generalize hps : downP N ((natsOf bs).drop (i + 1)) = ps at *
   have HDI := Lib.hid hdi
   have HPK := Lib.hid hok
   have HFL := Lib.hid hfl
   have HLN := Lib.hid hlenA
   have HNOW := Lib.hid hnow
   have HCE := Lib.hid hcel
   have HG := Lib.hid hg
   have HBW := Lib.hid hbw
   have HQW := Lib.hid hQ
   have x0 : W0.cell? ⟨w.heap.size, 0, none⟩ = some (.slice A N.vs.length c) := by rw [hX.cell]; rfl
   have x1 : W0.cell? ⟨w.heap.size, 1, none⟩ = some (.slice B m d) := by rw [hX.cell]; rfl
   have x2 : W0.cell? ⟨w.heap.size, 2, none⟩ = some (.slice C k e) := by rw [hX.cell]; rfl
   have HMN := Lib.hid hbm
   have HB1 := Lib.hid hb1
   have HBI := Lib.hid hcy
   have e0 : ((r : Int) ≥ 1) := by omega
   have hna : na ≤ 4097 := by omega
   have hmk := HMK.out
   have hzg := HG.out.size
   clear hdi hok hfl hlenA hnow hcel hg hbw hX hQ hP hR hy hbm hb1 hcy hbi hpn hps
   go_wp2_with fail
   (refine wp_named ?_; intro W1 hW1)
   have hb01 : Below W0.heap.size W0 W1 := by rw [hW1]; exact bELt
   have hrow : Blk W1 W0.heap.size 3 (ints (rowTo N.vs.length (nxt N b ps) 0)) := by rw [hW1, rowTo_zero, ← zeros_int]; exact bLNt
   have HB01 := Lib.hid hb01
   have HROW := Lib.hid hrow
   have HBW1 := Lib.hid (Bel.step HBW.out hb01)
   have hz01 : W0.heap.size < W1.heap.size := hrow.lt
   have HSZ := Lib.hid (show ∀ V, Below W1.heap.size W1 V → V.cell? ⟨w.heap.size, 0, none⟩ = some (.slice A N.vs.length c) ∧ V.cell? ⟨w.heap.size, 1, none⟩ = some (.slice B m d) ∧ V.cell? ⟨w.heap.size, 2, none⟩ = some (.slice C k e) ∧ V.cell? ⟨ab, ao + i, none⟩ = some (.int .i64 (b : Int)) from fun V hV => by
    have hv := Bel.step HB01.out hV
    exact ⟨Below.cellOf hv (Nat.le_refl _) x0, Below.cellOf hv (Nat.le_refl _) x1, Below.cellOf hv (Nat.le_refl _) x2, Below.cellOf hv (Nat.le_refl _) HBI.out⟩)
   have HNOW1 := Lib.hid (HNOW.out.below HB01.out)
   clear hW1 hb01 hrow hmk x0 x1 x2
   go_loopw [13, 14] (fun a q W => Below W1.heap.size W1 W ∧ ∃ (k2 m2 c2 : Nat) (A2 : Option Addr) (xs2 : List Value), k2 ≤ na ∧ q = .int .i64 (k2 : Int) ∧ a = .slice A2 m2 c2 ∧ RwO W W1.heap.size 27 A2 m2 c2 xs2 (rowsP (nxt N b (ps.take k2))) ∧ FreshR W1.heap.size xs2) (fun _ q _ => na - (intOf q).toNat)
   case atStart => exact ⟨Below.refl _ _, 0, 0, 0, none, [], Nat.zero_le _, rfl, rfl, RwO.nil _ _ _, fun j A' n' c' e => by simp at e⟩
   case round =>
    obtain ⟨hbl, k2, m2, c2, A2, xs2, hk2, rfl, rfl, hr2, hf2⟩ := hrel
    have HBL1 := Lib.hid hbl
    have HR2 := Lib.hid hr2
    have HF2 := Lib.hid hf2
    have hm2 := hr2.2.1
    rw [rowsP_len] at hm2
    clear hbl hr2 hf2
    by_cases hlt : k2 < na
    · obtain ⟨p, hp⟩ : ∃ p, ps[k2]? = some p := ⟨_, List.getElem?_eq_getElem (show k2 < ps.length by have := HLN.out; omega)⟩
      obtain ⟨nb, no, D1, n1, d1, l1, rfl, hl1, cn, hr1, _, _⟩ := (HNOW1.out.below HBL1.out).rdT.at_ hlt
      obtain rfl : l1 = nats p := by
       have : (rowsP ps)[k2]? = some (nats p) := by simp [rowsP, hp]
       rw [this] at hl1
       exact (Option.some.inj hl1).symm
      obtain rfl : p.length = n1 := by have := hr1.1; simpa [nats] using this
      have hroom := nxt_room (N := N) (b := b) HPK.out HFL.out hp
      have HNX := Lib.hid (nxt_take (N := N) (bd := b) hp)
      have hpk := HPK.out p (List.mem_of_getElem? hp)
      have hpq := pcs_len_le N b hpk
      have HPQ := Lib.hid (fun V (hV : Below wr.heap.size wr V) => refPcs_any A B C N.vs.length m k c d e b N HNK.out HB1.out HMN.out _ p D1 p.length d1 V (Nat.le_refl _) (HH.out.below (Bel.step HBW1.out (Bel.step HBL1.out hV))) (hr1.below hV) hpk)
      have HLT := Lib.hid hlt
      have i1 : (0 : Int) ≤ (k2 : Int) := by omega
      have i2 : (k2 : Int) < (na : Int) := by omega
      have i3 : (i : Int) < (L : Int) := by omega
      have HSY := Lib.hid (show ∀ V, Below wr.heap.size wr V → V.cell? ⟨w.heap.size, 0, none⟩ = some (.slice A N.vs.length c) ∧ V.cell? ⟨w.heap.size, 1, none⟩ = some (.slice B m d) ∧ V.cell? ⟨w.heap.size, 2, none⟩ = some (.slice C k e) ∧ V.cell? ⟨ab, ao + i, none⟩ = some (.int .i64 (b : Int)) ∧ V.cell? ⟨nb, no + k2, none⟩ = some (.slice D1 p.length d1) from fun V hV => by
       obtain ⟨h1, h2, h3, h4⟩ := HSZ.out V (Bel.step HBL1.out hV)
       exact ⟨h1, h2, h3, h4, Below.cellOf hV (Nat.le_refl _) cn⟩)
      have HSX := Lib.hid (show ∀ V : World, (V.cell? ⟨w.heap.size, 0, none⟩ = some (.slice A N.vs.length c) ∧ V.cell? ⟨w.heap.size, 1, none⟩ = some (.slice B m d) ∧ V.cell? ⟨w.heap.size, 2, none⟩ = some (.slice C k e) ∧ V.cell? ⟨ab, ao + i, none⟩ = some (.int .i64 (b : Int)) ∧ V.cell? ⟨nb, no + k2, none⟩ = some (.slice D1 p.length d1)) → (V.cell? ⟨w.heap.size, 0, none⟩ = some (.slice A N.vs.length c) ∧ V.cell? ⟨w.heap.size, 1, none⟩ = some (.slice B m d) ∧ V.cell? ⟨w.heap.size, 2, none⟩ = some (.slice C k e) ∧ V.cell? ⟨ab, ao + i, none⟩ = some (.int .i64 (b : Int)) ∧ V.cell? ⟨nb, no + k2, none⟩ = some (.slice D1 p.length d1)) ∧ (0 : Int) ≤ (k2 : Int) ∧ (k2 : Int) < (na : Int) ∧ (0 : Int) ≤ (i : Int) ∧ (i : Int) < (L : Int) ∧ (r : Int) - 1 = (i : Int) ∧ IntKind.i64.wrap (i : Int) = (i : Int) from fun V hV => ⟨hV, i1, i2, by omega, i3, er, IntWalk.i64_in _ (by omega)⟩)
      have hln : nb < W1.heap.size := by
       have := (HNOW1.out.1.lt nb rfl).2
       exact this
      have hlw : w.heap.size < W1.heap.size := by have := HBW1.out.size; have := lt_of_cell (HSZ.out W1 (Below.refl _ _)).1; exact this
      have hla : ab < W1.heap.size := lt_of_cell (HSZ.out W1 (Below.refl _ _)).2.2.2
      clear hp hl1 cn hr1 hpk hlt
      go_wp2_with fail
      refine wp_region_held_drew (S := fun V => V.cell? ⟨w.heap.size, 0, none⟩ = some (.slice A N.vs.length c) ∧ V.cell? ⟨w.heap.size, 1, none⟩ = some (.slice B m d) ∧ V.cell? ⟨w.heap.size, 2, none⟩ = some (.slice C k e) ∧ V.cell? ⟨ab, ao + i, none⟩ = some (.int .i64 (b : Int)) ∧ V.cell? ⟨nb, no + k2, none⟩ = some (.slice D1 p.length d1)) (by kernel_rfl) (HSY.out _ (Below.refl _ _).drew) (fun _ => ?_)
      refine tk 0 57 (h := ⟨_, tv, ?_⟩)
      simp only [pE, List.set]
      refine tk 1 58 (h := ⟨_, tv, ?_⟩)
      simp only [pE, List.set]
      refine tk 2 59 (h := ⟨_, tv, ?_⟩)
      simp only [pE, List.set]
      refine tk 3 60 (h := ⟨_, tv, ?_⟩)
      simp only [pE, List.set]
      refine tk 4 61 (h := ⟨_, tv, ?_⟩)
      simp only [pE, List.set]
      refine tk 5 62 (h := ⟨_, tv, ?_⟩)
      simp only [pE, List.set]
      refine tk 6 63 (h := ⟨_, tv, ?_⟩)
      simp only [pE, List.set]
      refine tk 7 64 (h := ⟨_, tv, ?_⟩)
      simp only [pE, List.set]
      refine tk 8 65 (h := ⟨_, tv, ?_⟩)
      simp only [pE, List.set]
      refine tk 9 66 (h := ⟨_, tv, ?_⟩)
      simp only [pE, List.set]
      refine tk 10 67 (h := ⟨_, tv, ?_⟩)
      simp only [pE, List.set]
      refine wpAnyH_ready (rs := [11]) (by kernel_rfl) (by simp) ?_
      refine AllReadyH.cons (o := _) rfl (fun K hK => ?_) AllReadyH.nil
      go_simp
      with_reducible refine (HPQ.out _ (Below.refl _ _).drew).mono ?_
      rintro r V1 ⟨A3, c3, xs3, rfl, hw3, hf3, hv1⟩
      have hzd : wr.drew.heap.size = wr.heap.size := rfl
      rw [hzd] at hw3 hf3
      have hv1 : Below wr.heap.size wr V1 := (Below.refl _ _).drew.trans hv1
      have hr21 := HR2.out.below hv1
      have hown := hr21.1
      have hrd := hw3.1.rds
      have hone : ∀ u ∈ xs3, u.oneCell' = true := fun u hu => by
       obtain ⟨j, hj⟩ := List.getElem?_of_mem hu
       have hjl : j < (rowsP (pcs N b p)).length := by
        have := (List.getElem?_eq_some_iff.1 hj).1
        rw [hw3.1.xlen] at this
        rw [hw3.2.1]; exact this
       obtain ⟨R, m', d', k1, _⟩ := hw3.2.2 j _ (List.getElem?_eq_getElem hjl)
       rw [hj] at k1
       obtain rfl := Option.some.inj k1
       rfl
      have HV1 := Lib.hid (Bel.step HBL1.out hv1)
      have hszv := HV1.out.size
      have hltA : ∀ g, blkOf A2 = some g → W1.heap.size ≤ g ∧ g < wr.heap.size := fun g hg => HR2.out.1.lt g hg
      have HLA := Lib.hid hltA
      have hs1 := HSY.out V1 hv1
      have HS1 := Lib.hid hs1
      have HW3 := Lib.hid hw3
      have HF3 := Lib.hid hf3
      have HR21 := Lib.hid hr21
      have HZV := Lib.hid hv1.size
      clear hw3 hf3 hv1 hr21 HPQ hltA
      go_simp
      refine hK.out _ _ hs1 (fun _ => ?_)
      clear hK K hs1
      refine wpAnyH_ready (rs := [12]) (by kernel_rfl) (by simp) ?_
      refine AllReadyH.cons (o := _) rfl (fun K hK => ?_) AllReadyH.nil
      with_reducible refine step_app' (some 69) rfl rfl (.tmp 57) (.tmp 68) 32 rfl 27 _ 1 24 infoRw Tryz.underlying32 rfl (by omega) rfl rfl hown hrd hone (by omega) (by omega) hszv ?_
      intro A5 c5 V5 own5 hg5 hat5
      have HJ := Lib.hid (HR21.out.join HW3.out (fun g hg => (HLA.out g hg).2) HF3.out own5 hg5 hat5)
      have HB5' := Lib.hid (show Below W1.heap.size W1 V5 from Below.grown HV1.out hg5 hszv (fun q e => (HLA.out q e).1))
      have hneb : ∀ q, q < W1.heap.size → some q ≠ blkOf A2 := fun q hq e => by have := (HLA.out q e.symm).1; omega
      obtain ⟨s1, s2, s3, s4, s5⟩ := HS1.out
      refine hK.out _ _ ⟨hg5.cell s1 (hneb _ hlw), hg5.cell s2 (hneb _ hlw), hg5.cell s3 (hneb _ hlw), hg5.cell s4 (hneb _ hla), hg5.cell s5 (hneb _ hln)⟩ (fun _ => ?_)
      clear hK K hown hrd hone own5 hg5 hat5 hneb s1 s2 s3 s4 s5
      simp only [Act.put, List.setIfInBounds_toArray, List.set_cons_zero, List.set_cons_succ]
      refine tk 13 13 (h := ⟨_, tv, ?_⟩)
      simp only [pE, List.set]
      refine wpAnyH_done (by kernel_rfl) ?_ _
      go_wp2_with fail
      go_roundw
      case rel => exact ⟨HB5'.out, k2 + 1, _, c5, A5, _, by have := HLT.out; omega, by go_num, rfl, by rw [HNX.out, show rowsP (nxt N b (ps.take k2) ++ pcs N b p) = rowsP (nxt N b (ps.take k2)) ++ rowsP (pcs N b p) by simp [rowsP]]; exact HJ.out, HF2.out.app (HF3.out.mono HBL1.out.size)⟩
      case measure => have := HLT.out; simp [intOf]; omega
    obtain rfl : k2 = na := by omega
    obtain ⟨W2, rfl⟩ : ∃ W, W = wr := ⟨_, rfl⟩
    rw [List.take_of_length_le (Nat.le_of_eq HLN.out)] at HR2 hm2
    obtain ⟨here, hhere⟩ : ∃ here, here = nxt N b ps := ⟨_, rfl⟩
    have hcv : Cov N.vs.length here := by rw [hhere]; exact nxt_cov HPM.out HPK.out
    rw [← hhere] at HR2 hm2 HROW HDI
    have HCV := Lib.hid hcv
    have hml := hcv.len
    have HM2 := Lib.hid hm2
    have HROW2 := Lib.hid (HROW.out.below HBL1.out HROW.out.lt)
    have hzr := hz01
    obtain ⟨rW, hrW⟩ : ∃ rW, rW = W0.heap.size := ⟨_, rfl⟩
    have HCE2 := Lib.hid ((HCE.out.below HB01.out).below HBL1.out)
    have hTW := HCE.out.TW
    have hcl := HCE.out.gT
    have HG2 := Lib.hid (grown_below (grown_below HG.out HB01.out) HBL1.out)
    have HQ2 := Lib.hid ((HQW.out.below HB01.out HQW.out.lt).below HBL1.out (Nat.lt_of_lt_of_le HQW.out.lt HB01.out.size))
    rw [← hrW] at HROW2 hzr hTW
    have hgw : w5.heap.size ≤ rW := by rw [hrW]; exact hzg
    have HQL := Lib.hid (show gQ < rW by rw [hrW]; exact HQW.out.lt)
    clear hcv hhere HNOW HNOW1 HCE HROW hk2 hlt
    go_wp2_with fail
    rw [← hrW]
    clear hrW
    go_loopw [15] (fun q W => W2.grownBy W (some rW) ∧ ∃ k3 : Nat, k3 ≤ m2 ∧ q = .int .i64 (k3 : Int) ∧ Blk W rW 3 (ints (rowTo N.vs.length here k3))) (fun q _ => m2 - (intOf q).toNat)
    case atStart => exact ⟨World.grownBy.refl _ _, 0, Nat.zero_le _, rfl, HROW2.out⟩
    case round =>
     obtain ⟨hg3, k3, hk3, rfl, hrw⟩ := hrel
     have HG3 := Lib.hid hg3
     have HRW := Lib.hid hrw
     clear hg3 hrw
     by_cases hlt3 : k3 < m2
     · obtain ⟨p, hp⟩ : ∃ p, here[k3]? = some p := ⟨_, List.getElem?_eq_getElem (show k3 < here.length by have := HM2.out; omega)⟩
       have HNX := Lib.hid (rowTo_succ (n := N.vs.length) hp)
       have hpok := (HCV.out.ok _ (List.mem_of_getElem? hp)).1
       have HPO := Lib.hid hpok
       have hpl := hpok.len
       have hrl : (rowTo N.vs.length here k3).length = N.vs.length := rowTo_len _ _ _ (by have := HM2.out; omega)
       have HRL := Lib.hid hrl
       have HP := Lib.hid hp
       have HL3 := Lib.hid hlt3
       have i4 : (k3 : Int) < (m2 : Int) := by omega
       have i5 : (0 : Int) ≤ (k3 : Int) := by omega
       clear hp hpok hrl
       go_wp2_with fail
       go_loopw [16] (fun q W => W2.grownBy W (some rW) ∧ ∃ j : Nat, j ≤ p.length ∧ q = .int .i64 (j : Int) ∧ Blk W rW 3 (ints (setK (rowTo N.vs.length here k3) k3 (p.take j)))) (fun q _ => p.length - (intOf q).toNat)
       case atStart => exact ⟨HG3.out, 0, Nat.zero_le _, rfl, HRW.out⟩
       case round =>
        obtain ⟨hg4, j, hj, rfl, hrw⟩ := hrel
        obtain ⟨nb, no, D1, n1, d1, l1, rfl, hl1, cn, hr1, _, _⟩ := (HR2.out.grownB HF2.out hg4 (by omega)).rdT.at_ hlt3
        obtain rfl : l1 = nats p := by
         have : (rowsP here)[k3]? = some (nats p) := by simp [rowsP, HP.out]
         rw [this] at hl1
         exact (Option.some.inj hl1).symm
        obtain rfl : p.length = n1 := by have := hr1.1; simpa [nats] using this
        by_cases hjl : j < p.length
        · have HJL := Lib.hid hjl
          obtain ⟨bv, ov, y, rfl, hy, hcy⟩ := hr1.at_ hjl
          obtain ⟨v, hv⟩ : ∃ v, p[j]? = some v := ⟨_, List.getElem?_eq_getElem hjl⟩
          have hvn := HPO.out.2 v (List.mem_of_getElem? hv)
          obtain rfl : y = (v : Int) := by
           simp only [nats, List.getElem?_map, hv] at hy
           exact (Option.some.inj hy).symm
          have hsl : v < (setK (rowTo N.vs.length here k3) k3 (p.take j)).length := by rw [setK_len, HRL.out]; exact hvn
          obtain ⟨z, hz⟩ : ∃ z, (setK (rowTo N.vs.length here k3) k3 (p.take j))[v]? = some z := ⟨_, List.getElem?_eq_getElem hsl⟩
          have c1 := hrw.cellI hz
          have f1 := hrw.frozen v
          have HRN := Lib.hid (hrw.setI (setK_take (row := rowTo N.vs.length here k3) (k := k3) hv).symm)
          have HGN := Lib.hid (hg4.trans (grownBy_set wr rW v (.int .i64 (k3 : Int))))
          have j4 : (j : Int) < (p.length : Int) := by omega
          have j5 : (0 : Int) ≤ (j : Int) := by omega
          have j6 : (0 : Int) ≤ (v : Int) := by omega
          have j7 : (v : Int) < (N.vs.length : Int) := by omega
          clear hg4 hrw hy hv hsl hz hl1 hr1
          go_wp2_with fail
          go_roundw
          case rel => exact ⟨HGN.out, j + 1, by have := HJL.out; omega, by go_num, HRN.out⟩
          case measure => have := HJL.out; simp [intOf]; omega
        obtain rfl : j = p.length := by omega
        rw [List.take_length, ← HNX.out] at hrw
        have HGN := Lib.hid hg4
        have HRN := Lib.hid hrw
        clear hg4 hrw hj hjl hl1 hr1
        go_wp2_with fail
        go_roundw
        case rel => exact ⟨HGN.out, k3 + 1, by have := HL3.out; omega, by go_num, HRN.out⟩
        case measure => have := HL3.out; simp [intOf]; omega
     obtain rfl : k3 = m2 := by omega
     have hrowE : rowTo N.vs.length here k3 = rowN N.vs.length here := by rw [← HM2.out]; rfl
     have hrw := HRW.out
     rw [hrowE, ← HDI.out] at hrw
     have hce := HCE2.out.far HG3.out (fun q e => by injection e with e; omega)
     obtain ⟨⟨v0, c0⟩, f0, lt0⟩ := hce.cells hi
     have hQ := HQ2.out.grown HG3.out (fun e => by injection e with e; have := HQL.out; omega)
     have q0 : wr.cell? ⟨gQ, 0, none⟩ = some (.slice (some ⟨gC, 0, none⟩) L L) := by rw [hQ.cell]; rfl
     have i2 : (0 : Int) ≤ (i : Int) := by omega
     have i3 : (i : Int) < (L : Int) := by omega
     have i6 : IntKind.i64.wrap (i : Int) = (i : Int) := IntWalk.i64_in _ (by omega)
     obtain ⟨V, hV⟩ : ∃ V, V = wr.setCell ⟨gC, i, none⟩ (.slice (some ⟨rW, 0, none⟩) N.vs.length N.vs.length) := ⟨_, rfl⟩
     have HCV2 := Lib.hid (show CelI V gC L i N.vs.length V.heap.size (fun j => rowN N.vs.length (downP N ((natsOf bs).drop j))) from by
      have h1 : CelI V gC L (i + 1) N.vs.length T (fun j => rowN N.vs.length (downP N ((natsOf bs).drop j))) := by rw [hV]; exact hce.put
      have h2 : V.cell? ⟨gC, i, none⟩ = some (.slice (some ⟨rW, 0, none⟩) N.vs.length N.vs.length) := by rw [hV]; exact hce.putAt hi _
      exact h1.fin h2 (show Blk V rW 3 (ints (rowN N.vs.length (downP N ((natsOf bs).drop i)))) by rw [hV]; exact hrw.far_ (b := gC) (o := i) (by omega) _) (by rw [HDI.out, ← hrowE]; exact rowTo_len _ _ _ (by have := HM2.out; omega)) (by omega))
     have HGV := Lib.hid (show w5.grownBy V (some gC) from by
      rw [hV]
      exact (grown_next HG2.out HG3.out (fun q e => .inr (by injection e with e; omega))).trans (grownBy_set _ _ _ _))
     have HNV := Lib.hid (show RwO V W1.heap.size 27 A2 k3 c2 xs2 (rowsP (downP N ((natsOf bs).drop i))) from by
      rw [hV, HDI.out]
      exact (HR2.out.grownB HF2.out HG3.out (by omega)).setFar HF2.out (by omega) _)
     have HV := Lib.hid hV
     clear hV hrw hce hQ hrowE hlt3 hk3
     go_wp2_with fail
     rw [← HV.out]
     go_roundw
     case rel => exact ⟨HGV.out, i, _, _, _, _, _, _, by omega, by first | rfl | go_num, rfl, HNV.out, HCV2.out⟩
     case measure => have := HRI.out; simp [intOf]; omega
end Go.Proofs.YtpffhoefmcpniaaGreatDoor
