/- Parts of the proof: RoN. -/
import Derived.Test.YtgkeolddpielpaaGreatM25
namespace Go.Proofs.YtgkeolddpielpaaGreat
open Go.RowKit

attribute [local go_sem ↓] Go.wp_at_zero Go.wp_at_succ

theorem set5_kept {G : Nat → Prop} {W : World} {g : Nat} (hg : ¬ G g) (v0 v1 v2 v3 v4 : Value) : Kept G W (((((W.setCell ⟨g, 0, none⟩ v0).setCell ⟨g, 1, none⟩ v1).setCell ⟨g, 2, none⟩ v2).setCell ⟨g, 3, none⟩ v3).setCell ⟨g, 4, none⟩ v4) := fun b hb hl => by
 have key : ∀ (W' : World) (o : Nat) (v : Value), b < W'.heap.size → (W'.setCell ⟨g, o, none⟩ v).heap[b]? = W'.heap[b]? ∧ b < (W'.setCell ⟨g, o, none⟩ v).heap.size := fun W' o v h' => ⟨(grownBy_set W' g o v).block b h' (fun e => hg (by cases e; exact hb)), by simpa [World.setCell] using h'⟩
 obtain ⟨e0, h0⟩ := key W 0 v0 hl
 obtain ⟨e1, h1⟩ := key _ 1 v1 h0
 obtain ⟨e2, h2⟩ := key _ 2 v2 h1
 obtain ⟨e3, h3⟩ := key _ 3 v3 h2
 obtain ⟨e4, h4⟩ := key _ 4 v4 h3
 rw [e4, e3, e2, e1, e0]
def OfPost (w : World) (xA xB xC : Value) (m : Nat) (N : NetD) (r : Ending) (w' : World) : Prop :=
 ∃ (NX : Option Addr) (cx : Nat) (TX : Option Addr) (ct : Nat), r = .returned (.agg #[xA, xB, xC, .slice NX m cx, .slice TX m ct]) ∧ RdT w' NX m (nxtAll N) ∧ RdT w' TX m (trnAll N) ∧ Below w.heap.size w w'
structure OfW (w W : World) (xA xB xC : Value) : Prop where
 bel : Below w.heap.size w W
 net : Blk W w.heap.size 26 #[xA, xB, xC]
 res : Blk W (w.heap.size + 1) 99 #[.slice none 0 0, .slice none 0 0, .slice none 0 0, .slice none 0 0, .slice none 0 0]
 box : Blk W (w.heap.size + 1 + 1) 99 #[xA, xB, xC, .slice none 0 0, .slice none 0 0]
 size : w.heap.size + 5 ≤ W.heap.size
section
variable {w W W' : World} {xA xB xC : Value}
theorem OfW.below (h : OfW w W xA xB xC) (hb : Below W.heap.size W W') : OfW w W' xA xB xC := ⟨Bel.step h.bel hb, h.net.below hb h.net.lt, h.res.below hb h.res.lt, h.box.below hb h.box.lt, Nat.le_trans h.size hb.size⟩
theorem OfW.grown (h : OfW w W xA xB xC) {r : Option Nat} (hg : W.grownBy W' r) (hr : ∀ g, r = some g → w.heap.size + 3 ≤ g) : OfW w W' xA xB xC :=
 ⟨h.bel.grown hg h.bel.size (fun g e => by have := hr g e; omega), h.net.grown hg (fun e => by have := hr _ e; omega), h.res.grown hg (fun e => by have := hr _ e; omega), h.box.grown hg (fun e => by have := hr _ e; omega), Nat.le_trans h.size hg.size⟩
end
structure OfR (w wB V : World) (xA xB xC : Value) (AN : Option Addr) (cN : Nat) (xN : List Value) (lN : List (List Int)) (AT : Option Addr) (cT : Nat) (xT : List Value) (lT : List (List Int)) : Prop where
 kept : Kept (fun b => b ≠ w.heap.size + 1 + 1) wB V
 size : wB.heap.size ≤ V.heap.size
 bel : Below w.heap.size w V
 box : Blk V (w.heap.size + 1 + 1) 99 #[xA, xB, xC, .slice AN lN.length cN, .slice AT lT.length cT]
 tw : Tw 36 44 wB.heap.size V AN cN xN lN AT cT xT lT
section
variable {w wB V V' : World} {xA xB xC : Value} {AN AT : Option Addr} {cN cT : Nat} {xN xT : List Value} {lN lT : List (List Int)}
theorem OfR.below (h : OfR w wB V xA xB xC AN cN xN lN AT cT xT lT) (hb : Below V.heap.size V V') : OfR w wB V' xA xB xC AN cN xN lN AT cT xT lT :=
 ⟨h.kept.trans (Kept.below hb) h.size, Nat.le_trans h.size hb.size, Bel.step h.bel hb, h.box.below hb h.box.lt, h.tw.below hb⟩
theorem OfR.pushN {R A3 : Option Addr} {d c3 : Nat} {l : List Int} (h : OfR w wB V xA xB xC AN cN xN lN AT cT xT lT) (hz : w.heap.size + 5 ≤ wB.heap.size) (hr : RdI (msk V (GG wB.heap.size V AN AT)) R l.length l) (k1 : l.length ≤ d) (k2 : d ≤ 9223372036854775807)
 (ho : Own V' wB.heap.size 36 1 A3 (lN.length + 1) c3 (xN ++ [.slice R l.length d])) (hg : V.grownBy V' (blkOf AN)) (hat : blkOf A3 = blkOf AN ∨ blkOf A3 = some V.heap.size) :
 OfR w wB (V'.setCell ⟨w.heap.size + 1 + 1, 3, none⟩ (.slice A3 (lN.length + 1) c3)) xA xB xC A3 c3 (xN ++ [.slice R l.length d]) (lN ++ [l]) AT cT xT lT := by
 have hA : ∀ g, blkOf AN = some g → wB.heap.size ≤ g := fun g e => (h.tw.o1.lt g e).1
 have hz' : wB.heap.size ≤ V'.heap.size := Nat.le_trans h.size hg.size
 have hbx := (h.box.grown hg (fun e => by have := hA _ e; omega)).set_ 3 (.slice A3 (lN.length + 1) c3)
 refine ⟨fun b hb hl => ?_, by simpa [World.setCell] using hz', ?_, ?_, (h.tw.push hr k1 k2 ho hg hat).set (by omega) _ _⟩
 · have h1 := h.kept b hb hl
   have h2 := hg.block b (by have := h.size; omega) (fun e => by have := hA b e.symm; omega)
   have h3 := (grownBy_set V' (w.heap.size + 1 + 1) 3 (.slice A3 (lN.length + 1) c3)).block b (by have := h.size; have := hg.size; omega) (fun e => hb (by cases e; rfl))
   exact h3.trans (h2.trans h1)
 · exact Bel.setCell_ (h.bel.grown hg h.bel.size (fun g e => by have := hA g e; omega)) (by omega)
 · rw [List.length_append]
   simpa using hbx
theorem OfR.pushT {R A3 : Option Addr} {d c3 : Nat} {l : List Int} (h : OfR w wB V xA xB xC AN cN xN lN AT cT xT lT) (hz : w.heap.size + 5 ≤ wB.heap.size) (hr : RdI (msk V (GG wB.heap.size V AN AT)) R l.length l) (k1 : l.length ≤ d) (k2 : d ≤ 9223372036854775807)
 (ho : Own V' wB.heap.size 44 1 A3 (lT.length + 1) c3 (xT ++ [.slice R l.length d])) (hg : V.grownBy V' (blkOf AT)) (hat : blkOf A3 = blkOf AT ∨ blkOf A3 = some V.heap.size) :
 OfR w wB (V'.setCell ⟨w.heap.size + 1 + 1, 4, none⟩ (.slice A3 (lT.length + 1) c3)) xA xB xC AN cN xN lN A3 c3 (xT ++ [.slice R l.length d]) (lT ++ [l]) := by
 have hA : ∀ g, blkOf AT = some g → wB.heap.size ≤ g := fun g e => (h.tw.o2.lt g e).1
 have hz' : wB.heap.size ≤ V'.heap.size := Nat.le_trans h.size hg.size
 have hbx := (h.box.grown hg (fun e => by have := hA _ e; omega)).set_ 4 (.slice A3 (lT.length + 1) c3)
 refine ⟨fun b hb hl => ?_, by simpa [World.setCell] using hz', ?_, ?_, ((h.tw.swap.push (hr.le (msk_mono (fun _ hb => ⟨hb.1, hb.2.1, hb.2.2.2, hb.2.2.1⟩))) k1 k2 ho hg hat).set (by omega) _ _).swap⟩
 · have h1 := h.kept b hb hl
   have h2 := hg.block b (by have := h.size; omega) (fun e => by have := hA b e.symm; omega)
   have h3 := (grownBy_set V' (w.heap.size + 1 + 1) 4 (.slice A3 (lT.length + 1) c3)).block b (by have := h.size; have := hg.size; omega) (fun e => hb (by cases e; rfl))
   exact h3.trans (h2.trans h1)
 · exact Bel.setCell_ (h.bel.grown hg h.bel.size (fun g e => by have := hA g e; omega)) (by omega)
 · rw [List.length_append]
   simpa using hbx
end
theorem infoI64s : (Tryz.prog.info? 44).map (fun i => (i.zero, i.size, i.bytes)) = some (some (.slice none 0 0), 1, 24) := by kernel_rfl
set_option maxHeartbeats 8000000 in
set_option maxRecDepth 20000 in
theorem ref11Of_ok (A B C : Option Addr) (n m k c d e : Nat) (N : NetD) (w : World) (h : RdNet w A B C n m k N) (hok : NetOk N) :
 Calls Tryz.prog 47 #[.agg #[.slice A n c, .slice B m d, .slice C k e]] w (OfPost w (.slice A n c) (.slice B m d) (.slice C k e) m N) := by
 have HH := Lib.hid h
 have HOK := Lib.hid hok
 have HLV := Lib.hid h.1.1
 have HLA := Lib.hid h.2.1.1
 have HLT := Lib.hid h.2.2.1
 have hn4 : n ≤ 4096 := by rw [← h.1.1]; exact hok.lv
 have hm : m ≤ 16384 := by rw [← h.2.1.1]; exact hok.la
 have hmk := run_makeRw n (by omega)
 clear h hok
 go_enter Tryz.func47, Tryz.ntmps47
 go_wp2_with fail
 (refine wp_named ?_; intro w1 hw1)
 have hW1 : OfW w w1 (.slice A n c) (.slice B m d) (.slice C k e) := by
  rw [hw1]
  refine ⟨bELt, ?_, ?_, ?_, ?_⟩
  · repeat (first | (refine Blk.new' _ _ _ ?_ <;> simp <;> done) | apply Blk.alloc)
  · repeat (first | (refine Blk.new' _ _ _ ?_ <;> simp <;> done) | apply Blk.alloc)
  · repeat (first | (refine Blk.new' _ _ _ ?_ <;> simp <;> done) | apply Blk.alloc)
  · simp
 have hI1 : Ik2 w1 (w.heap.size + 5) (w.heap.size + 1 + 1 + 1) (w.heap.size + 1 + 1 + 1 + 1) n (idxs (·.1) (N.ar.take 0) n) (idxs (·.2.1) (N.ar.take 0) n) := by
  rw [List.take_zero, idxs_nil, idxs_nil]
  refine Ik2.start (by omega) (by omega) (by omega) ?_ ?_
  · rw [hw1]; repeat (first | (refine Blk.new' _ _ _ ?_ <;> simp <;> done) | apply Blk.alloc)
  · rw [hw1]; repeat (first | (refine Blk.new' _ _ _ ?_ <;> simp <;> done) | apply Blk.alloc)
 clear hw1 hmk
 go_loopw [6] (fun q W => ∃ j : Nat, j ≤ m ∧ q = .int .i64 j ∧ OfW w W (.slice A n c) (.slice B m d) (.slice C k e) ∧ Ik2 W (w.heap.size + 5) (w.heap.size + 1 + 1 + 1) (w.heap.size + 1 + 1 + 1 + 1) n (idxs (·.1) (N.ar.take j) n) (idxs (·.2.1) (N.ar.take j) n)) (fun q _ => m - (intOf q).toNat)
 case atStart => exact ⟨0, Nat.zero_le _, rfl, hW1, hI1⟩
 case round =>
  clear hW1 hI1
  obtain ⟨j, hj, rfl, hW, hI⟩ := hrel
  have x1 : wr.cell? ⟨w.heap.size, 1, none⟩ = some (.slice B m d) := by rw [hW.net.cell]; rfl
  have xl := hW.size
  by_cases hlt : j < m
  · obtain ⟨b, o, x, y, z, rfl, hx, cx, cy, cz⟩ := HH.out.2.1.at_ hlt
    have hok := HOK.out.arcs _ (List.mem_of_getElem? hx)
    have f0 := hok.f0
    have f1 := hok.f1
    have g0 := hok.g0
    have g1 := hok.g1
    simp only at f0 f1 g0 g1
    rw [HLV.out] at f1 g1
    obtain ⟨u, rfl⟩ : ∃ u : Nat, x = u := ⟨x.toNat, by omega⟩
    obtain ⟨v, rfl⟩ : ∃ v : Nat, y = v := ⟨y.toNat, by omega⟩
    have hu : u < n := by omega
    have hvn : v < n := by omega
    have HN1 := Lib.hid (idxs_next (f := (·.2.1)) (n := n) (v := v) hx rfl hvn)
    have HN2 := Lib.hid (idxs_next (f := (·.1)) (n := n) (v := u) hx rfl hu)
    have HL1 := Lib.hid (idxs_get (f := (·.2.1)) (l := N.ar.take j) hvn)
    have HL2 := Lib.hid (idxs_get (f := (·.1)) (l := N.ar.take j) hu)
    have d1 := idx_bd (·.2.1) N.ar j (v : Int)
    have d2 := idx_bd (·.1) N.ar j (u : Int)
    have CXU := Lib.hid cx
    have CXV := Lib.hid cy
    have i1 : (0 : Int) ≤ (j : Int) := by omega
    have i2 : (j : Int) < (m : Int) := by omega
    have i3 : (0 : Int) ≤ (u : Int) := by omega
    have i4 : (u : Int) < (n : Int) := by omega
    have i5 : (0 : Int) ≤ (v : Int) := by omega
    have i6 : (v : Int) < (n : Int) := by omega
    have HIV := Lib.hid hI
    have HWV := Lib.hid hW
    clear hx hok cx cy cz hW hI
    generalize hl1 : idx (·.2.1) (N.ar.take j) (v : Int) = la at *
    generalize hl2 : idx (·.1) (N.ar.take j) (u : Int) = lb at *
    clear hl1 hl2
    have HLX := Lib.hid HL2.out
    have HLN := Lib.hid HN2.out
    have HUU := hu
    go_wp2_with fail
    obtain ⟨Ac, cc, lc, ec, cwc, ffc, hoc⟩ := HIV.out.1.row HUU
    rw [HLX.out] at ec
    cases ec
    have hx1 : wr.cell? ⟨w.heap.size, 1, none⟩ = some (.slice (some ⟨b, o, none⟩) m d) := by rw [HWV.out.net.cell]; rfl
    have hx2 := Below.cellOf HWV.out.bel (Nat.le_refl _) CXU.out
    have hbl := lt_of_cell CXU.out
    simp only at hbl
    refine wp_region_K 20 (S := fun V => V.cell? ⟨w.heap.size, 1, none⟩ = some (.slice (some ⟨b, o, none⟩) m d) ∧ V.cell? ⟨b, o + j * 3, none⟩ = some (.int .i64 (u : Int)) ∧ V.cell? ⟨w.heap.size + 1 + 1 + 1, u, none⟩ = some (.slice Ac lb.length cc)) (by kernel_rfl) ⟨hx1, hx2, cwc⟩ (fun _ => ?_)
    refine tkF 0 31 (h := ⟨_, tv, ?_⟩)
    simp only [pE, List.set]
    refine tkF 1 32 (h := ⟨_, tv, ?_⟩)
    simp only [pE, List.set]
    refine tkK 2 33 (h := ⟨_, tv, ?_⟩)
    simp only [pE, List.set]
    refine tkF 3 34 (h := ⟨_, tv, ?_⟩)
    simp only [pE, List.set]
    refine tkF 4 35 (h := ⟨_, tv, ?_⟩)
    simp only [pE, List.set]
    refine tkF 5 36 (h := ⟨_, tv, ?_⟩)
    simp only [pE, List.set]
    refine tkK 6 37 (h := ⟨_, tv, ?_⟩)
    simp only [pE, List.set]
    refine tkF 7 38 (h := ⟨_, tv, ?_⟩)
    simp only [pE, List.set]
    refine tkF 8 39 (h := ⟨_, tv, ?_⟩)
    simp only [pE, List.set]
    refine tkK 9 40 (h := ⟨_, tv, ?_⟩)
    simp only [pE, List.set]
    refine tkF 10 41 (h := ⟨_, tv, ?_⟩)
    simp only [pE, List.set]
    refine tkF 11 42 (h := ⟨_, tv, ?_⟩)
    simp only [pE, List.set]
    refine tkF 12 43 (h := ⟨_, tv, ?_⟩)
    simp only [pE, List.set]
    refine tkK 13 44 (h := ⟨_, tv, ?_⟩)
    simp only [pE, List.set]
    refine tkF 14 45 (h := ⟨_, tv, ?_⟩)
    simp only [pE, List.set]
    refine tkK 15 46 (h := ⟨_, tv, ?_⟩)
    simp only [pE, List.set]
    refine tkF 16 47 (h := ⟨_, tv, ?_⟩)
    simp only [pE, List.set]
    obtain ⟨w9, hw9⟩ : ∃ w9, w9 = (wr.alloc (.cells #[.int .i64 (j : Int)] 3)).drew := ⟨_, rfl⟩
    have hb9 : Below wr.heap.size wr w9 := by rw [hw9]; exact ((Below.refl _ _).alloc (Nat.le_refl _) _).drew
    have hI9 := HIV.out.below hb9
    have hW9 := HWV.out.below hb9
    have hrd9 : Rds w9 1 (some ⟨wr.heap.size, 0, none⟩) 1 (icells [(j : Int)]) := by rw [hw9]; exact ((Blk.new wr 3 (ints [(j : Int)])).drew).rds rfl
    have hro9 := hoc.below hb9
    have hrc9 := Below.cellOf hb9 (Nat.le_refl _) cwc
    have hx19 := Below.cellOf hb9 (Nat.le_refl _) hx1
    have hx29 := Below.cellOf hb9 (Nat.le_refl _) hx2
    have hsz9 : w.heap.size + 5 ≤ w9.heap.size := hW9.size
    have hAz : ∀ g, blkOf Ac = some g → w.heap.size + 5 ≤ g := fun g e => (hoc.lt g e).1
    refine wpAnyK_one (i := 17) (by kernel_rfl) (by rfl) rfl (fun K hK => ?_)
    go_simp
    rw [← hw9]
    refine hK.out _ _ ⟨hx19, hx29, hrc9⟩ (fun _ => ?_)
    clear hK K hw9
    refine wpAnyK_one (i := 18) (by kernel_rfl) (by rfl) rfl (fun K hK => ?_)
    with_reducible refine step_app' (some 49) rfl rfl (.tmp 46) (.tmp 48) 36 rfl 3 _ 1 8 infoInt Tryz.underlying36 rfl (by omega) rfl rfl hro9 hrd9 (icells_one _) (by omega) (by omega) hsz9 ?_
    intro RA' rc' w10 ho10 hg10 hat10
    have hW10 := hW9.grown hg10 (fun g e => by have := hAz g e; omega)
    have hcg : w10.cell? ⟨w.heap.size + 1 + 1 + 1, u, none⟩ = some (.slice Ac lb.length cc) := by
     rw [World.cell?_of_block (hg10.block (w.heap.size + 1 + 1 + 1) (by omega) (fun e => by have := hAz _ e.symm; omega))]
     exact hrc9
    have hcy : w10.cell? ⟨b, o + j * 3, none⟩ = some (.int .i64 (u : Int)) := Below.cellOf hW10.bel (Nat.le_refl _) CXU.out
    obtain ⟨xf, hfv, hff⟩ := hI9.1.cellG HUU hg10 (hro9.ne (by omega))
    refine hK.out _ _ ⟨by rw [hW10.net.cell]; rfl, hcy, hcg⟩ (fun _ => ?_)
    clear hK K
    simp only [Act.put, List.setIfInBounds_toArray, List.set_cons_zero, List.set_cons_succ]
    have hIF := hI9.push HLX.out hrc9 ho10 hg10 hat10
    have hWF := hW10.grown (grownBy_set w10 (w.heap.size + 1 + 1 + 1) u (.slice RA' (lb.length + 1) rc')) (fun g e => by cases e; omega)
    refine tkF 19 50 (h := ⟨_, tv, ?_⟩)
    simp only [pE, List.set]
    refine wpAnyK_at (k := 20) (by kernel_rfl) rfl (fun K hK => ?_)
    go_simp
    refine hK.out _ _ ?_
    clear hK K
    refine wpAny_over (by kernel_rfl) ?_ _
    obtain ⟨V2, hVO⟩ : ∃ V2, V2 = w10.setCell ⟨w.heap.size + 1 + 1 + 1, u, none⟩ (.slice RA' (lb.length + 1) rc') := ⟨_, rfl⟩
    rw [← hVO] at hIF hWF ⊢
    rw [HLN.out] at hIF
    clear hVO hcg hcy hfv hff ho10 hg10 hat10 hI9 hW9 hW10 hrd9 hro9 hrc9 hx19 hx29 hsz9 hb9 hAz cwc ffc hoc hx1 hx2 HIV HWV HLX HLN HUU
    have HIV := Lib.hid hIF.swap
    have HWV := Lib.hid hWF
    clear hIF hWF
    have HLX := Lib.hid HL1.out
    have HLN := Lib.hid HN1.out
    have HUU := hvn
    go_wp2_with fail
    obtain ⟨Ac, cc, lc, ec, cwc, ffc, hoc⟩ := HIV.out.1.row HUU
    rw [HLX.out] at ec
    cases ec
    have hx1 : V2.cell? ⟨w.heap.size, 1, none⟩ = some (.slice (some ⟨b, o, none⟩) m d) := by rw [HWV.out.net.cell]; rfl
    have hx2 := Below.cellOf HWV.out.bel (Nat.le_refl _) CXV.out
    have hbl := lt_of_cell CXV.out
    simp only at hbl
    refine wp_region_K 20 (S := fun V => V.cell? ⟨w.heap.size, 1, none⟩ = some (.slice (some ⟨b, o, none⟩) m d) ∧ V.cell? ⟨b, o + j * 3 + 1, none⟩ = some (.int .i64 (v : Int)) ∧ V.cell? ⟨w.heap.size + 1 + 1 + 1 + 1, v, none⟩ = some (.slice Ac la.length cc)) (by kernel_rfl) ⟨hx1, hx2, cwc⟩ (fun _ => ?_)
    refine tkF 0 51 (h := ⟨_, tv, ?_⟩)
    simp only [pE, List.set]
    refine tkF 1 52 (h := ⟨_, tv, ?_⟩)
    simp only [pE, List.set]
    refine tkK 2 53 (h := ⟨_, tv, ?_⟩)
    simp only [pE, List.set]
    refine tkF 3 54 (h := ⟨_, tv, ?_⟩)
    simp only [pE, List.set]
    refine tkF 4 55 (h := ⟨_, tv, ?_⟩)
    simp only [pE, List.set]
    refine tkF 5 56 (h := ⟨_, tv, ?_⟩)
    simp only [pE, List.set]
    refine tkK 6 57 (h := ⟨_, tv, ?_⟩)
    simp only [pE, List.set]
    refine tkF 7 58 (h := ⟨_, tv, ?_⟩)
    simp only [pE, List.set]
    refine tkF 8 59 (h := ⟨_, tv, ?_⟩)
    simp only [pE, List.set]
    refine tkK 9 60 (h := ⟨_, tv, ?_⟩)
    simp only [pE, List.set]
    refine tkF 10 61 (h := ⟨_, tv, ?_⟩)
    simp only [pE, List.set]
    refine tkF 11 62 (h := ⟨_, tv, ?_⟩)
    simp only [pE, List.set]
    refine tkF 12 63 (h := ⟨_, tv, ?_⟩)
    simp only [pE, List.set]
    refine tkK 13 64 (h := ⟨_, tv, ?_⟩)
    simp only [pE, List.set]
    refine tkF 14 65 (h := ⟨_, tv, ?_⟩)
    simp only [pE, List.set]
    refine tkK 15 66 (h := ⟨_, tv, ?_⟩)
    simp only [pE, List.set]
    refine tkF 16 67 (h := ⟨_, tv, ?_⟩)
    simp only [pE, List.set]
    obtain ⟨w9, hw9⟩ : ∃ w9, w9 = (V2.alloc (.cells #[.int .i64 (j : Int)] 3)).drew := ⟨_, rfl⟩
    have hb9 : Below V2.heap.size V2 w9 := by rw [hw9]; exact ((Below.refl _ _).alloc (Nat.le_refl _) _).drew
    have hI9 := HIV.out.below hb9
    have hW9 := HWV.out.below hb9
    have hrd9 : Rds w9 1 (some ⟨V2.heap.size, 0, none⟩) 1 (icells [(j : Int)]) := by rw [hw9]; exact ((Blk.new V2 3 (ints [(j : Int)])).drew).rds rfl
    have hro9 := hoc.below hb9
    have hrc9 := Below.cellOf hb9 (Nat.le_refl _) cwc
    have hx19 := Below.cellOf hb9 (Nat.le_refl _) hx1
    have hx29 := Below.cellOf hb9 (Nat.le_refl _) hx2
    have hsz9 : w.heap.size + 5 ≤ w9.heap.size := hW9.size
    have hAz : ∀ g, blkOf Ac = some g → w.heap.size + 5 ≤ g := fun g e => (hoc.lt g e).1
    refine wpAnyK_one (i := 17) (by kernel_rfl) (by rfl) rfl (fun K hK => ?_)
    go_simp
    rw [← hw9]
    refine hK.out _ _ ⟨hx19, hx29, hrc9⟩ (fun _ => ?_)
    clear hK K hw9
    refine wpAnyK_one (i := 18) (by kernel_rfl) (by rfl) rfl (fun K hK => ?_)
    with_reducible refine step_app' (some 69) rfl rfl (.tmp 66) (.tmp 68) 36 rfl 3 _ 1 8 infoInt Tryz.underlying36 rfl (by omega) rfl rfl hro9 hrd9 (icells_one _) (by omega) (by omega) hsz9 ?_
    intro RA' rc' w10 ho10 hg10 hat10
    have hW10 := hW9.grown hg10 (fun g e => by have := hAz g e; omega)
    have hcg : w10.cell? ⟨w.heap.size + 1 + 1 + 1 + 1, v, none⟩ = some (.slice Ac la.length cc) := by
     rw [World.cell?_of_block (hg10.block (w.heap.size + 1 + 1 + 1 + 1) (by omega) (fun e => by have := hAz _ e.symm; omega))]
     exact hrc9
    have hcy : w10.cell? ⟨b, o + j * 3 + 1, none⟩ = some (.int .i64 (v : Int)) := Below.cellOf hW10.bel (Nat.le_refl _) CXV.out
    obtain ⟨xf, hfv, hff⟩ := hI9.1.cellG HUU hg10 (hro9.ne (by omega))
    refine hK.out _ _ ⟨by rw [hW10.net.cell]; rfl, hcy, hcg⟩ (fun _ => ?_)
    clear hK K
    simp only [Act.put, List.setIfInBounds_toArray, List.set_cons_zero, List.set_cons_succ]
    have hIF := hI9.push HLX.out hrc9 ho10 hg10 hat10
    have hWF := hW10.grown (grownBy_set w10 (w.heap.size + 1 + 1 + 1 + 1) v (.slice RA' (la.length + 1) rc')) (fun g e => by cases e; omega)
    refine tkF 19 70 (h := ⟨_, tv, ?_⟩)
    simp only [pE, List.set]
    refine wpAnyK_at (k := 20) (by kernel_rfl) rfl (fun K hK => ?_)
    go_simp
    refine hK.out _ _ ?_
    clear hK K
    refine wpAny_over (by kernel_rfl) ?_ _
    obtain ⟨V3, hVO⟩ : ∃ V3, V3 = w10.setCell ⟨w.heap.size + 1 + 1 + 1 + 1, v, none⟩ (.slice RA' (la.length + 1) rc') := ⟨_, rfl⟩
    rw [← hVO] at hIF hWF ⊢
    rw [HLN.out] at hIF
    clear hVO hcg hcy hfv hff ho10 hg10 hat10 hI9 hW9 hW10 hrd9 hro9 hrc9 hx19 hx29 hsz9 hb9 hAz cwc ffc hoc hx1 hx2 HIV HWV HLX HLN HUU
    have HIV := Lib.hid hIF.swap
    have HWV := Lib.hid hWF
    clear hIF hWF
    go_wp2_with fail
    go_roundw
    case rel => exact ⟨j + 1, by omega, by go_num, HWV.out, HIV.out⟩
    case measure => simp [intOf]; omega
  · obtain rfl : m = j := by omega
    have i1 : ¬ ((m : Int) < (m : Int)) := by omega
    obtain ⟨wB, hwB⟩ : ∃ wB, wB = wr := ⟨_, rfl⟩
    subst hwB
    rw [List.take_of_length_le (by rw [HLA.out]; exact Nat.le_refl _)] at hI
    obtain ⟨G0, hG0⟩ : ∃ G0 : Nat → Prop, G0 = fun b => w.heap.size + 3 ≤ b ∧ b < wB.heap.size := ⟨_, rfl⟩
    have HOUT := Lib.hid (show RdT (msk wB G0) (some ⟨w.heap.size + 1 + 1 + 1, 0, none⟩) n (idxs (·.1) N.ar n) from hI.1.rdM (by rw [hG0]; exact ⟨by omega, hI.1.lt⟩) (fun b h1 h2 => by rw [hG0]; exact ⟨by omega, h2⟩))
    have HIN := Lib.hid (show RdT (msk wB G0) (some ⟨w.heap.size + 1 + 1 + 1 + 1, 0, none⟩) n (idxs (·.2.1) N.ar n) from hI.2.1.rdM (by rw [hG0]; exact ⟨by omega, hI.2.1.lt⟩) (fun b h1 h2 => by rw [hG0]; exact ⟨by omega, h2⟩))
    have HLG := Lib.hid (show ∀ V, Kept (fun b => b ≠ w.heap.size + 1 + 1) wB V → Le (msk wB G0) V from fun V hV => (hV.mono (fun b hb => by rw [hG0] at hb; have := hb.1; omega)).msk.trans (msk_le _ _))
    have HWB := Lib.hid hW
    have HR0 := Lib.hid (show OfR w wB wB (.slice A n c) (.slice B m d) (.slice C k e) none 0 [] [] none 0 [] [] from ⟨Kept.refl _ _, Nat.le_refl _, hW.bel, hW.box, Tw.nil _ _ _ _⟩)
    clear hW hI hG0
    go_wp2_with fail
    go_loopw [7] (fun q V => ∃ (a : Nat) (AN : Option Addr) (cN : Nat) (xN : List Value) (AT : Option Addr) (cT : Nat) (xT : List Value), a ≤ m ∧ q = .int .i64 a ∧ OfR w wB V (.slice A n c) (.slice B m d) (.slice C k e) AN cN xN ((List.range a).map (nxtI N)) AT cT xT ((List.range a).map (trnI N))) (fun q _ => m - (intOf q).toNat)
    case atStart => exact ⟨0, none, 0, [], none, 0, [], Nat.zero_le _, rfl, HR0.out⟩
    case round =>
     clear HR0 x1 xl
     obtain ⟨a, AN, cN, xN, AT, cT, xT, ha, rfl, hR⟩ := hrel
     have HR := Lib.hid hR
     have hz5 := HWB.out.size
     have hzB := hR.size
     have hnet : Blk wr w.heap.size 26 #[.slice A n c, .slice B m d, .slice C k e] := (hR.kept w.heap.size (show w.heap.size ≠ w.heap.size + 1 + 1 by omega) HWB.out.net.lt).trans HWB.out.net
     have x1 : wr.cell? ⟨w.heap.size, 1, none⟩ = some (.slice B m d) := by rw [hnet.cell]; rfl
     have xl := hnet.lt
     by_cases haM : a < m
     rotate_left
     · obtain rfl : m = a := by omega
       have hres : Blk wr (w.heap.size + 1) 99 #[.slice none 0 0, .slice none 0 0, .slice none 0 0, .slice none 0 0, .slice none 0 0] := (hR.kept (w.heap.size + 1) (show w.heap.size + 1 ≠ w.heap.size + 1 + 1 by omega) HWB.out.res.lt).trans HWB.out.res
       have hl1 : ((List.range m).map (nxtI N)).length = m := by simp
       have hl2 : ((List.range m).map (trnI N)).length = m := by simp
       have hbx := hR.box
       rw [hl1, hl2] at hbx
       have y0 : wr.cell? ⟨w.heap.size + 1 + 1, 0, none⟩ = some (.slice A n c) := by rw [hbx.cell]; rfl
       have y1 : wr.cell? ⟨w.heap.size + 1 + 1, 1, none⟩ = some (.slice B m d) := by rw [hbx.cell]; rfl
       have y2 : wr.cell? ⟨w.heap.size + 1 + 1, 2, none⟩ = some (.slice C k e) := by rw [hbx.cell]; rfl
       have y3 : wr.cell? ⟨w.heap.size + 1 + 1, 3, none⟩ = some (.slice AN m cN) := by rw [hbx.cell]; rfl
       have y4 : wr.cell? ⟨w.heap.size + 1 + 1, 4, none⟩ = some (.slice AT m cT) := by rw [hbx.cell]; rfl
       have z0 : wr.cell? ⟨w.heap.size + 1, 0, none⟩ = some (.slice none 0 0) := by rw [hres.cell]; rfl
       have z1 : wr.cell? ⟨w.heap.size + 1, 1, none⟩ = some (.slice none 0 0) := by rw [hres.cell]; rfl
       have z2 : wr.cell? ⟨w.heap.size + 1, 2, none⟩ = some (.slice none 0 0) := by rw [hres.cell]; rfl
       have z3 : wr.cell? ⟨w.heap.size + 1, 3, none⟩ = some (.slice none 0 0) := by rw [hres.cell]; rfl
       have z4 : wr.cell? ⟨w.heap.size + 1, 4, none⟩ = some (.slice none 0 0) := by rw [hres.cell]; rfl
       have f0 := hres.frozen 0
       have f1 := hres.frozen 1
       have f2 := hres.frozen 2
       have f3 := hres.frozen 3
       have f4 := hres.frozen 4
       clear hR hl1 hl2 hbx
       go_wp2_with fail
       obtain ⟨w9, hw9⟩ : ∃ w9, w9 = ((((wr.setCell ⟨w.heap.size + 1, 0, none⟩ (.slice A n c)).setCell ⟨w.heap.size + 1, 1, none⟩ (.slice B m d)).setCell ⟨w.heap.size + 1, 2, none⟩ (.slice C k e)).setCell ⟨w.heap.size + 1, 3, none⟩ (.slice AN m cN)).setCell ⟨w.heap.size + 1, 4, none⟩ (.slice AT m cT) := ⟨_, rfl⟩
       rw [← hw9]
       have hB9 : Blk w9 (w.heap.size + 1) 99 #[.slice A n c, .slice B m d, .slice C k e, .slice AN m cN, .slice AT m cT] := by
        have := ((((hres.set_ 0 (.slice A n c)).set_ 1 (.slice B m d)).set_ 2 (.slice C k e)).set_ 3 (.slice AN m cN)).set_ 4 (.slice AT m cT)
        rw [← hw9] at this
        simpa using this
       have hb9 : Below w.heap.size w w9 := by
        rw [hw9]
        exact Bel.setCell_ (Bel.setCell_ (Bel.setCell_ (Bel.setCell_ (Bel.setCell_ HR.out.bel (by omega)) (by omega)) (by omega)) (by omega)) (by omega)
       have hk9 : Kept (fun b => wB.heap.size ≤ b) wr w9 := by rw [hw9]; exact set5_kept (fun (e : wB.heap.size ≤ w.heap.size + 1) => by omega) _ _ _ _ _
       obtain ⟨c0, c1, c2, c3, c4⟩ : w9.cell? ⟨w.heap.size + 1, 0, none⟩ = some (.slice A n c) ∧ w9.cell? ⟨w.heap.size + 1, 1, none⟩ = some (.slice B m d) ∧ w9.cell? ⟨w.heap.size + 1, 2, none⟩ = some (.slice C k e) ∧ w9.cell? ⟨w.heap.size + 1, 3, none⟩ = some (.slice AN m cN) ∧ w9.cell? ⟨w.heap.size + 1, 4, none⟩ = some (.slice AT m cT) := by
        refine ⟨?_, ?_, ?_, ?_, ?_⟩ <;> (rw [hB9.cell]; rfl)
       refine bodyPost_ret (v := .agg #[.slice A n c, .slice B m d, .slice C k e, .slice AN m cN, .slice AT m cT]) (by simp [results, Tryz.results47, go_sem, c0, c1, c2, c3, c4]) rfl ?_
       have r1 := HR.out.tw.rd1
       have r2 := HR.out.tw.swap.rd1
       rw [List.length_map, List.length_range] at r1 r2
       refine ⟨AN, cN, AT, cT, rfl, ?_, ?_, hb9⟩
       · have := r1.le (hk9.msk.trans (msk_le _ _))
         unfold nxtAll
         rw [HLA.out]
         exact this
       · have := r2.le (hk9.msk.trans (msk_le _ _))
         unfold trnAll
         rw [HLA.out]
         exact this
     obtain ⟨b, o, x, y, z, rfl, hx, cx, cy, cz⟩ := HH.out.2.1.at_ haM
     obtain ⟨lN, hlN⟩ : ∃ lN, lN = (List.range a).map (nxtI N) := ⟨_, rfl⟩
     obtain ⟨lT, hlT⟩ : ∃ lT, lT = (List.range a).map (trnI N) := ⟨_, rfl⟩
     rw [← hlN, ← hlT] at hR
     have HR := Lib.hid hR
     have hlN1 : lN.length ≤ 16384 := by rw [hlN, List.length_map, List.length_range]; omega
     have hlT1 : lT.length ≤ 16384 := by rw [hlT, List.length_map, List.length_range]; omega
     have HLNE := Lib.hid hlN
     have HLTE := Lib.hid hlT
     clear hlN hlT
     have hok := HOK.out.arcs _ (List.mem_of_getElem? hx)
     have g0 := hok.g0
     have g1 := hok.g1
     simp only at g0 g1
     rw [HLV.out] at g1
     obtain ⟨v, rfl⟩ : ∃ v : Nat, y = v := ⟨y.toNat, by omega⟩
     have hvn : v < n := by omega
     obtain ⟨b2, o2, v1, v2, v3, rfl, hv, vx, vy, vz⟩ := HH.out.1.at_ (i := v) hvn
     have hvo := HOK.out.verts _ (List.mem_of_getElem? hv)
     obtain ⟨t, rfl⟩ : ∃ t : Nat, v3 = (t : Int) := ⟨v3.toNat, by have := hvo.t0; simp only at this; omega⟩
     have htk : t < k := by have h1 := hvo.t1; have := HLT.out; simp only at h1; omega
     obtain ⟨b3, o3, tb, rfl, htb, t0, t1, AQ, nT, cQ, t2, hrd, hnT, hcT⟩ := HH.out.2.2.at_ htk
     have hto := HOK.out.tabs tb (List.mem_of_getElem? htb)
     have hmt := HOK.out.meet v _ tb hv (by simpa using htb)
     obtain ⟨i, hi⟩ : ∃ i : Nat, i = (idx (·.2.1) (N.ar.take a) (v : Int)).length := ⟨_, rfl⟩
     have hip : (i : Int) < tb.ins := by rw [← hmt.1, hi]; exact_mod_cast place_lt (f := (·.2.1)) hx rfl
     have hpi : plI (idx (·.2.1) N.ar (v : Int)) (a : Int) = (i : Int) := by rw [hi]; exact plI_idx (f := (·.2.1)) hx
     have hle := HLG.out wr hR.kept
     obtain ⟨_, _, Ai, ni, ci, li, eI, hli, ki, ri, _, _⟩ := HIN.out.at_ hvn
     cases eI
     rw [idxs_get hvn] at hli
     cases hli
     obtain ⟨_, _, Ao, no, co, lo, eO, hlo, ko, ro, _, _⟩ := HOUT.out.at_ hvn
     cases eO
     rw [idxs_get hvn] at hlo
     cases hlo
     rw [Nat.zero_add] at ki ko
     have ki' := hle _ _ ki
     have ko' := hle _ _ ko
     have hol : (idx (·.1) N.ar (v : Int)).length = no := ro.1
     have hno : no ≤ 16384 := by have h1 := idx_bd (·.1) N.ar N.ar.length (v : Int); rw [List.take_length] at h1; have := HLA.out; omega
     have hni : ni ≤ 1000000000 := by have h1 := idx_bd (·.2.1) N.ar N.ar.length (v : Int); rw [List.take_length] at h1; have := ri.1; have := HLA.out; omega
     have HPL := Lib.hid (place_any Ai ni ci _ (a : Int) wr (ri.le hle) hni)
     have HPI := Lib.hid hpi
     have HRO := Lib.hid (ro.le hle)
     have HOL := Lib.hid hol
     have HX := Lib.hid hx
     have HTN := Lib.hid (fun (b' q : Nat) (hb' : (idx (·.1) N.ar (v : Int))[q]? = some (b' : Int)) => show ∀ z, tb.costs[i * tb.outs.toNat + q]? = some z → turnN N a b' = z from fun z hz => by
      obtain ⟨⟨y1, y2, y3⟩, hy, e, hq⟩ := idx_pos hb'
      simp only at e
      subst e
      exact turnN_eq hx hy hv htb (by rw [← hi, hq]; exact hz))
     have HQO := Lib.hid (fun (q b' : Nat) (hb' : (idx (·.1) N.ar (v : Int))[q]? = some (b' : Int)) => show (q : Int) < tb.outs from by
      obtain ⟨y, hy, e, hq⟩ := idx_pos hb'
      rw [← hmt.2, ← hq]
      exact_mod_cast place_lt (f := (·.1)) hy e)
     have HTA := Lib.hid (fun (q : Nat) V (hV : Below w.heap.size w V) (hq : (q : Int) < tb.outs) => refTurnAt_ok AQ nT cQ tb i q V (hrd.below hV) hto hip hq)
     have cy' := Below.cellOf hR.bel (Nat.le_refl _) cy
     have HSXX := Lib.hid (show ∀ V, Below wr.heap.size wr V → V.cell? ⟨w.heap.size, 0, none⟩ = some (.slice (some ⟨b2, o2, none⟩) n c) ∧ V.cell? ⟨w.heap.size, 2, none⟩ = some (.slice (some ⟨b3, o3, none⟩) k e) ∧ V.cell? ⟨w.heap.size + 1 + 1 + 1, v, none⟩ = some (.slice Ao no co) ∧ V.cell? ⟨b2, o2 + v * 3 + 2, none⟩ = some (.int .i64 t) ∧ V.cell? ⟨b3, o3 + t * 3, none⟩ = some (.int .i64 tb.ins) ∧ V.cell? ⟨b3, o3 + t * 3 + 1, none⟩ = some (.int .i64 tb.outs) ∧ V.cell? ⟨b3, o3 + t * 3 + 2, none⟩ = some (.slice AQ nT cQ) from
      fun V hV => ⟨by rw [(hnet.below hV hnet.lt).cell]; rfl, by rw [(hnet.below hV hnet.lt).cell]; rfl, Below.cellOf hV (Nat.le_refl _) ko', Below.cellOf (Bel.step hR.bel hV) (Nat.le_refl _) vz, Below.cellOf (Bel.step hR.bel hV) (Nat.le_refl _) t0, Below.cellOf (Bel.step hR.bel hV) (Nat.le_refl _) t1, Below.cellOf (Bel.step hR.bel hV) (Nat.le_refl _) t2⟩)
     have k1 : (a : Int) < (m : Int) := by omega
     have k2 : (0 : Int) ≤ (a : Int) := by omega
     have k3 : (0 : Int) ≤ (v : Int) := by omega
     have k4 : (v : Int) < (n : Int) := by omega
     have k5 : (0 : Int) ≤ (t : Int) := by omega
     have k6 : (t : Int) < (k : Int) := by omega
     clear hx cx cy cz hok g0 g1 hv vx vy vz hvo htb t0 t1 t2 hrd hnT hcT hto hmt hi hip hpi ki ko ri ro hol hni hnet hle hR
     go_wp2_with fail
     with_reducible refine HPL.out.mono ?_
     rintro r w' ⟨rfl, rfl⟩
     rw [HPI.out]
     go_wp2_with fail
     clear HPL ki' cy' x1
     obtain ⟨wo, hwo⟩ : ∃ wo, wo = wr := ⟨_, rfl⟩
     subst hwo
     go_loopw [10, 11, 12] (fun zn zt q V => ∃ (kk : Nat) (An : Option Addr) (cn : Nat) (At : Option Addr) (ct : Nat), kk ≤ no ∧ q = .int .i64 kk ∧ zn = .slice An (nxK N a v kk).length cn ∧ zt = .slice At (nxK N a v kk).length ct ∧ Own V wo.heap.size 3 1 An (nxK N a v kk).length cn (icells (nxK N a v kk)) ∧ Own V wo.heap.size 2 1 At (nxK N a v kk).length ct (icells (trK N a v kk)) ∧ (∀ g, blkOf An = some g → blkOf At ≠ some g) ∧ Below wo.heap.size wo V) (fun _ _ q _ => no - (intOf q).toNat)
     case atStart => exact ⟨0, none, 0, none, 0, Nat.zero_le _, rfl, rfl, rfl, Own.nil _ _ _ _, Own.nil _ _ _ _, (fun g e => by cases e), Below.refl _ _⟩
     case round =>
      obtain ⟨kk, An, cn, At, ct, hkk, rfl, rfl, rfl, hon, hot, hdj, hbl⟩ := hrel
      have HDJ := Lib.hid hdj
      have HBL := Lib.hid hbl
      have hnl := nxK_le N a v kk
      obtain ⟨nx, hnx⟩ : ∃ nx, nx = nxK N a v kk := ⟨_, rfl⟩
      obtain ⟨tr, htr⟩ : ∃ tr, tr = trK N a v kk := ⟨_, rfl⟩
      have htl : tr.length = nx.length := by rw [hnx, htr]; exact trK_len N a v kk
      rw [← hnx] at hnl hon hot ⊢
      rw [← htr] at hot
      have HON := Lib.hid hon
      have HOT := Lib.hid hot
      have HNX := Lib.hid hnx
      have HTR := Lib.hid htr
      have HTL := Lib.hid htl
      clear hnx htr htl
      have q1 := (HSXX.out wr hbl).2.2.1
      have hblz := hbl.size
      clear hon hot hdj hbl
      by_cases hlt2 : kk < no
      rotate_left
      · obtain rfl : kk = no := by omega
        have j2 : ¬ ((kk : Int) < (kk : Int)) := by omega
        have hall := nxK_all HX.out rfl (k := kk) (by rw [HOL.out]; exact Nat.le_refl _)
        rw [← HNX.out, ← HTR.out] at hall
        have HALL := Lib.hid hall
        have HRB := Lib.hid (HR.out.below HBL.out)
        have y3 : wr.cell? ⟨w.heap.size + 1 + 1, 3, none⟩ = some (.slice AN lN.length cN) := by rw [HRB.out.box.cell]; rfl
        have yl := HRB.out.box.lt
        obtain ⟨W2, hW2⟩ : ∃ W2, W2 = wr.alloc (.cells #[.slice An nx.length cn] 36) := ⟨_, rfl⟩
        have hbW : Below wr.heap.size wr W2 := by rw [hW2]; exact bELt
        have HR2 := Lib.hid (HRB.out.below hbW)
        have HON2 := Lib.hid (HON.out.below hbW)
        have HOT2 := Lib.hid (HOT.out.below hbW)
        have hown := HR2.out.tw.o1
        have hrd : Rds W2 1 (some ⟨wr.heap.size, 0, none⟩) 1 [.slice An nx.length cn] := by rw [hW2]; exact (Blk.new wr 36 #[.slice An nx.length cn]).rds rfl
        have hsz : wB.heap.size ≤ W2.heap.size := HR2.out.size
        have hAN : ∀ g, blkOf AN = some g → g < wo.heap.size := fun g e => (HR.out.tw.o1.lt g e).2
        have hAT : ∀ g, blkOf AT = some g → g < wo.heap.size := fun g e => (HR.out.tw.o2.lt g e).2
        have HAN := Lib.hid hAN
        have HAT := Lib.hid hAT
        have hRD : RdI (msk W2 (GG wB.heap.size W2 AN AT)) An nx.length nx := (HON2.out.rds.rdI).msk (fun b hb => ⟨by have := (HON2.out.lt b hb).1; have := HR.out.size; omega, (HON2.out.lt b hb).2, fun e => by have := (HON2.out.lt b hb).1; have := hAN b e; omega, fun e => by have := (HON2.out.lt b hb).1; have := hAT b e; omega⟩)
        have HRD := Lib.hid hRD
        have HW2 := Lib.hid hW2
        clear hW2 hRD hall hAN hAT
        go_wp2_with (at_builtin; rw [← HW2.out]; with_reducible refine wpList_app rfl (.tmp 129) (.tmp 131) 27 rfl 36 _ 1 24 infoRw Tryz.underlying27 rfl (by omega) rfl rfl hown hrd (slice_one _ _ _) (by omega) (by omega) hsz ?_)
        intro A3 c3 w8 ho8 hg8 hat8
        have hB8 := HR2.out.box.grown hg8 (fun e => by have := (hown.lt _ e).1; omega)
        have v5 : w8.cell? ⟨w.heap.size + 1 + 1, 3, none⟩ = some (.slice AN lN.length cN) := by rw [hB8.cell]; rfl
        have v6 := hB8.frozen 3
        have v7 := hB8.lt
        obtain ⟨V3, hV3⟩ : ∃ V3, V3 = w8.setCell ⟨w.heap.size + 1 + 1, 3, none⟩ (.slice A3 (lN.length + 1) c3) := ⟨_, rfl⟩
        have HP := Lib.hid (HR2.out.pushN hz5 HRD.out HON2.out.cap HON2.out.capMax ho8 hg8 hat8)
        rw [← hV3] at HP
        have HOT3 := Lib.hid (show Own V3 wo.heap.size 2 1 At nx.length ct (icells tr) from by
         rw [hV3]
         refine (HOT2.out.far hg8 ?_).far (grownBy_set _ _ _ _) (.inr (fun e => by have := (HOT2.out.lt _ e).1; omega))
         cases e : blkOf At with
         | none => exact .inl rfl
         | some g => exact .inr (fun e2 => by have := HAN.out g e2.symm; have := (HOT2.out.lt g e).1; omega))
        have HA3 := Lib.hid (show ∀ g, blkOf A3 = some g → blkOf At ≠ some g from fun g e e2 => by
         have h1 := HOT2.out.lt g e2
         rcases hat8 with e3 | e3
         · have := HAN.out g (e3 ▸ e); omega
         · rw [e3] at e; have := Option.some.inj e; omega)
        have HV3 := Lib.hid hV3
        have v4 : w8.cell? ⟨w.heap.size + 1 + 1, 4, none⟩ = some (.slice AT lT.length cT) := by rw [hB8.cell]; rfl
        have hz38 : V3.heap.size = w8.heap.size := by rw [hV3]; simp [World.setCell]
        clear hown hrd hsz ho8 hg8 hat8 hB8 HW2 hV3
        obtain ⟨W4, hW4⟩ : ∃ W4, W4 = V3.alloc (.cells #[.slice At nx.length ct] 44) := ⟨_, rfl⟩
        have hbW4 : Below V3.heap.size V3 W4 := by rw [hW4]; exact bELt
        have HR4 := Lib.hid (HP.out.below hbW4)
        have HOT4 := Lib.hid (HOT3.out.below hbW4)
        have hown := HR4.out.tw.o2
        have hrd : Rds W4 1 (some ⟨w8.heap.size, 0, none⟩) 1 [.slice At nx.length ct] := by rw [← hz38, hW4]; exact (Blk.new V3 44 #[.slice At nx.length ct]).rds rfl
        have hsz : wB.heap.size ≤ W4.heap.size := HR4.out.size
        have HRD2 := Lib.hid (show RdI (msk W4 (GG wB.heap.size W4 A3 AT)) At tr.length tr from by
         rw [HTL.out]
         exact (HOT4.out.rds.rdI).msk (fun b hb => ⟨by have := (HOT4.out.lt b hb).1; have := HR.out.size; omega, (HOT4.out.lt b hb).2, fun e => HA3.out b e hb, fun e => by have := (HOT4.out.lt b hb).1; have := HAT.out b e; omega⟩))
        have HW4 := Lib.hid hW4
        clear hW4 hz38
        go_wp2_with (at_builtin; rw [← HV3.out, ← HW4.out]; with_reducible refine wpList_app rfl (.tmp 135) (.tmp 137) 97 rfl 44 _ 1 24 infoI64s Tryz.underlying97 rfl (by omega) rfl rfl hown hrd (slice_one _ _ _) (by omega) (by omega) hsz ?_)
        intro A5 c5 w9 ho9 hg9 hat9
        clear v5 v6 v7 v4 y3 yl
        have hB9 := HR4.out.box.grown hg9 (fun e => by have := (hown.lt _ e).1; omega)
        have v5 : w9.cell? ⟨w.heap.size + 1 + 1, 4, none⟩ = some (.slice AT lT.length cT) := by rw [hB9.cell]; rfl
        have v6 := hB9.frozen 4
        have v7 := hB9.lt
        rw [← HTL.out] at ho9
        have HP2 := Lib.hid (HR4.out.pushT hz5 HRD2.out (by rw [HTL.out]; exact HOT4.out.cap) HOT4.out.capMax ho9 hg9 hat9)
        have HFN := Lib.hid (show (List.range (a + 1)).map (nxtI N) = lN ++ [nx] by rw [nxtAll_next.1, HALL.out.1, HLNE.out])
        have HFT := Lib.hid (show (List.range (a + 1)).map (trnI N) = lT ++ [tr] by rw [nxtAll_next.2, HALL.out.2, HLTE.out])
        clear hown hrd hsz ho9 hg9 hat9 hB9 HW4
        go_wp2_with fail
        go_roundw
        case rel => exact ⟨a + 1, A3, c3, _, A5, c5, _, by omega, by go_num, by rw [HFN.out, HFT.out]; exact HP2.out⟩
        case measure => simp [intOf]; omega
      · obtain ⟨bO, oO, zO, rfl, hzO, hcO⟩ := (HRO.out.below HBL.out).at_ hlt2
        obtain ⟨b', yO, rfl, _, _⟩ := mem_idx.1 (List.mem_of_getElem? hzO)
        have HZO := Lib.hid hzO
        have j1 : (kk : Int) < (no : Int) := by omega
        have j2 : (0 : Int) ≤ (kk : Int) := by omega
        have HSX := Lib.hid (fun V (hV : Below wr.heap.size wr V) => HSXX.out V (Bel.step HBL.out hV))
        have HCO := Lib.hid hcO
        have HBW := Lib.hid (Bel.step HR.out.bel HBL.out)
        clear hzO hcO
        go_wp2_with fail
        refine wp_region_held_drew (S := fun V => Below wr.heap.size wr V) (by kernel_rfl) (Below.refl _ _).drew (fun _ => ?_)
        refine tk 0 99 (h := ⟨_, tv, ?_⟩)
        simp only [pE, List.set]
        refine tk 1 100 (h := ⟨_, tv, ?_⟩)
        simp only [pE, List.set]
        refine tk 2 101 (h := ⟨_, tv, ?_⟩)
        simp only [pE, List.set]
        refine tk 3 102 (h := ⟨_, tv, ?_⟩)
        simp only [pE, List.set]
        refine tk 4 103 (h := ⟨_, tv, ?_⟩)
        simp only [pE, List.set]
        refine tk 5 104 (h := ⟨_, tv, ?_⟩)
        simp only [pE, List.set]
        refine tk 6 105 (h := ⟨_, tv, ?_⟩)
        simp only [pE, List.set]
        refine tk 7 106 (h := ⟨_, tv, ?_⟩)
        simp only [pE, List.set]
        refine tk 8 107 (h := ⟨_, tv, ?_⟩)
        simp only [pE, List.set]
        refine tk 9 108 (h := ⟨_, tv, ?_⟩)
        simp only [pE, List.set]
        refine tk 10 109 (h := ⟨_, tv, ?_⟩)
        simp only [pE, List.set]
        refine tk 11 110 (h := ⟨_, tv, ?_⟩)
        simp only [pE, List.set]
        refine wpAnyH_ready (rs := [12]) (by kernel_rfl) (by simp) ?_
        refine AllReadyH.cons (o := _) rfl (fun K hK => ?_) AllReadyH.nil
        go_simp
        with_reducible refine (HTA.out kk _ (HBW.out.trans ((Below.refl _ _).drew.mono HBW.out.size)) (HQO.out kk b' HZO.out)).mono ?_
        rintro r w2 ⟨zz, hzz, rfl, hb2⟩
        have hb2' : Below wr.heap.size wr w2 := (Below.refl _ _).drew.trans hb2
        have HZ := Lib.hid (HTN.out b' kk HZO.out zz hzz)
        clear hzz hb2
        go_simp
        refine hK.out _ _ hb2' (fun _ => ?_)
        clear hK K
        refine tk 13 13 (h := ⟨_, tv, ?_⟩)
        simp only [pE, List.set]
        refine wpAnyH_done (by kernel_rfl) ?_ _
        have HB2 := Lib.hid (Bel.step HBL.out hb2')
        have HON1 := Lib.hid (HON.out.below hb2')
        have HOT1 := Lib.hid (HOT.out.below hb2')
        have q2 := (HSX.out w2 hb2').2.2.1
        have hc2 := Below.cellOf hb2' (Nat.le_refl _) HCO.out
        have hz2 := hb2'.size
        clear hb2' q1 HSX
        by_cases hinf : zz = 1152921504606846976
        · have e1 : (zz != 1152921504606846976) = false := by simp [hinf]
          have hout := nxK_out HZO.out (by rw [HZ.out]; exact hinf)
          rw [← HNX.out, ← HTR.out] at hout
          have HOUT2 := Lib.hid hout
          clear hout hinf
          go_wp2_with fail
          go_roundw
          case rel => exact ⟨kk + 1, An, cn, At, ct, by omega, by go_num, by rw [HOUT2.out.1], by rw [HOUT2.out.1], by rw [HOUT2.out.1]; exact HON1.out, by rw [HOUT2.out.1, HOUT2.out.2]; exact HOT1.out, HDJ.out, HB2.out⟩
          case measure => simp [intOf]; omega
        · have e1 : (zz != 1152921504606846976) = true := by simp [hinf]
          have hin := nxK_in HZO.out (by rw [HZ.out]; exact hinf)
          rw [← HNX.out, ← HTR.out, HZ.out] at hin
          have HIN2 := Lib.hid hin
          clear hin hinf
          obtain ⟨W3, hW3⟩ : ∃ W3, W3 = w2.alloc (.cells #[.int .i64 (b' : Int)] 3) := ⟨_, rfl⟩
          have hbW : Below w2.heap.size w2 W3 := by rw [hW3]; exact bELt
          have HON2 := Lib.hid (HON1.out.below hbW)
          have HOT2 := Lib.hid (HOT1.out.below hbW)
          have HB3 := Lib.hid (Bel.step HB2.out hbW)
          have hown := HON2.out
          have hrd : Rds W3 1 (some ⟨w2.heap.size, 0, none⟩) 1 (icells [(b' : Int)]) := by rw [hW3]; exact (Blk.new w2 3 #[.int .i64 (b' : Int)]).rds rfl
          have hsz : wo.heap.size ≤ W3.heap.size := HB3.out.size
          have HW3 := Lib.hid hW3
          clear hW3 hbW
          go_wp2_with (at_builtin; rw [← HW3.out]; with_reducible refine wpList_app rfl (.tmp 114) (.tmp 122) 36 rfl 3 _ 1 8 infoInt Tryz.underlying36 rfl (by omega) rfl rfl hown hrd (icells_one _) (by omega) (by omega) hsz ?_)
          intro A3 c3 w8 ho8 hg8 hat8
          have HB8 := Lib.hid (Bel.grownOwn HB3.out hg8 hown hsz)
          have HOT8 := Lib.hid (show Own w8 wo.heap.size 2 1 At nx.length ct (icells tr) from by
           refine HOT2.out.far hg8 ?_
           cases e : blkOf At with
           | none => exact .inl rfl
           | some g => exact .inr (fun e2 => HDJ.out g e2.symm e))
          have HO8 := Lib.hid ho8
          have HD8 := Lib.hid (show ∀ g, blkOf A3 = some g → blkOf At ≠ some g ∧ g < w8.heap.size from fun g e => ⟨fun e2 => by
           rcases hat8 with e3 | e3
           · exact HDJ.out g (e3 ▸ e) e2
           · rw [e3] at e; have := Option.some.inj e; have := (HOT2.out.lt g e2).2; omega, (ho8.lt g e).2⟩)
          clear hown hrd hsz ho8 hg8 hat8 HW3
          obtain ⟨W4, hW4⟩ : ∃ W4, W4 = w8.alloc (.cells #[.int .i64 zz] 2) := ⟨_, rfl⟩
          have hbW4 : Below w8.heap.size w8 W4 := by rw [hW4]; exact bELt
          have HOT9 := Lib.hid (HOT8.out.below hbW4)
          have HO9 := Lib.hid (HO8.out.below hbW4)
          have HB9 := Lib.hid (Bel.step HB8.out hbW4)
          have hown := HOT9.out
          have hrd : Rds W4 1 (some ⟨w8.heap.size, 0, none⟩) 1 (icells [zz]) := by rw [hW4]; exact (Blk.new w8 2 #[.int .i64 zz]).rds rfl
          have hsz : wo.heap.size ≤ W4.heap.size := HB9.out.size
          have hz84 := hbW4.size
          have HW4 := Lib.hid hW4
          clear hW4 hbW4
          go_wp2_with (at_builtin; rw [← HW4.out]; with_reducible refine wpList_app rfl (.tmp 124) (.tmp 126) 44 rfl 2 _ 1 8 infoI64 Tryz.underlying44 rfl (by omega) rfl rfl hown hrd (icells_one _) (by omega) (by omega) hsz ?_)
          intro A5 c5 w9 ho9 hg9 hat9
          have HB10 := Lib.hid (Bel.grownOwn HB9.out hg9 hown hsz)
          have HO10 := Lib.hid (show Own w9 wo.heap.size 3 1 A3 (nx.length + 1) c3 (icells nx ++ icells [(b' : Int)]) from by
           refine HO9.out.far hg9 ?_
           cases e : blkOf A3 with
           | none => exact .inl rfl
           | some g => exact .inr (fun e2 => (HD8.out g e).1 e2.symm))
          have HO11 := Lib.hid ho9
          have HD10 := Lib.hid (show ∀ g, blkOf A3 = some g → blkOf A5 ≠ some g from fun g e e2 => by
           rcases hat9 with e3 | e3
           · exact (HD8.out g e).1 (e3 ▸ e2)
           · rw [e3] at e2; have := Option.some.inj e2; have := (HD8.out g e).2; omega)
          have HL1 := Lib.hid (show (nxK N a v (kk + 1)).length = nx.length + 1 by rw [HIN2.out.1, List.length_append]; rfl)
          clear hown hrd hsz ho9 hg9 hat9 HW4
          go_wp2_with fail
          go_roundw
          case rel => exact ⟨kk + 1, A3, c3, A5, c5, by omega, by go_num, by rw [HL1.out], by rw [HL1.out], by rw [HL1.out, HIN2.out.1, icells_app]; exact HO10.out, by rw [HL1.out, HIN2.out.2, icells_app]; exact HO11.out, HD10.out, HB10.out⟩
          case measure => simp [intOf]; omega
end Go.Proofs.YtgkeolddpielpaaGreat
