/- Parts of the proof: QCu3, QCu4. -/
import Derived.Test.YtpffhoefmcpniaaGreatDoorB1
import Derived.Test.YtpffhoefmcpniaaGreatDoorB11
import Derived.Test.YtpffhoefmcpniaaGreatDoorB12
namespace Go.Proofs.YtpffhoefmcpniaaGreatDoor
open Go.RowKit

attribute [local go_sem ↓] Go.wp_at_zero Go.wp_at_succ

theorem infoSplit : (Tryz.prog.info? 162).map (fun i => (i.zero, i.size, i.bytes)) = some (some (.agg #[.slice none 0 0, .int .i64 0, .int .i64 0, .int .i64 0]), 4, 48) := by kernel_rfl
theorem RdB.notI {W : World} {A : Option Addr} {n g : Nat} {l : List Int} {t : TypeId} {b : List Bool} (h : RdI W A n l) (hn : 0 < n) (hB : Blk W g t (bools b)) : blkOf A ≠ some g := fun e => by
 obtain ⟨b', o, x, ea, _, hc⟩ := h.at_ hn
 subst ea
 obtain rfl : b' = g := by injection e
 rw [hB.cell, bools_get] at hc
 cases hb : b[o + 0]? with
 | none => rw [hb] at hc; cases hc
 | some y => rw [hb] at hc; cases hc
def FreshAt (B : Nat) (p : Value × Spl) : Prop := ∀ A' n' c' g, p.1 = .slice A' n' c' → blkOf A' = some g → B ≤ g
def spZ (k : Nat) : Array Value := ((List.replicate k [Value.slice none 0 0, .int .i64 0, .int .i64 0, .int .i64 0]).flatten).toArray
theorem run_make3 (W : World) : (Instr.makeSlice 187 (.int .i64 0) (.int .i64 3)).run Tryz.prog W = .ok (.slice (some ⟨W.heap.size, 0, none⟩) 0 3) (W.alloc (.cells (spZ 3) 162)) := by kernel_rfl
theorem run_make12 (W : World) : (Instr.makeSlice 187 (.int .i64 0) (.int .i64 12)).run Tryz.prog W = .ok (.slice (some ⟨W.heap.size, 0, none⟩) 0 12) (W.alloc (.cells (spZ 12) 162)) := by kernel_rfl
theorem three_at {α : Type} {a b c p : α} {k : Nat} (h : [a, b, c][k]? = some p) : (k = 0 ∧ p = a) ∨ (k = 1 ∧ p = b) ∨ (k = 2 ∧ p = c) := by
 match k, h with
 | 0, h => cases h; exact .inl ⟨rfl, rfl⟩
 | 1, h => cases h; exact .inr (.inl ⟨rfl, rfl⟩)
 | 2, h => cases h; exact .inr (.inr ⟨rfl, rfl⟩)
 | k + 3, h => simp at h

set_option maxHeartbeats 8000000 in
set_option maxRecDepth 100000 in
theorem toward_any (A B : Option Addr) (n m c d dir : Nat) (l E : List (Int × Int)) (w : World) (h : RdP w A n l) (hE : RdP w B m E) (hG : Good l E) (hn : n ≤ 4096) (hm : m ≤ 16384) (hd : dir ≤ 3) :
 Calls Tryz.prog 97 #[.slice A n c, .slice B m d, .int .i64 dir] w fun e w' => ∃ (A' : Option Addr) (c' : Nat) (M : List (Value × Spl)), e = .returned (.tuple #[.slice A' 3 c', .nilIface]) ∧ SpO w' w.heap.size 162 A' 3 c' M ∧ (∀ p ∈ M, FreshAt w.heap.size p) ∧ (∀ k p, M[k]? = some p → IsSpl E l (3 * dir + k) p.2) ∧ Below w.heap.size w w' := by
 have hl := h.1
 obtain ⟨g2, gN, gE⟩ := hG
 rw [hl] at g2 gE
 have he := ends_two g2
 have HN := Lib.hid gN
 have HE := Lib.hid gE
 have HL := Lib.hid hl
 have hmk := run_makeB n (by omega)
 have hsrc := Lib.hid (show nats (srcN l dir) = (order l dir).take (endsN n) from by
  unfold srcN
  rw [nats_of (fun x hx => (order_mem (List.mem_of_mem_take hx)).1), HL.out])
 have hdst := Lib.hid (show nats (dstN l dir) = (order l dir).drop (n - endsN n) from by
  unfold dstN
  rw [nats_of (fun x hx => (order_mem (List.mem_of_mem_drop hx)).1), HL.out])
 have hhlf := Lib.hid (show nats (hlfN l dir) = (order l dir).take ((n + 1) / 2) from by
  unfold hlfN
  rw [nats_of (fun x hx => (order_mem (List.mem_of_mem_take hx)).1), HL.out])
 have HO := Lib.hid (show ∀ V, RdP V A n l → Calls Tryz.prog 104 #[.slice A n c, .int .i64 dir] V fun e w' => ∃ A', e = .returned (.slice A' n n) ∧ RdI w' A' n (order l dir) ∧ Below V.heap.size V w' from
  fun V hV => order_any A n c l dir V hV (by omega) (by omega) (by omega) (fun p hp => by have := near1_bd (HN.out p hp); omega))
 clear hl gN gE
 go_enter Tryz.func97, Tryz.ntmps97
 go_wp2_with fail
 with_reducible refine (HO.out _ h).mono ?_
 rintro e w1 ⟨A1, rfl, h1, b1⟩
 have H1 := Lib.hid h1
 clear h1
 go_wp2_with fail
 with_reducible refine (ends2_any A1 n n _ w1 H1.out (by omega) (by omega)).mono ?_
 rintro e w2 ⟨A2, A3, rfl, h2, h3, b2⟩
 have b02 : Below w.heap.size w w2 := Bel.step b1 b2
 rw [← hsrc.out] at h2
 rw [← hdst.out] at h3
 have HM := Lib.hid (max_any B A2 A3 n m d (endsN n) (endsN n) (endsN n) (endsN n) E (srcN l dir) (dstN l dir) w2 (hE.below b02) HE.out h2 h3 (fun v hv => by have := srcN_lt hv; rw [HL.out] at this; exact this) (fun v hv => by have := dstN_lt hv; rw [HL.out] at this; exact this) (fun v hv => srcN_dst (by rw [HL.out]; exact g2) hv) hn hm (by omega) (by omega))
 have H12 := Lib.hid (H1.out.below b2)
 clear h2 h3 b1 b2 H1
 go_wp2_with fail
 with_reducible refine HM.out.mono ?_
 rintro e w3 ⟨V, g1, gn, gf, nb, fb, rfl, hnb, hfb, hN, hF, hcr, b3, hgn, hgf⟩
 have b03 : Below w.heap.size w w3 := Bel.step b02 b3
 have z02 := b02.size
 have HNB := Lib.hid hnb
 have HFB := Lib.hid hfb
 have HNN := Lib.hid hN
 have HFF := Lib.hid hF
 have H13 := Lib.hid (H12.out.below b3)
 clear hnb hfb hN hF hcr H12 HM b02 b3
 go_wp2_with fail
 (refine calls_named ?_; intro w4 hw4)
 have b34 : Below w3.heap.size w3 w4 := by rw [hw4]; exact bELt
 have hR4 : Blk w4 w3.heap.size 202 #[.int .i64 V, .slice (some ⟨g1, 0, none⟩) m m, .slice (some ⟨gn, 0, none⟩) n n, .slice (some ⟨gf, 0, none⟩) n n] := by rw [hw4]; exact bLNt
 have hH4 : Blk w4 (w3.heap.size + 1) 4 (zeros (.bool false) n) := by rw [hw4]; exact bLNt
 clear hw4 hmk
 with_reducible refine (half_any A1 n n _ w4 (H13.out.below b34) (by omega) (by omega)).mono ?_
 rintro e w5 ⟨A5, rfl, h5, b5⟩
 have b35 : Below w3.heap.size w3 w5 := Bel.step b34 b5
 have b05 : Below w.heap.size w w5 := Bel.step b03 b35
 have hR5 := hR4.below b5 hR4.lt
 have hH5 := hH4.below b5 hH4.lt
 rw [← mkB_nil n (hlfN l dir)] at hH5
 rw [← hhlf.out] at h5
 have hne5 := RdB.notI h5 (by omega) hH5
 have HNB5 := Lib.hid (HNB.out.below b35)
 have HFB5 := Lib.hid (HFB.out.below b35)
 have H5 := Lib.hid h5
 have z03 := b03.size
 have zN : gn < w3.heap.size := by obtain ⟨b', o', x', ea, _, hc⟩ := HNB.out.at_ (i := 0) (by omega); cases ea; exact lt_of_cell hc
 have zF : gf < w3.heap.size := by obtain ⟨b', o', x', ea, _, hc⟩ := HFB.out.at_ (i := 0) (by omega); cases ea; exact lt_of_cell hc
 clear b34 b5 hR4 hH4 h5 HNB HFB H13 b35
 go_wp2_with fail
 go_loopw [45] (fun i W => ∃ k : Nat, k ≤ (n + 1) / 2 ∧ i = .int .i64 k ∧ Blk W (w3.heap.size + 1) 4 (bools (mkB n ((hlfN l dir).take k))) ∧ RdI W A5 ((n + 1) / 2) (nats (hlfN l dir)) ∧ Blk W w3.heap.size 202 #[.int .i64 V, .slice (some ⟨g1, 0, none⟩) m m, .slice (some ⟨gn, 0, none⟩) n n, .slice (some ⟨gf, 0, none⟩) n n] ∧ RdB W (some ⟨gn, 0, none⟩) n nb ∧ RdB W (some ⟨gf, 0, none⟩) n fb ∧ Below w.heap.size w W) (fun i _ => (n + 1) / 2 - (intOf i).toNat)
 case atStart => exact ⟨0, Nat.zero_le _, rfl, hH5, H5.out, hR5, HNB5.out, HFB5.out, b05⟩
 case round =>
  clear hH5 hR5 b05
  obtain ⟨k, hk, rfl, hH, hI, hR, hnb, hfb, hbl⟩ := hrel
  have HNB := Lib.hid hnb
  have HFB := Lib.hid hfb
  by_cases hlt : k < (n + 1) / 2
  · obtain ⟨g, o, x, ea, hx, hc⟩ := hI.at_ hlt
    subst ea
    obtain ⟨v, rfl, hv⟩ := nats_getE hx
    have hvn : v < n := by have := hlfN_lt (List.mem_of_getElem? hv); rw [HL.out] at this; exact this
    have HX := Lib.hid (mkB_next (n := n) hv)
    have hlen := mkB_len n ((hlfN l dir).take k)
    obtain ⟨y, hy⟩ : ∃ y, (mkB n ((hlfN l dir).take k))[v]? = some y := ⟨_, List.getElem?_eq_getElem (by rw [hlen]; exact hvn)⟩
    have c1 : wr.cell? ⟨w3.heap.size + 1, v, none⟩ = some (.bool y) := hH.cellB hy
    have f1 := hH.frozen v
    have i1 : (0 : Int) ≤ (k : Int) := by omega
    have i2 : (k : Int) < (((n + 1) / 2 : Nat) : Int) := by omega
    have i3 : (0 : Int) ≤ (v : Int) := by omega
    have i4 : (v : Int) < (n : Int) := by omega
    have HH := Lib.hid (hH.setB HX.out)
    have HI := Lib.hid (hI.far (i := v) (.bool true) hne5)
    have HR := Lib.hid (hR.far_ (b := w3.heap.size + 1) (o := v) (by omega) (.bool true))
    have HB1 := Lib.hid (HNB.out.far (g := w3.heap.size + 1) (i := v) (.bool true) (fun e => by have e : gn = w3.heap.size + 1 := (by injection e); omega))
    have HB2 := Lib.hid (HFB.out.far (g := w3.heap.size + 1) (i := v) (.bool true) (fun e => by have e : gf = w3.heap.size + 1 := (by injection e); omega))
    have hbn : Below w.heap.size w (wr.setCell ⟨w3.heap.size + 1, v, none⟩ (.bool true)) := hbl.setCell (show w.heap.size ≤ w3.heap.size + 1 by omega) _
    clear hx hv hlen hy hH hI hR hnb hfb
    go_wp2_with fail
    go_roundw
    case rel => exact ⟨k + 1, by omega, by go_num, HH.out, HI.out, HR.out, HB1.out, HB2.out, hbn⟩
    case measure => simp [intOf]; omega
  · obtain rfl : k = (n + 1) / 2 := by omega
    have hlen : (hlfN l dir).length = (n + 1) / 2 := by
     unfold hlfN natsOf
     rw [List.length_map, List.length_take, order_len, HL.out]; omega
    have HHB := Lib.hid (show Blk wr (w3.heap.size + 1) 4 (bools (halfB l dir)) from by
     have := hH
     rw [List.take_of_length_le (by omega)] at this
     unfold halfB
     rw [HL.out]
     exact this)
    obtain ⟨wq, hwq⟩ : ∃ V, V = wr := ⟨_, rfl⟩
    subst hwq
    have r2 : ∀ o, (wq.alloc o).cell? ⟨w3.heap.size, 2, none⟩ = some (.slice (some ⟨gn, 0, none⟩) n n) := fun o => (hR.alloc o).four.2.2.1
    have r3 : ∀ o, (wq.alloc o).cell? ⟨w3.heap.size, 3, none⟩ = some (.slice (some ⟨gf, 0, none⟩) n n) := fun o => (hR.alloc o).four.2.2.2
    have hz3 := hH.lt
    clear hH hI hR hnb hfb hlen hk hlt
    have hmk3 := run_make3
    go_wp2_with fail
    (refine wp_named ?_; intro w6 hw6)
    have b6 : Below wq.heap.size wq w6 := by rw [hw6]; exact bELt
    have hA6 : Blk w6 wq.heap.size 162 (spZ 3) := by rw [hw6]; exact bLNt
    have hV6 : Blk w6 (wq.heap.size + 1) 160 #[.slice (some ⟨gn, 0, none⟩) n n, .slice (some ⟨gf, 0, none⟩) n n, .slice (some ⟨w3.heap.size + 1, 0, none⟩) n n] := by rw [hw6]; exact bLNt
    have b06 : Below w.heap.size w w6 := Bel.step hbl b6
    have hown6 : Own w6 w.heap.size 162 4 (some ⟨wq.heap.size, 0, none⟩) 0 3 [] := Own.made hA6 (by omega) (by omega) (by rfl)
    have HB3 := Lib.hid (show RdB w6 (some ⟨w3.heap.size + 1, 0, none⟩) n (halfB l dir) from (HHB.out.below b6 HHB.out.lt).rdB (by unfold halfB; rw [mkB_len, HL.out]))
    have HB1 := Lib.hid (HNB.out.below b6)
    have HB2 := Lib.hid (HFB.out.below b6)
    have zz := b6.size
    obtain ⟨L3, hL3⟩ : ∃ L3 : List (Value × Spl), L3 = [(.slice (some ⟨gn, 0, none⟩) n n, ⟨nb, cr nb E, dir, 0⟩), (.slice (some ⟨gf, 0, none⟩) n n, ⟨fb, cr fb E, dir, 1⟩), (.slice (some ⟨w3.heap.size + 1, 0, none⟩) n n, ⟨halfB l dir, cr (halfB l dir) E, dir, 2⟩)] := ⟨_, rfl⟩
    have hlen3 : L3.length = 3 := by rw [hL3]; rfl
    have HSPL := Lib.hid (show ∀ (k : Nat) (p : Value × Spl), L3[k]? = some p → IsSpl E l (3 * dir + k) p.2 from fun k p hp => by
     rw [hL3] at hp
     rcases three_at hp with ⟨rfl, rfl⟩ | ⟨rfl, rfl⟩ | ⟨rfl, rfl⟩
     · have h3 : (3 * dir + 0) / 3 = dir := by omega
       exact ⟨by rw [h3], by simp, rfl, fun _ => by rw [h3, HL.out]; exact HNN.out, fun h => by omega, fun h => by omega⟩
     · have h3 : (3 * dir + 1) / 3 = dir := by omega
       exact ⟨by rw [h3], by rw [show (3 * dir + 1) % 3 = 1 by omega]; rfl, rfl, fun h => by omega, fun _ => by rw [h3, HL.out]; exact HFF.out, fun h => by omega⟩
     · have h3 : (3 * dir + 2) / 3 = dir := by omega
       exact ⟨by rw [h3], by rw [show (3 * dir + 2) % 3 = 2 by omega]; rfl, rfl, fun h => by omega, fun h => by omega, fun _ => by rw [h3]⟩)
    have HIT := Lib.hid (show ∀ (k : Nat) (p : Value × Spl), L3[k]? = some p → ∃ g, p = (.slice (some ⟨g, 0, none⟩) n n, ⟨p.2.side, cr p.2.side E, dir, k⟩) ∧ (#[.slice (some ⟨gn, 0, none⟩) n n, .slice (some ⟨gf, 0, none⟩) n n, .slice (some ⟨w3.heap.size + 1, 0, none⟩) n n] : Array Value)[k]? = some (.slice (some ⟨g, 0, none⟩) n n) ∧ RdB w6 (some ⟨g, 0, none⟩) n p.2.side ∧ w.heap.size ≤ g ∧ g < wq.heap.size from fun k p hp => by
     rw [hL3] at hp
     rcases three_at hp with ⟨rfl, rfl⟩ | ⟨rfl, rfl⟩ | ⟨rfl, rfl⟩
     · exact ⟨gn, rfl, rfl, HB1.out, by omega, by omega⟩
     · exact ⟨gf, rfl, rfl, HB2.out, by omega, by omega⟩
     · exact ⟨w3.heap.size + 1, rfl, rfl, HB3.out, by omega, by omega⟩)
    have HSD := Lib.hid (show ∀ p ∈ L3, SideAt w6 (some ⟨wq.heap.size, 0, none⟩) p from fun p hp => by
     obtain ⟨k, hk, e⟩ := List.getElem_of_mem hp
     obtain ⟨g, e1, _, h3, _, h5⟩ := HIT.out k p (by rw [List.getElem?_eq_getElem hk, e])
     exact ⟨some ⟨g, 0, none⟩, n, n, by rw [e1], h3, Nat.le_refl _, fun g' e2 => by
      obtain rfl : g = g' := by injection e2
      exact ⟨by omega, blk_ne (by omega)⟩⟩)
    have HFR := Lib.hid (show ∀ p ∈ L3, FreshAt w.heap.size p from fun p hp => by
     obtain ⟨k, hk, e⟩ := List.getElem_of_mem hp
     obtain ⟨g, e1, _, h3, h4, _⟩ := HIT.out k p (by rw [List.getElem?_eq_getElem hk, e])
     intro A' n' c' g' e2 e3
     rw [e1] at e2
     simp only [Value.slice.injEq] at e2
     obtain ⟨rfl, _, _⟩ := e2
     obtain rfl : g = g' := by injection e3
     exact h4)
    have HL3 := Lib.hid hlen3
    clear hL3 hw6 r2 r3 hmk3 hA6 HNB HFB HHB HB1 HB2 HB3 hlen3
    generalize (#[.slice (some ⟨gn, 0, none⟩) n n, .slice (some ⟨gf, 0, none⟩) n n, .slice (some ⟨w3.heap.size + 1, 0, none⟩) n n] : Array Value) = vs at HIT hV6
    go_loopw [16, 69] (fun v i W => ∃ (k : Nat) (A6 : Option Addr) (c6 : Nat), k ≤ 3 ∧ i = .int .i64 k ∧ v = .slice A6 k c6 ∧ Own W w.heap.size 162 4 A6 k c6 (scells (L3.take k)) ∧ (∀ p ∈ L3, SideAt W A6 p) ∧ Blk W (wq.heap.size + 1) 160 vs ∧ blkOf A6 ≠ some (wq.heap.size + 1) ∧ Below w.heap.size w W) (fun _ i _ => 3 - (intOf i).toNat)
    case atStart => exact ⟨0, _, 3, by omega, rfl, rfl, hown6, HSD.out, hV6, blk_ne (by omega), b06⟩
    case round =>
     clear hown6 hV6 b06 hbl b6
     obtain ⟨k, A6, c6, hk, rfl, rfl, hown, hsd, hV, hne, hbl⟩ := hrel
     by_cases hlt : k < 3
     · obtain ⟨p, hp⟩ : ∃ p, L3[k]? = some p := ⟨_, List.getElem?_eq_getElem (by rw [HL3.out]; exact hlt)⟩
       obtain ⟨g, e1, e2, _, _, _⟩ := HIT.out k p hp
       have HTK := Lib.hid (show L3.take (k + 1) = L3.take k ++ [p] from by
        rw [List.take_succ_eq_append_getElem (List.getElem?_eq_some_iff.1 hp).1, (List.getElem?_eq_some_iff.1 hp).2])
       obtain ⟨A', n', c', q1, q2, _, _⟩ := hsd p (List.mem_of_getElem? hp)
       obtain ⟨pv, sd, pc, pd, pk⟩ := p
       simp only [Prod.mk.injEq, Spl.mk.injEq, true_and] at e1
       obtain ⟨rfl, rfl, rfl, rfl⟩ := e1
       simp only [Value.slice.injEq] at q1
       obtain ⟨rfl, rfl, rfl⟩ := q1
       have j1 : wr.cell? ⟨wq.heap.size + 1, k, none⟩ = some (.slice (some ⟨g, 0, none⟩) n n) := by rw [hV.cell]; exact e2
       have HC := Lib.hid (show Calls Tryz.prog 108 #[.slice (some ⟨g, 0, none⟩) n n, .slice B m d] wr fun e w' => e = .returned (.int .i64 (cr sd E)) ∧ Below wr.heap.size wr w' from cutCross_any _ _ n n m d sd E wr q2 (hE.below hbl) (by omega))
       have HSD := Lib.hid hsd
       have i1 : (0 : Int) ≤ (k : Int) := by omega
       have i2 : (k : Int) < 3 := by omega
       clear e2 hp q2 hsd
       go_wp2_with fail
       with_reducible refine HC.out.mono ?_
       rintro e w8 ⟨rfl, b8⟩
       obtain ⟨w9, hw9⟩ : ∃ w9, w9 = w8.alloc (.cells #[.slice (some ⟨g, 0, none⟩) n n, .int .i64 (cr sd E), .int .i64 dir, .int .i64 k] 162) := ⟨_, rfl⟩
       have b89 : Below w8.heap.size w8 w9 := by rw [hw9]; exact bELt
       have hblk : Blk w9 w8.heap.size 162 #[.slice (some ⟨g, 0, none⟩) n n, .int .i64 (cr sd E), .int .i64 dir, .int .i64 k] := by rw [hw9]; exact Blk.new _ _ _
       have b9 : Below wr.heap.size wr w9 := Bel.step b8 b89
       have own9 := hown.below b9
       have hrd := hblk.rds (s := 4) (m := 1) rfl
       have hbw9 : Below w.heap.size w w9 := Bel.step hbl b9
       have hz9 := hbw9.size
       have HSD9 := Lib.hid (show ∀ p ∈ L3, SideAt w9 A6 p from fun p hp => (HSD.out p hp).below b9)
       have hV9 := hV.below b9 hV.lt
       have hone : ∀ u ∈ [Value.slice (some ⟨g, 0, none⟩) n n, .int .i64 (cr sd E), .int .i64 dir, .int .i64 k], u.oneCell' = true := by
        intro u hu
        simp only [List.mem_cons, List.not_mem_nil, or_false] at hu
        rcases hu with rfl | rfl | rfl | rfl <;> rfl
       clear hown hV j1 HC HSD b8 b89 b9 hblk hbl
       go_wp2_with (rw [← hw9]; at_builtin; with_reducible refine wpList_app rfl (.tmp 74) (.tmp 82) 187 rfl 162 _ 4 48 infoSplit Tryz.underlying187 rfl (by omega) rfl rfl own9 hrd hone (by omega) (by omega) hz9 ?_)
       intro A7 c7 w10 own10 hg10 hat10
       rw [← hw9] at hg10
       have hs9 : w9.heap.size = w8.heap.size + 1 := by rw [hw9]; simp
       rw [← hs9] at hat10
       clear hs9
       have hbw10 : Below w.heap.size w w10 := Bel.grownOwn hbw9 hg10 own9 hz9
       have hV10 := hV9.grown hg10 hne
       have HSD10 := Lib.hid (show ∀ p ∈ L3, SideAt w10 A7 p from fun p hp => (HSD9.out p hp).next hg10 hat10)
       have hne10 : blkOf A7 ≠ some (wq.heap.size + 1) := by
        rcases hat10 with h | h
        · rw [h]; exact hne
        · have := hV9.lt
          rw [h]; intro e; injection e with e; omega
       have HO10 := Lib.hid (show Own w10 w.heap.size 162 4 A7 (k + 1) c7 (scells (L3.take (k + 1))) from by rw [HTK.out, scells_app]; exact own10)
       clear own10 own9 hrd hone hg10 hat10 hw9 hV9 hbw9
       go_wp2_with fail
       go_roundw
       case rel =>
        (repeat apply Exists.intro)
        exact ⟨⟨k + 1, A7, c7, by omega, by go_num, rfl, HO10.out, HSD10.out, hV10, hne10, hbw10⟩, rfl⟩
       case measure => simp [intOf]; omega
     · obtain rfl : k = 3 := by omega
       have ht : L3.take 3 = L3 := List.take_of_length_le (by rw [HL3.out]; omega)
       rw [ht] at hown
       have HO := Lib.hid hown
       have HSD := Lib.hid hsd
       clear hown hsd ht hV
       go_wp2_with fail
       go_ret2
       exact ⟨A6, c6, L3, rfl, ⟨HO.out, HL3.out, HSD.out⟩, HFR.out, HSPL.out, hbl⟩
end Go.Proofs.YtpffhoefmcpniaaGreatDoor

namespace Go.Proofs.YtpffhoefmcpniaaGreatDoor
open Go.RowKit

attribute [local go_sem ↓] Go.wp_at_zero Go.wp_at_succ

def AllPost (E l : List (Int × Int)) (w : World) (e : Ending) (w' : World) : Prop := ∃ (A' : Option Addr) (c' : Nat) (L : List Spl), e = .returned (.tuple #[.slice A' 12 c', .nilIface]) ∧ RdS w' A' 12 L ∧ IsAll E l 12 L ∧ 12 ≤ c' ∧ c' ≤ 9223372036854775807 ∧ Below w.heap.size w w'
set_option maxHeartbeats 4000000 in
theorem cutAll_any (A B : Option Addr) (n m c d : Nat) (l E : List (Int × Int)) (w : World) (h : RdP w A n l) (hE : RdP w B m E) (hG : Good l E) (hn : n ≤ 4096) (hm : m ≤ 16384) :
 Calls Tryz.prog 91 #[.slice A n c, .slice B m d] w (AllPost E l w) := by
 have HCK := Lib.hid (cutCheck_ok A B n m c d l E w h hE (by rw [← h.1]; exact hG.1) hn hm hG.2.1 (by rw [← h.1]; exact hG.2.2))
 have HT := Lib.hid (show ∀ (k : Nat) (V : World), k ≤ 3 → Below w.heap.size w V → Calls Tryz.prog 97 #[.slice A n c, .slice B m d, .int .i64 k] V fun e w' => ∃ (A' : Option Addr) (c' : Nat) (M : List (Value × Spl)), e = .returned (.tuple #[.slice A' 3 c', .nilIface]) ∧ SpO w' V.heap.size 162 A' 3 c' M ∧ (∀ p ∈ M, FreshAt V.heap.size p) ∧ (∀ i p, M[i]? = some p → IsSpl E l (3 * k + i) p.2) ∧ Below V.heap.size V w' from
  fun k V hk hV => toward_any A B n m c d k l E V (h.below hV) (hE.below hV) hG hn hm hk)
 have hmk := run_make12
 clear h hE hG
 go_enter Tryz.func91, Tryz.ntmps91
 go_wp2_with fail
 with_reducible refine HCK.out.mono ?_
 rintro e w1 ⟨rfl, b1⟩
 go_wp2_with fail
 (refine wp_named ?_; intro w2 hw2)
 have b2 : Below w.heap.size w w2 := by rw [hw2]; exact bELt
 have hA2 : Blk w2 w1.heap.size 162 (spZ 12) := by rw [hw2]; exact bLNt
 have hz1 := b1.size
 have hown2 : Own w2 w.heap.size 162 4 (some ⟨w1.heap.size, 0, none⟩) 0 12 [] := Own.made hA2 hz1 (by omega) (by rfl)
 clear hw2 hmk HCK b1 hA2
 go_loopw [7, 18] (fun v i W => ∃ (k q : Nat) (A6 : Option Addr) (c6 : Nat) (L : List (Value × Spl)), k ≤ 4 ∧ i = .int .i64 k ∧ v = .slice A6 q c6 ∧ q = 3 * k ∧ SpO W w.heap.size 162 A6 q c6 L ∧ (∀ i p, L[i]? = some p → IsSpl E l i p.2) ∧ Below w.heap.size w W) (fun _ i _ => 4 - (intOf i).toNat)
 case atStart => exact ⟨0, 0, _, 12, [], by omega, rfl, rfl, rfl, ⟨hown2, rfl, fun p hp => by cases hp⟩, fun i p hp => by simp at hp, b2⟩
 case round =>
  clear hown2 b2
  obtain ⟨k, q, A6, c6, L, hk, rfl, rfl, hq, hsp, hspl, hbl⟩ := hrel
  have HSP := Lib.hid hspl
  have HQ := Lib.hid hq
  have hq9 : q ≤ 12 := by omega
  clear hq
  by_cases hlt : k < 4
  · have HC := Lib.hid (HT.out k wr (by omega) hbl)
    have HS := Lib.hid hsp
    have i2 : (k : Int) < 4 := by omega
    clear hspl hsp
    go_wp2_with fail
    with_reducible refine HC.out.mono ?_
    rintro e w3 ⟨A3, c3, M, rfl, hM, hfr, hsplM, b3⟩
    have hz := hbl.size
    have hb3 : Below w.heap.size w w3 := Bel.step hbl b3
    have own3 := HS.out.1.below b3
    have hrd := hM.1.rds
    have hone := scells_one hM.2.2
    have hz3 := hb3.size
    have HSM := Lib.hid (show ∀ p ∈ M, SideAt w3 A6 p from fun p hp => by
     obtain ⟨A', n', c', q1, q2, q3, q4⟩ := hM.2.2 p hp
     exact ⟨A', n', c', q1, q2, q3, fun g hg => ⟨(q4 g hg).1, fun e => by
      have h1 := (HS.out.1.lt g e).2
      have h2 := hfr p hp A' n' c' g q1 hg
      omega⟩⟩)
    have HS3 := Lib.hid (HS.out.below b3)
    have HM := Lib.hid hsplM
    have HML := Lib.hid hM.2.1
    clear hM hfr hsplM b3 HC HS hbl
    go_wp2_with (at_builtin; with_reducible refine wpList_app rfl (.tmp 31) (.tmp 32) 187 rfl 162 _ 4 48 infoSplit Tryz.underlying187 rfl (by omega) rfl rfl own3 hrd hone (by omega) (by omega) hz3 ?_)
    intro A7 c7 w4 own4 hg4 hat4
    have hb4 : Below w.heap.size w w4 := Bel.grownOwn hb3 hg4 own3 hz3
    have HS4 := Lib.hid (HS3.out.push own4 hg4 hat4 HML.out HSM.out)
    have HL4 := Lib.hid HS3.out.2.1
    clear own3 hrd hone own4 hg4 hat4 hb3 HS3
    go_wp2_with fail
    go_roundw
    case rel => exact ⟨k + 1, q + 3, A7, c7, L ++ M, by omega, by go_num, rfl, (by have := HQ.out; omega), HS4.out, fun i p hp => by
     rcases Nat.lt_or_ge i L.length with h1 | h1
     · rw [List.getElem?_append_left h1] at hp
       exact HSP.out i p hp
     · rw [List.getElem?_append_right h1] at hp
       have := HM.out _ p hp
       rw [HL4.out] at this h1
       rw [show 3 * k + (i - q) = i by have := HQ.out; omega] at this
       exact this, hb4⟩
    case measure => simp [intOf]; omega
  · obtain rfl : k = 4 := by omega
    obtain rfl : q = 12 := by have := HQ.out; omega
    have HS := Lib.hid hsp
    clear hsp hspl
    go_wp2_with fail
    go_ret2
    exact ⟨A6, c6, L.map (·.2), rfl, HS.out.rdS, ⟨by rw [List.length_map]; exact HS.out.2.1, fun i s hs => by
     rw [List.getElem?_map] at hs
     cases e : L[i]? with
     | none => rw [e] at hs; cases hs
     | some p => rw [e] at hs; cases hs; exact HSP.out i p e⟩, HS.out.1.cap, HS.out.1.capMax, hbl⟩

theorem RdS.cut1 {w : World} {b o m : Nat} {L : List Spl} (h : RdS w (some ⟨b, o, none⟩) m L) : RdS w (some ⟨b, o + 4, none⟩) (m - 1) (L.drop 1) :=
 ⟨by rw [List.length_drop, h.1], fun i s hs => by
  rw [List.getElem?_drop] at hs
  obtain ⟨b', o', A', n', c', e, h1, h2, h3, h4, h5, h6⟩ := h.2 _ s hs
  cases e
  rw [show o + (1 + i) * 4 = o + 4 + i * 4 by omega] at h1 h2 h3 h4
  exact ⟨b, o + 4, A', n', c', rfl, h1, h2, h3, h4, h5, h6⟩⟩
theorem RdB.notS {W : World} {A B : Option Addr} {n k c g : Nat} {b : List Bool} {t : TypeId} {x y z : Int} (hB : Blk W g t #[.slice B k c, .int .i64 x, .int .i64 y, .int .i64 z]) (hn : 0 < n) (h : RdB W A n b) : blkOf A ≠ some g := fun e => by
 obtain ⟨b', o, v, ea, _, hc⟩ := h.at_ hn
 subst ea
 obtain rfl : b' = g := by injection e
 rw [Nat.add_zero, hB.cell] at hc
 match o, hc with
 | 0, hc => cases hc
 | 1, hc => cases hc
 | 2, hc => cases hc
 | 3, hc => cases hc
 | o + 4, hc => simp at hc
def BestPost (E l : List (Int × Int)) (w : World) (e : Ending) (w' : World) : Prop := ∃ (A' : Option Addr) (n' c' : Nat) (s : Spl) (L : List Spl), e = .returned (.tuple #[.agg #[.slice A' n' c', .int .i64 s.cross, .int .i64 s.dir, .int .i64 s.kind], .nilIface]) ∧ RdB w' A' n' s.side ∧ n' ≤ c' ∧ IsAll E l 12 L ∧ Opt L 12 s ∧ Below w.heap.size w w'

set_option maxHeartbeats 4000000 in
set_option maxRecDepth 100000 in
theorem cutBest_any (A B : Option Addr) (n m c d : Nat) (l E : List (Int × Int)) (w : World) (h : RdP w A n l) (hE : RdP w B m E) (hG : Good l E) (hn : n ≤ 4096) (hm : m ≤ 16384) :
 Calls Tryz.prog 82 #[.slice A n c, .slice B m d] w (BestPost E l w) := by
 have HA := Lib.hid (show ∀ V, Below w.heap.size w V → Calls Tryz.prog 91 #[.slice A n c, .slice B m d] V (AllPost E l V) from fun V hV => cutAll_any A B n m c d l E V (h.below hV) (hE.below hV) hG hn hm)
 have hsn := (show l.length = n from h.1)
 have HSN := Lib.hid hsn
 have HG2 := Lib.hid hG.1
 clear hsn h hE hG
 go_enter Tryz.func82, Tryz.ntmps82
 go_wp2_with fail
 (refine calls_named ?_; intro w1 hw1)
 have hb1 : Below w.heap.size w w1 := by rw [hw1]; exact bELt
 have hR1 : Blk w1 w.heap.size 162 #[.slice none 0 0, .int .i64 0, .int .i64 0, .int .i64 0] := by rw [hw1]; exact bLNt
 clear hw1
 with_reducible refine (HA.out _ hb1).mono ?_
 rintro e w2 ⟨A2, c2, L, rfl, hS, hall, hc12, hcm, hb⟩
 have hR2 := hR1.below hb hR1.lt
 have hb2 : Below w.heap.size w w2 := Bel.step hb1 hb
 obtain ⟨b, o, A3, n3, c3, s0, rfl, hs0, x0, x1, x2, x3, hr3, hnc3⟩ := hS.at_ (i := 0) (by omega)
 have HS := Lib.hid hS
 have HT := Lib.hid (hS.cut1)
 have HALL := Lib.hid hall
 have HOPT := Lib.hid (Opt.one hs0)
 have HR3 := Lib.hid hr3
 have hsl : ∀ W, (Instr.slice 187 (.slice (some ⟨b, o, none⟩) 12 c2) (some (.int .i64 1)) none none).run Tryz.prog W = .ok (.slice (some ⟨b, o + 4, none⟩) 11 (c2 - 1)) W := fun W => by
  have := run_cut_l (P := Tryz.prog) 187 162 4 Tryz.underlying187 (by kernel_rfl) (by kernel_rfl) (some ⟨b, o, none⟩) 12 c2 1 11 (by omega) (by omega) .i64 1 rfl W
  rw [this]
  unfold cutA
  rw [if_neg (by omega)]
  simp [Addr.add]
 have HR2 := Lib.hid hR2
 have hlt2 := hR2.lt
 rw [show o + 0 * 4 = o by omega] at x0 x1 x2 x3
 clear hS hall hs0 hr3 hR1 hR2 hb hb1 HA
 go_wp2_with fail
 (refine wp_named ?_; intro w4 hw4)
 have hB4 : Blk w4 w2.heap.size 162 #[.slice A3 n3 c3, .int .i64 s0.cross, .int .i64 s0.dir, .int .i64 s0.kind] := by rw [hw4]; exact bLNt
 have hb4 : Below w2.heap.size w2 w4 := by rw [hw4]; exact bELt
 clear hw4 x0 x1 x2 x3
 go_loopw [27] (fun i W => ∃ (k : Nat) (A' : Option Addr) (n' c' : Nat) (s : Spl), k ≤ 11 ∧ i = .int .i64 k ∧ Blk W w2.heap.size 162 #[.slice A' n' c', .int .i64 s.cross, .int .i64 s.dir, .int .i64 s.kind] ∧ RdB w2 A' n' s.side ∧ n' ≤ c' ∧ Opt L (k + 1) s ∧ Below w2.heap.size w2 W) (fun i _ => 11 - (intOf i).toNat)
 case atStart => exact ⟨0, A3, n3, c3, s0, by omega, rfl, hB4, HR3.out, hnc3, HOPT.out, hb4⟩
 case round =>
  clear hB4 hb4
  obtain ⟨k, A', n', c', s, hk, rfl, hB, hr, hnc, hopt, hbl⟩ := hrel
  have HR := Lib.hid hr
  have HO := Lib.hid hopt
  have hz := hbl.size
  have hltB := hB.lt
  obtain ⟨q0, q1, q2, q3⟩ := hB.four
  have HN' := Lib.hid (show n' = n from by
   obtain ⟨a, ha, hla, _⟩ := hopt
   rw [← hr.1, ((HALL.out.2 a s hla).sep HG2.out).len]; exact HSN.out)
  by_cases hlt : k < 11
  · obtain ⟨b', o', A5, n5, c5, s5, e, hs5, y0, y1, y2, y3, hr5, hnc5⟩ := HT.out.at_ hlt
    cases e
    have hL5 : L[k + 1]? = some s5 := by rw [List.getElem?_drop] at hs5; rw [← hs5, Nat.add_comm]
    have HL5 := Lib.hid hL5
    have hlen5 : s5.side.length = n := by
     have := ((HALL.out.2 _ s5 hL5).sep HG2.out).len
     rw [this]; exact HSN.out
    have hn5 : n5 = n := by rw [← hr5.1]; exact hlen5
    have HR5 := Lib.hid hr5
    have v0 := Below.cellOf hbl (Nat.le_refl _) y0
    have v1 := Below.cellOf hbl (Nat.le_refl _) y1
    have v2 := Below.cellOf hbl (Nat.le_refl _) y2
    have v3 := Below.cellOf hbl (Nat.le_refl _) y3
    have i1 : (0 : Int) ≤ (k : Int) := by omega
    have i2 : (k : Int) < 11 := by omega
    clear y0 y1 y2 y3 hs5 hL5 hlen5 hr5 hr hopt
    have HN5 := Lib.hid hn5
    clear hn5
    by_cases g1 : s5.cross > s.cross
    · go_wp2_with fail
      go_roundw
      case rel => exact ⟨k + 1, A', n', c', s, by omega, by go_num, bLKt, HR.out, hnc, HO.out.keep HL5.out (.inl g1), bELt⟩
      case measure => simp [intOf]; omega
    by_cases g2 : s5.cross < s.cross
    · have d2 : decide (s5.cross < s.cross) = true := decide_eq_true g2
      go_wp2_with fail
      (refine wp_named ?_; intro w7 hw7)
      have hB7 : Blk w7 w2.heap.size 162 #[.slice A' n' c', .int .i64 s.cross, .int .i64 s.dir, .int .i64 s.kind] := by rw [hw7]; exact hB.alloc _
      have hS7 : Blk w7 wr.heap.size 162 #[.slice A5 n5 c5, .int .i64 s5.cross, .int .i64 s5.dir, .int .i64 s5.kind] := by rw [hw7]; exact Blk.new _ _ _
      have hb7 : Below w2.heap.size w2 w7 := by rw [hw7]; exact hbl.alloc hz _
      clear hw7 v0 v1 v2 v3 q0 q1 q2 q3
      obtain ⟨q0, q1, q2, q3⟩ := hB7.four
      obtain ⟨v0, v1, v2, v3⟩ := hS7.four
      have f0 := hB7.frozen 0
      have f1 := hB7.frozen 1
      have f2 := hB7.frozen 2
      have f3 := hB7.frozen 3
      go_quiet (fail)
      go_wp2_with fail
      have HB8 := Lib.hid (show Blk (((((w7.drewN nq).setCell ⟨w2.heap.size, 0, none⟩ (.slice A5 n5 c5)).setCell ⟨w2.heap.size, 1, none⟩ (.int .i64 s5.cross)).setCell ⟨w2.heap.size, 2, none⟩ (.int .i64 s5.dir)).setCell ⟨w2.heap.size, 3, none⟩ (.int .i64 s5.kind)) w2.heap.size 162 #[.slice A5 n5 c5, .int .i64 s5.cross, .int .i64 s5.dir, .int .i64 s5.kind] from ((((hB7.drewN nq).set_ 0 _).set_ 1 _).set_ 2 _).set_ 3 _)
      have hb8 : Below w2.heap.size w2 (((((w7.drewN nq).setCell ⟨w2.heap.size, 0, none⟩ (.slice A5 n5 c5)).setCell ⟨w2.heap.size, 1, none⟩ (.int .i64 s5.cross)).setCell ⟨w2.heap.size, 2, none⟩ (.int .i64 s5.dir)).setCell ⟨w2.heap.size, 3, none⟩ (.int .i64 s5.kind)) := ((((below_drewN hb7 nq).setCell (Nat.le_refl _) _).setCell (Nat.le_refl _) _).setCell (Nat.le_refl _) _).setCell (Nat.le_refl _) _
      go_roundw
      case rel => exact ⟨k + 1, A5, n5, c5, s5, by omega, by go_num, HB8.out, HR5.out, hnc5, HO.out.turn HL5.out (.inl g2), hb8⟩
      case measure => simp [intOf]; omega
    · have heq : s5.cross = s.cross := by omega
      have HEQ := Lib.hid heq
      have HF5 := Lib.hid (show ∀ V, Below w2.heap.size w2 V → ∀ q, Calls Tryz.prog 92 #[.slice A5 n5 c5] (V.drewN q) fun e w' => e = .returned (.int .i64 (offB s5.side)) ∧ V.drewN q = w' from fun V hV q => off_any A5 n5 c5 s5.side _ (HR5.out.below (below_drewN hV q)) (by have := HN5.out; omega))
      have HF' := Lib.hid (show ∀ V, Below w2.heap.size w2 V → ∀ q, Calls Tryz.prog 92 #[.slice A' n' c'] (V.drewN q) fun e w' => e = .returned (.int .i64 (offB s.side)) ∧ V.drewN q = w' from fun V hV q => off_any A' n' c' s.side _ (HR.out.below (below_drewN hV q)) (by have := HN'.out; omega))
      have d2 : decide (s5.cross < s.cross) = false := decide_eq_false g2
      clear heq
      by_cases g3 : offB s5.side < offB s.side
      · have G3 := Lib.hid g3
        generalize hx5 : offB s5.side = x5 at HF5 g3
        generalize hx' : offB s.side = x' at HF' g3
        have HX5 := Lib.hid hx5
        have HX' := Lib.hid hx'
        clear hx5 hx'
        go_wp2_with fail
        (refine wp_named ?_; intro w7 hw7)
        have hB7 : Blk w7 w2.heap.size 162 #[.slice A' n' c', .int .i64 s.cross, .int .i64 s.dir, .int .i64 s.kind] := by rw [hw7]; exact hB.alloc _
        have hS7 : Blk w7 wr.heap.size 162 #[.slice A5 n5 c5, .int .i64 s5.cross, .int .i64 s5.dir, .int .i64 s5.kind] := by rw [hw7]; exact Blk.new _ _ _
        have hb7 : Below w2.heap.size w2 w7 := by rw [hw7]; exact hbl.alloc hz _
        clear hw7 v0 v1 v2 v3 q0 q1 q2 q3
        obtain ⟨q0, q1, q2, q3⟩ := hB7.four
        obtain ⟨v0, v1, v2, v3⟩ := hS7.four
        have f0 := hB7.frozen 0
        have f1 := hB7.frozen 1
        have f2 := hB7.frozen 2
        have f3 := hB7.frozen 3
        have HG5 := Lib.hid (HF5.out w7 hb7)
        have HG' := Lib.hid (HF'.out w7 hb7)
        go_quiet ((go_at_call 92; first | (with_reducible exact quiet_left (HG5.out _)) | (with_reducible exact quiet_left (HG'.out _))))
        go_wp2_with fail
        have HB8 := Lib.hid (show Blk (((((w7.drewN nq).setCell ⟨w2.heap.size, 0, none⟩ (.slice A5 n5 c5)).setCell ⟨w2.heap.size, 1, none⟩ (.int .i64 s5.cross)).setCell ⟨w2.heap.size, 2, none⟩ (.int .i64 s5.dir)).setCell ⟨w2.heap.size, 3, none⟩ (.int .i64 s5.kind)) w2.heap.size 162 #[.slice A5 n5 c5, .int .i64 s5.cross, .int .i64 s5.dir, .int .i64 s5.kind] from ((((hB7.drewN nq).set_ 0 _).set_ 1 _).set_ 2 _).set_ 3 _)
        have hb8 : Below w2.heap.size w2 (((((w7.drewN nq).setCell ⟨w2.heap.size, 0, none⟩ (.slice A5 n5 c5)).setCell ⟨w2.heap.size, 1, none⟩ (.int .i64 s5.cross)).setCell ⟨w2.heap.size, 2, none⟩ (.int .i64 s5.dir)).setCell ⟨w2.heap.size, 3, none⟩ (.int .i64 s5.kind)) := ((((below_drewN hb7 nq).setCell (Nat.le_refl _) _).setCell (Nat.le_refl _) _).setCell (Nat.le_refl _) _).setCell (Nat.le_refl _) _
        go_roundw
        case rel => exact ⟨k + 1, A5, n5, c5, s5, by omega, by go_num, HB8.out, HR5.out, hnc5, HO.out.turn HL5.out (.inr ⟨HEQ.out, G3.out⟩), hb8⟩
        case measure => simp [intOf]; omega
      · have G3 := Lib.hid g3
        generalize hx5 : offB s5.side = x5 at HF5 g3
        generalize hx' : offB s.side = x' at HF' g3
        have HX5 := Lib.hid hx5
        have HX' := Lib.hid hx'
        clear hx5 hx'
        go_wp2_with fail
        (refine wp_named ?_; intro w7 hw7)
        have hB7 : Blk w7 w2.heap.size 162 #[.slice A' n' c', .int .i64 s.cross, .int .i64 s.dir, .int .i64 s.kind] := by rw [hw7]; exact hB.alloc _
        have hS7 : Blk w7 wr.heap.size 162 #[.slice A5 n5 c5, .int .i64 s5.cross, .int .i64 s5.dir, .int .i64 s5.kind] := by rw [hw7]; exact Blk.new _ _ _
        have hb7 : Below w2.heap.size w2 w7 := by rw [hw7]; exact hbl.alloc hz _
        clear hw7 v0 v1 v2 v3 q0 q1 q2 q3
        obtain ⟨q0, q1, q2, q3⟩ := hB7.four
        obtain ⟨v0, v1, v2, v3⟩ := hS7.four
        have f0 := hB7.frozen 0
        have f1 := hB7.frozen 1
        have f2 := hB7.frozen 2
        have f3 := hB7.frozen 3
        have HG5 := Lib.hid (HF5.out w7 hb7)
        have HG' := Lib.hid (HF'.out w7 hb7)
        go_quiet ((go_at_call 92; first | (with_reducible exact quiet_left (HG5.out _)) | (with_reducible exact quiet_left (HG'.out _))))
        go_wp2_with fail
        go_roundw
        case rel => exact ⟨k + 1, A', n', c', s, by omega, by go_num, hB7.drewN _, HR.out, hnc, HO.out.keep HL5.out (.inr ⟨HEQ.out, by have := G3.out; omega⟩), below_drewN hb7 _⟩
        case measure => simp [intOf]; omega
  · obtain rfl : k = 11 := by omega
    have hR9 := HR2.out.below hbl hlt2
    have hne : w.heap.size ≠ w2.heap.size := by omega
    obtain ⟨r0, r1, r2, r3⟩ := hR9.four
    have f0 := hR9.frozen 0
    have f1 := hR9.frozen 1
    have f2 := hR9.frozen 2
    have f3 := hR9.frozen 3
    go_wp2_with fail
    obtain ⟨w9, hw9⟩ : ∃ w9, w9 = (((wr.setCell ⟨w.heap.size, 0, none⟩ (.slice A' n' c')).setCell ⟨w.heap.size, 1, none⟩ (.int .i64 s.cross)).setCell ⟨w.heap.size, 2, none⟩ (.int .i64 s.dir)).setCell ⟨w.heap.size, 3, none⟩ (.int .i64 s.kind) := ⟨_, rfl⟩
    rw [← hw9]
    have hR10 : Blk w9 w.heap.size 162 #[.slice A' n' c', .int .i64 s.cross, .int .i64 s.dir, .int .i64 s.kind] := by rw [hw9]; exact (((hR9.set_ 0 _).set_ 1 _).set_ 2 _).set_ 3 _
    have hbw : Below w.heap.size w wr := Bel.step hb2 hbl
    have hb9 : Below w.heap.size w w9 := by rw [hw9]; exact (((hbw.setCell (Nat.le_refl _) _).setCell (Nat.le_refl _) _).setCell (Nat.le_refl _) _).setCell (Nat.le_refl _) _
    have n1 : blkOf A' ≠ some w.heap.size := RdB.notS HR2.out (by have := HN'.out; have := HSN.out; have := HG2.out; omega) HR.out
    have hr9 : RdB w9 A' n' s.side := by rw [hw9]; exact ((((HR.out.below hbl).far _ n1).far _ n1).far _ n1).far _ n1
    clear hw9 r0 r1 r2 r3
    obtain ⟨r0, r1, r2, r3⟩ := hR10.four
    refine bodyPost_ret (v := .tuple #[.agg #[.slice A' n' c', .int .i64 s.cross, .int .i64 s.dir, .int .i64 s.kind], .nilIface]) (by simp [results, Tryz.results82, go_sem, r0, r1, r2, r3]) rfl ?_
    exact ⟨A', n', c', s, L, rfl, hr9, hnc, HALL.out, HO.out, hb9⟩
end Go.Proofs.YtpffhoefmcpniaaGreatDoor
