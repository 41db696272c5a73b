/- Parts of the proof: QCu3. -/
import Derived.Test.YtpffhoefmcpniaaGreatDoorW1
import Derived.Test.YtpffhoefmcpniaaGreatDoorW35
import Derived.Test.YtpffhoefmcpniaaGreatDoorW36
/- cut.toward. -/
namespace Go.Proofs.YtpffhoefmcpniaaGreatDoor
open Go.RowKit

attribute [local go_sem ↓] Go.wp_at_zero Go.wp_at_succ

theorem infoSplit : (Tryz.prog.info? 162).map (fun i => (i.zero, i.size, i.bytes)) = some (some (.agg #[.slice none 0 0, .int .i64 0, .int .i64 0, .int .i64 0]), 4, 48) := by kernel_rfl
theorem RdB.notI {W : World} {A : Option Addr} {n g : Nat} {l : List Int} {t : TypeId} {b : List Bool} (h : RdI W A n l) (hn : 0 < n) (hB : Blk W g t (bools b)) : blkOf A ≠ some g := fun e => by
  obtain ⟨b', o, x, ea, _, hc⟩ := h.at_ hn
  subst ea
  obtain rfl : b' = g := by injection e
  rw [hB.cell, bools_get] at hc
  cases hb : b[o + 0]? with
  | none => rw [hb] at hc; cases hc
  | some y => rw [hb] at hc; cases hc
/-- The slice of a split's side lies from block B on. -/
def FreshAt (B : Nat) (p : Value × Spl) : Prop := ∀ A' n' c' g, p.1 = .slice A' n' c' → blkOf A' = some g → B ≤ g
/-- k splits of noughts. -/
def spZ (k : Nat) : Array Value := ((List.replicate k [Value.slice none 0 0, .int .i64 0, .int .i64 0, .int .i64 0]).flatten).toArray
theorem run_make3 (W : World) : (Instr.makeSlice 187 (.int .i64 0) (.int .i64 3)).run Tryz.prog W = .ok (.slice (some ⟨W.heap.size, 0, none⟩) 0 3) (W.alloc (.cells (spZ 3) 162)) := by kernel_rfl
theorem run_make12 (W : World) : (Instr.makeSlice 187 (.int .i64 0) (.int .i64 12)).run Tryz.prog W = .ok (.slice (some ⟨W.heap.size, 0, none⟩) 0 12) (W.alloc (.cells (spZ 12) 162)) := by kernel_rfl
theorem three_at {α : Type} {a b c p : α} {k : Nat} (h : [a, b, c][k]? = some p) : (k = 0 ∧ p = a) ∨ (k = 1 ∧ p = b) ∨ (k = 2 ∧ p = c) := by
  match k, h with
  | 0, h => cases h; exact .inl ⟨rfl, rfl⟩
  | 1, h => cases h; exact .inr (.inl ⟨rfl, rfl⟩)
  | 2, h => cases h; exact .inr (.inr ⟨rfl, rfl⟩)
  | k + 3, h => simp at h

set_option maxHeartbeats 8000000 in
set_option maxRecDepth 100000 in
theorem toward_any (A B : Option Addr) (n m c d dir : Nat) (l E : List (Int × Int)) (w : World) (h : RdP w A n l) (hE : RdP w B m E) (hG : Good l E) (hn : n ≤ 4096) (hm : m ≤ 16384) (hd : dir ≤ 3) :
    Calls Tryz.prog 97 #[.slice A n c, .slice B m d, .int .i64 dir] w fun e w' => ∃ (A' : Option Addr) (c' : Nat) (M : List (Value × Spl)), e = .returned (.tuple #[.slice A' 3 c', .nilIface]) ∧ SpO w' w.heap.size 162 A' 3 c' M ∧ (∀ p ∈ M, FreshAt w.heap.size p) ∧ (∀ k p, M[k]? = some p → IsSpl E l (3 * dir + k) p.2) ∧ Below w.heap.size w w' := by
  have hl := h.1
  obtain ⟨g2, gN, gE⟩ := hG
  rw [hl] at g2 gE
  have he := ends_two g2
  have HN := Lib.hid gN
  have HE := Lib.hid gE
  have HL := Lib.hid hl
  have hmk := run_makeB n (by omega)
  have hsrc := Lib.hid (show nats (srcN l dir) = (order l dir).take (endsN n) from by
    unfold srcN
    rw [nats_of (fun x hx => (order_mem (List.mem_of_mem_take hx)).1), HL.out])
  have hdst := Lib.hid (show nats (dstN l dir) = (order l dir).drop (n - endsN n) from by
    unfold dstN
    rw [nats_of (fun x hx => (order_mem (List.mem_of_mem_drop hx)).1), HL.out])
  have hhlf := Lib.hid (show nats (hlfN l dir) = (order l dir).take ((n + 1) / 2) from by
    unfold hlfN
    rw [nats_of (fun x hx => (order_mem (List.mem_of_mem_take hx)).1), HL.out])
  have HO := Lib.hid (show ∀ V, RdP V A n l → Calls Tryz.prog 104 #[.slice A n c, .int .i64 dir] V fun e w' => ∃ A', e = .returned (.slice A' n n) ∧ RdI w' A' n (order l dir) ∧ Below V.heap.size V w' from
    fun V hV => order_any A n c l dir V hV (by omega) (by omega) (by omega) (fun p hp => by have := near1_bd (HN.out p hp); omega))
  clear hl gN gE
  go_enter Tryz.func97, Tryz.ntmps97
  go_wp2_with fail
  with_reducible refine (HO.out _ h).mono ?_
  rintro e w1 ⟨A1, rfl, h1, b1⟩
  have H1 := Lib.hid h1
  clear h1
  go_wp2_with fail
  with_reducible refine (ends2_any A1 n n _ w1 H1.out (by omega) (by omega)).mono ?_
  rintro e w2 ⟨A2, A3, rfl, h2, h3, b2⟩
  have b02 : Below w.heap.size w w2 := Bel.step b1 b2
  rw [← hsrc.out] at h2
  rw [← hdst.out] at h3
  have HM := Lib.hid (max_any B A2 A3 n m d (endsN n) (endsN n) (endsN n) (endsN n) E (srcN l dir) (dstN l dir) w2 (hE.below b02) HE.out h2 h3 (fun v hv => by have := srcN_lt hv; rw [HL.out] at this; exact this) (fun v hv => by have := dstN_lt hv; rw [HL.out] at this; exact this) (fun v hv => srcN_dst (by rw [HL.out]; exact g2) hv) hn hm (by omega) (by omega))
  have H12 := Lib.hid (H1.out.below b2)
  clear h2 h3 b1 b2 H1
  go_wp2_with fail
  with_reducible refine HM.out.mono ?_
  rintro e w3 ⟨V, g1, gn, gf, nb, fb, rfl, hnb, hfb, hN, hF, hcr, b3, hgn, hgf⟩
  have b03 : Below w.heap.size w w3 := Bel.step b02 b3
  have z02 := b02.size
  have HNB := Lib.hid hnb
  have HFB := Lib.hid hfb
  have HNN := Lib.hid hN
  have HFF := Lib.hid hF
  have H13 := Lib.hid (H12.out.below b3)
  clear hnb hfb hN hF hcr H12 HM b02 b3
  go_wp2_with fail
  (refine calls_named ?_; intro w4 hw4)
  have b34 : Below w3.heap.size w3 w4 := by rw [hw4]; exact bELt
  have hR4 : Blk w4 w3.heap.size 202 #[.int .i64 V, .slice (some ⟨g1, 0, none⟩) m m, .slice (some ⟨gn, 0, none⟩) n n, .slice (some ⟨gf, 0, none⟩) n n] := by rw [hw4]; exact bLNt
  have hH4 : Blk w4 (w3.heap.size + 1) 4 (zeros (.bool false) n) := by rw [hw4]; exact bLNt
  clear hw4 hmk
  with_reducible refine (half_any A1 n n _ w4 (H13.out.below b34) (by omega) (by omega)).mono ?_
  rintro e w5 ⟨A5, rfl, h5, b5⟩
  have b35 : Below w3.heap.size w3 w5 := Bel.step b34 b5
  have b05 : Below w.heap.size w w5 := Bel.step b03 b35
  have hR5 := hR4.below b5 hR4.lt
  have hH5 := hH4.below b5 hH4.lt
  rw [← mkB_nil n (hlfN l dir)] at hH5
  rw [← hhlf.out] at h5
  have hne5 := RdB.notI h5 (by omega) hH5
  have HNB5 := Lib.hid (HNB.out.below b35)
  have HFB5 := Lib.hid (HFB.out.below b35)
  have H5 := Lib.hid h5
  have z03 := b03.size
  have zN : gn < w3.heap.size := by obtain ⟨b', o', x', ea, _, hc⟩ := HNB.out.at_ (i := 0) (by omega); cases ea; exact lt_of_cell hc
  have zF : gf < w3.heap.size := by obtain ⟨b', o', x', ea, _, hc⟩ := HFB.out.at_ (i := 0) (by omega); cases ea; exact lt_of_cell hc
  clear b34 b5 hR4 hH4 h5 HNB HFB H13 b35
  go_wp2_with fail
  go_loopw [45] (fun i W => ∃ k : Nat, k ≤ (n + 1) / 2 ∧ i = .int .i64 k ∧ Blk W (w3.heap.size + 1) 4 (bools (mkB n ((hlfN l dir).take k))) ∧ RdI W A5 ((n + 1) / 2) (nats (hlfN l dir)) ∧ Blk W w3.heap.size 202 #[.int .i64 V, .slice (some ⟨g1, 0, none⟩) m m, .slice (some ⟨gn, 0, none⟩) n n, .slice (some ⟨gf, 0, none⟩) n n] ∧ RdB W (some ⟨gn, 0, none⟩) n nb ∧ RdB W (some ⟨gf, 0, none⟩) n fb ∧ Below w.heap.size w W) (fun i _ => (n + 1) / 2 - (intOf i).toNat)
  case atStart => exact ⟨0, Nat.zero_le _, rfl, hH5, H5.out, hR5, HNB5.out, HFB5.out, b05⟩
  case round =>
    clear hH5 hR5 b05
    obtain ⟨k, hk, rfl, hH, hI, hR, hnb, hfb, hbl⟩ := hrel
    have HNB := Lib.hid hnb
    have HFB := Lib.hid hfb
    by_cases hlt : k < (n + 1) / 2
    · obtain ⟨g, o, x, ea, hx, hc⟩ := hI.at_ hlt
      subst ea
      obtain ⟨v, rfl, hv⟩ := nats_getE hx
      have hvn : v < n := by have := hlfN_lt (List.mem_of_getElem? hv); rw [HL.out] at this; exact this
      have HX := Lib.hid (mkB_next (n := n) hv)
      have hlen := mkB_len n ((hlfN l dir).take k)
      obtain ⟨y, hy⟩ : ∃ y, (mkB n ((hlfN l dir).take k))[v]? = some y := ⟨_, List.getElem?_eq_getElem (by rw [hlen]; exact hvn)⟩
      have c1 : wr.cell? ⟨w3.heap.size + 1, v, none⟩ = some (.bool y) := hH.cellB hy
      have f1 := hH.frozen v
      have i1 : (0 : Int) ≤ (k : Int) := by omega
      have i2 : (k : Int) < (((n + 1) / 2 : Nat) : Int) := by omega
      have i3 : (0 : Int) ≤ (v : Int) := by omega
      have i4 : (v : Int) < (n : Int) := by omega
      have HH := Lib.hid (hH.setB HX.out)
      have HI := Lib.hid (hI.far (i := v) (.bool true) hne5)
      have HR := Lib.hid (hR.far_ (b := w3.heap.size + 1) (o := v) (by omega) (.bool true))
      have HB1 := Lib.hid (HNB.out.far (g := w3.heap.size + 1) (i := v) (.bool true) (fun e => by have e : gn = w3.heap.size + 1 := by injection e
                                                                                                  omega))
      have HB2 := Lib.hid (HFB.out.far (g := w3.heap.size + 1) (i := v) (.bool true) (fun e => by have e : gf = w3.heap.size + 1 := by injection e
                                                                                                  omega))
      have hbn : Below w.heap.size w (wr.setCell ⟨w3.heap.size + 1, v, none⟩ (.bool true)) := hbl.setCell (show w.heap.size ≤ w3.heap.size + 1 by omega) _
      clear hx hv hlen hy hH hI hR hnb hfb
      go_wp2_with fail
      go_roundw
      case rel => exact ⟨k + 1, by omega, by go_num, HH.out, HI.out, HR.out, HB1.out, HB2.out, hbn⟩
      case measure => simp [intOf]; omega
    · obtain rfl : k = (n + 1) / 2 := by omega
      have hlen : (hlfN l dir).length = (n + 1) / 2 := by
        unfold hlfN natsOf
        rw [List.length_map, List.length_take, order_len, HL.out]; omega
      have HHB := Lib.hid (show Blk wr (w3.heap.size + 1) 4 (bools (halfB l dir)) from by
        have := hH
        rw [List.take_of_length_le (by omega)] at this
        unfold halfB
        rw [HL.out]
        exact this)
      obtain ⟨wq, hwq⟩ : ∃ V, V = wr := ⟨_, rfl⟩
      subst hwq
      have r2 : ∀ o, (wq.alloc o).cell? ⟨w3.heap.size, 2, none⟩ = some (.slice (some ⟨gn, 0, none⟩) n n) := fun o => (hR.alloc o).four.2.2.1
      have r3 : ∀ o, (wq.alloc o).cell? ⟨w3.heap.size, 3, none⟩ = some (.slice (some ⟨gf, 0, none⟩) n n) := fun o => (hR.alloc o).four.2.2.2
      have hz3 := hH.lt
      clear hH hI hR hnb hfb hlen hk hlt
      have hmk3 := run_make3
      go_wp2_with fail
      (refine wp_named ?_; intro w6 hw6)
      have b6 : Below wq.heap.size wq w6 := by rw [hw6]; exact bELt
      have hA6 : Blk w6 wq.heap.size 162 (spZ 3) := by rw [hw6]; exact bLNt
      have hV6 : Blk w6 (wq.heap.size + 1) 160 #[.slice (some ⟨gn, 0, none⟩) n n, .slice (some ⟨gf, 0, none⟩) n n, .slice (some ⟨w3.heap.size + 1, 0, none⟩) n n] := by rw [hw6]; exact bLNt
      have b06 : Below w.heap.size w w6 := Bel.step hbl b6
      have hown6 : Own w6 w.heap.size 162 4 (some ⟨wq.heap.size, 0, none⟩) 0 3 [] := Own.made hA6 (by omega) (by omega) (by rfl)
      have HB3 := Lib.hid (show RdB w6 (some ⟨w3.heap.size + 1, 0, none⟩) n (halfB l dir) from (HHB.out.below b6 HHB.out.lt).rdB (by unfold halfB; rw [mkB_len, HL.out]))
      have HB1 := Lib.hid (HNB.out.below b6)
      have HB2 := Lib.hid (HFB.out.below b6)
      have zz := b6.size
      obtain ⟨L3, hL3⟩ : ∃ L3 : List (Value × Spl), L3 = [(.slice (some ⟨gn, 0, none⟩) n n, ⟨nb, cr nb E, dir, 0⟩), (.slice (some ⟨gf, 0, none⟩) n n, ⟨fb, cr fb E, dir, 1⟩), (.slice (some ⟨w3.heap.size + 1, 0, none⟩) n n, ⟨halfB l dir, cr (halfB l dir) E, dir, 2⟩)] := ⟨_, rfl⟩
      have hlen3 : L3.length = 3 := by rw [hL3]; rfl
      have HSPL := Lib.hid (show ∀ (k : Nat) (p : Value × Spl), L3[k]? = some p → IsSpl E l (3 * dir + k) p.2 from fun k p hp => by
        rw [hL3] at hp
        rcases three_at hp with ⟨rfl, rfl⟩ | ⟨rfl, rfl⟩ | ⟨rfl, rfl⟩
        · have h3 : (3 * dir + 0) / 3 = dir := by omega
          exact ⟨by rw [h3], by simp, rfl, fun _ => by rw [h3, HL.out]; exact HNN.out, fun h => by omega, fun h => by omega⟩
        · have h3 : (3 * dir + 1) / 3 = dir := by omega
          exact ⟨by rw [h3], by rw [show (3 * dir + 1) % 3 = 1 by omega]; rfl, rfl, fun h => by omega, fun _ => by rw [h3, HL.out]; exact HFF.out, fun h => by omega⟩
        · have h3 : (3 * dir + 2) / 3 = dir := by omega
          exact ⟨by rw [h3], by rw [show (3 * dir + 2) % 3 = 2 by omega]; rfl, rfl, fun h => by omega, fun h => by omega, fun _ => by rw [h3]⟩)
      have HIT := Lib.hid (show ∀ (k : Nat) (p : Value × Spl), L3[k]? = some p → ∃ g, p = (.slice (some ⟨g, 0, none⟩) n n, ⟨p.2.side, cr p.2.side E, dir, k⟩) ∧ (#[.slice (some ⟨gn, 0, none⟩) n n, .slice (some ⟨gf, 0, none⟩) n n, .slice (some ⟨w3.heap.size + 1, 0, none⟩) n n] : Array Value)[k]? = some (.slice (some ⟨g, 0, none⟩) n n) ∧ RdB w6 (some ⟨g, 0, none⟩) n p.2.side ∧ w.heap.size ≤ g ∧ g < wq.heap.size from fun k p hp => by
        rw [hL3] at hp
        rcases three_at hp with ⟨rfl, rfl⟩ | ⟨rfl, rfl⟩ | ⟨rfl, rfl⟩
        · exact ⟨gn, rfl, rfl, HB1.out, by omega, by omega⟩
        · exact ⟨gf, rfl, rfl, HB2.out, by omega, by omega⟩
        · exact ⟨w3.heap.size + 1, rfl, rfl, HB3.out, by omega, by omega⟩)
      have HSD := Lib.hid (show ∀ p ∈ L3, SideAt w6 (some ⟨wq.heap.size, 0, none⟩) p from fun p hp => by
        obtain ⟨k, hk, e⟩ := List.getElem_of_mem hp
        obtain ⟨g, e1, _, h3, _, h5⟩ := HIT.out k p (by rw [List.getElem?_eq_getElem hk, e])
        exact ⟨some ⟨g, 0, none⟩, n, n, by rw [e1], h3, Nat.le_refl _, fun g' e2 => by
          obtain rfl : g = g' := by injection e2
          exact ⟨by omega, blk_ne (by omega)⟩⟩)
      have HFR := Lib.hid (show ∀ p ∈ L3, FreshAt w.heap.size p from fun p hp => by
        obtain ⟨k, hk, e⟩ := List.getElem_of_mem hp
        obtain ⟨g, e1, _, h3, h4, _⟩ := HIT.out k p (by rw [List.getElem?_eq_getElem hk, e])
        intro A' n' c' g' e2 e3
        rw [e1] at e2
        simp only [Value.slice.injEq] at e2
        obtain ⟨rfl, _, _⟩ := e2
        obtain rfl : g = g' := by injection e3
        exact h4)
      have HL3 := Lib.hid hlen3
      clear hL3 hw6 r2 r3 hmk3 hA6 HNB HFB HHB HB1 HB2 HB3 hlen3
      generalize (#[.slice (some ⟨gn, 0, none⟩) n n, .slice (some ⟨gf, 0, none⟩) n n, .slice (some ⟨w3.heap.size + 1, 0, none⟩) n n] : Array Value) = vs at HIT hV6
      go_loopw [16, 69] (fun v i W => ∃ (k : Nat) (A6 : Option Addr) (c6 : Nat), k ≤ 3 ∧ i = .int .i64 k ∧ v = .slice A6 k c6 ∧ Own W w.heap.size 162 4 A6 k c6 (scells (L3.take k)) ∧ (∀ p ∈ L3, SideAt W A6 p) ∧ Blk W (wq.heap.size + 1) 160 vs ∧ blkOf A6 ≠ some (wq.heap.size + 1) ∧ Below w.heap.size w W) (fun _ i _ => 3 - (intOf i).toNat)
      case atStart => exact ⟨0, _, 3, by omega, rfl, rfl, hown6, HSD.out, hV6, blk_ne (by omega), b06⟩
      case round =>
        clear hown6 hV6 b06 hbl b6
        obtain ⟨k, A6, c6, hk, rfl, rfl, hown, hsd, hV, hne, hbl⟩ := hrel
        by_cases hlt : k < 3
        · obtain ⟨p, hp⟩ : ∃ p, L3[k]? = some p := ⟨_, List.getElem?_eq_getElem (by rw [HL3.out]; exact hlt)⟩
          obtain ⟨g, e1, e2, _, _, _⟩ := HIT.out k p hp
          have HTK := Lib.hid (show L3.take (k + 1) = L3.take k ++ [p] from by
            rw [List.take_succ_eq_append_getElem (List.getElem?_eq_some_iff.1 hp).1, (List.getElem?_eq_some_iff.1 hp).2])
          obtain ⟨A', n', c', q1, q2, _, _⟩ := hsd p (List.mem_of_getElem? hp)
          obtain ⟨pv, sd, pc, pd, pk⟩ := p
          simp only [Prod.mk.injEq, Spl.mk.injEq, true_and] at e1
          obtain ⟨rfl, rfl, rfl, rfl⟩ := e1
          simp only [Value.slice.injEq] at q1
          obtain ⟨rfl, rfl, rfl⟩ := q1
          have j1 : wr.cell? ⟨wq.heap.size + 1, k, none⟩ = some (.slice (some ⟨g, 0, none⟩) n n) := by rw [hV.cell]; exact e2
          have HC := Lib.hid (show Calls Tryz.prog 108 #[.slice (some ⟨g, 0, none⟩) n n, .slice B m d] wr fun e w' => e = .returned (.int .i64 (cr sd E)) ∧ Below wr.heap.size wr w' from cutCross_any _ _ n n m d sd E wr q2 (hE.below hbl) (by omega))
          have HSD := Lib.hid hsd
          have i1 : (0 : Int) ≤ (k : Int) := by omega
          have i2 : (k : Int) < 3 := by omega
          clear e2 hp q2 hsd
          go_wp2_with fail
          with_reducible refine HC.out.mono ?_
          rintro e w8 ⟨rfl, b8⟩
          obtain ⟨w9, hw9⟩ : ∃ w9, w9 = w8.alloc (.cells #[.slice (some ⟨g, 0, none⟩) n n, .int .i64 (cr sd E), .int .i64 dir, .int .i64 k] 162) := ⟨_, rfl⟩
          have b89 : Below w8.heap.size w8 w9 := by rw [hw9]; exact bELt
          have hblk : Blk w9 w8.heap.size 162 #[.slice (some ⟨g, 0, none⟩) n n, .int .i64 (cr sd E), .int .i64 dir, .int .i64 k] := by rw [hw9]; exact Blk.new _ _ _
          have b9 : Below wr.heap.size wr w9 := Bel.step b8 b89
          have own9 := hown.below b9
          have hrd := hblk.rds (s := 4) (m := 1) rfl
          have hbw9 : Below w.heap.size w w9 := Bel.step hbl b9
          have hz9 := hbw9.size
          have HSD9 := Lib.hid (show ∀ p ∈ L3, SideAt w9 A6 p from fun p hp => (HSD.out p hp).below b9)
          have hV9 := hV.below b9 hV.lt
          have hone : ∀ u ∈ [Value.slice (some ⟨g, 0, none⟩) n n, .int .i64 (cr sd E), .int .i64 dir, .int .i64 k], u.oneCell' = true := by
            intro u hu
            simp only [List.mem_cons, List.not_mem_nil, or_false] at hu
            rcases hu with rfl | rfl | rfl | rfl <;> rfl
          clear hown hV j1 HC HSD b8 b89 b9 hblk hbl
          go_wp2_with (rw [← hw9]; at_builtin; with_reducible refine wpList_app rfl (.tmp 74) (.tmp 82) 187 rfl 162 _ 4 48 infoSplit Tryz.underlying187 rfl (by omega) rfl rfl own9 hrd hone (by omega) (by omega) hz9 ?_)
          intro A7 c7 w10 own10 hg10 hat10
          rw [← hw9] at hg10
          have hs9 : w9.heap.size = w8.heap.size + 1 := by rw [hw9]; simp
          rw [← hs9] at hat10
          clear hs9
          have hbw10 : Below w.heap.size w w10 := Bel.grownOwn hbw9 hg10 own9 hz9
          have hV10 := hV9.grown hg10 hne
          have HSD10 := Lib.hid (show ∀ p ∈ L3, SideAt w10 A7 p from fun p hp => (HSD9.out p hp).next hg10 hat10)
          have hne10 : blkOf A7 ≠ some (wq.heap.size + 1) := by
            rcases hat10 with h | h
            · rw [h]; exact hne
            · have := hV9.lt
              rw [h]; intro e; injection e with e; omega
          have HO10 := Lib.hid (show Own w10 w.heap.size 162 4 A7 (k + 1) c7 (scells (L3.take (k + 1))) from by rw [HTK.out, scells_app]; exact own10)
          clear own10 own9 hrd hone hg10 hat10 hw9 hV9 hbw9
          go_wp2_with fail
          go_roundw
          case rel =>
            (repeat apply Exists.intro)
            exact ⟨⟨k + 1, A7, c7, by omega, by go_num, rfl, HO10.out, HSD10.out, hV10, hne10, hbw10⟩, rfl⟩
          case measure => simp [intOf]; omega
        · obtain rfl : k = 3 := by omega
          have ht : L3.take 3 = L3 := List.take_of_length_le (by rw [HL3.out]; omega)
          rw [ht] at hown
          have HO := Lib.hid hown
          have HSD := Lib.hid hsd
          clear hown hsd ht hV
          go_wp2_with fail
          go_ret2
          exact ⟨A6, c6, L3, rfl, ⟨HO.out, HL3.out, HSD.out⟩, HFR.out, HSPL.out, hbl⟩
end Go.Proofs.YtpffhoefmcpniaaGreatDoor
