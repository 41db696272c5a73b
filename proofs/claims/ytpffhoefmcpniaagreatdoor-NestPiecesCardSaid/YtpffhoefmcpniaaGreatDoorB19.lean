/- Parts of the proof: NeZ, Nf2. -/
import Derived.Test.YtpffhoefmcpniaaGreatDoorB1
import Derived.Test.YtpffhoefmcpniaaGreatDoorB16
import Derived.Test.YtpffhoefmcpniaaGreatDoorB18
namespace Go.Proofs.YtpffhoefmcpniaaGreatDoor
open Go.RowKit

attribute [local go_sem ↓] Go.wp_at_zero Go.wp_at_succ

def boolN : Value → Nat
 | .bool true => 1
 | _ => 0
def MaxPost (n m : Nat) (E : List Edg) (s t : List Nat) (w : World) (e : Ending) (w' : World) : Prop := ∃ (V : Int) (g0 g1 g2 : Nat) (b1 b2 : List Bool), e = .returned (.agg #[.int .i64 V, .slice (some ⟨g0, 0, none⟩) m m, .slice (some ⟨g1, 0, none⟩) n n, .slice (some ⟨g2, 0, none⟩) n n]) ∧ RdB w' (some ⟨g1, 0, none⟩) n b1 ∧ RdB w' (some ⟨g2, 0, none⟩) n b2 ∧ NearB n E s t b1 ∧ FarB n E s t b2 ∧ Below w.heap.size w w' ∧ w.heap.size ≤ g1 ∧ w.heap.size ≤ g2
set_option maxHeartbeats 4000000 in
set_option maxRecDepth 20000 in
theorem refMax_any (AE AS AT : Option Addr) (n m ce k cs l ct : Nat) (E : List Edg) (s t : List Nat) (w : World) (hE : RdP w AE m E) (hs : RdI w AS k (nats s)) (ht : RdI w AT l (nats t)) (hEn : Ends n E) (hsn : ∀ v ∈ s, v < n) (htn : ∀ v ∈ t, v < n) (hst : ∀ v ∈ t, v ∉ s) (hn : n ≤ 100000) (hm : m ≤ 100000) (hk : k ≤ 100000) (hl : l ≤ 100000) :
 Calls Tryz.prog 100 #[.int .i64 n, .slice AE m ce, .slice AS k cs, .slice AT l ct] w (MaxPost n m E s t w) := by
 have HE := Lib.hid hE
 have HS := Lib.hid hs
 have HT := Lib.hid ht
 have HEN := Lib.hid hEn
 have HSN := Lib.hid hsn
 have HTN := Lib.hid htn
 have HST := Lib.hid hst
 have hel : E.length = m := hE.1
 have hmk := run_makeI m (by omega)
 have htl : t.length = l := by have := ht.1; simpa [nats] using this
 clear hE hs ht hEn hsn htn hst
 go_enter Tryz.func100, Tryz.ntmps100
 go_wp2_with fail
 (refine wp_named ?_; intro w1 hw1)
 have hb1 : Below w.heap.size w w1 := by rw [hw1]; exact bELt
 have hR1 : Blk w1 w.heap.size 198 #[.int .i64 0, .slice none 0 0, .slice none 0 0, .slice none 0 0] := by rw [hw1]; exact bLNt
 have hF1 : Blk w1 (w.heap.size + 1) 3 (ints (List.replicate m 0)) := by rw [hw1, ← zeros_int]; exact bLNt
 have HF0 := Lib.hid (show FlowI E (nats s) (nats t) 0 (List.replicate m 0) by rw [← hel]; exact FlowI.zero _ _ _)
 have HEB := Lib.hid (show 0 < m → blkOf AE ≠ some (w.heap.size + 1) from fun h0 e => by
  obtain ⟨g, o, x, y, rfl, _, c, _⟩ := HE.out.at_ h0
  have := lt_of_cell c
  injection e with e
  simp only at this e
  omega)
 clear hw1 hmk
 go_loopw [10, 11] (fun a q W => Below w.heap.size w W ∧ ∃ (V : Int) (mm : Bool) (f : List Int), a = .int .i64 V ∧ q = .bool mm ∧ 0 ≤ V ∧ Blk W w.heap.size 198 #[.int .i64 0, .slice none 0 0, .slice none 0 0, .slice none 0 0] ∧ Blk W (w.heap.size + 1) 3 (ints f) ∧ FlowI E (nats s) (nats t) V f ∧ (mm = false → ∀ v ∈ nats t, ¬ Reach E f (nats s) v)) (fun a q _ => (m - (intOf a).toNat) * 2 + boolN q)
 case atStart => exact ⟨hb1, 0, true, _, rfl, rfl, Int.le_refl _, hR1, hF1, HF0.out, fun h => by cases h⟩
 case round =>
  clear hb1 hR1 hF1 HF0
  obtain ⟨hbl, V, mm, f, rfl, rfl, hv0, hR, hF, hFl, hno⟩ := hrel
  obtain ⟨W0, rfl⟩ : ∃ W, W = wr := ⟨_, rfl⟩
  have HFL := Lib.hid hFl
  have hvm := flowN_bd hFl HST.out
  have hfl := hFl.len
  rw [hel] at hvm hfl
  clear hFl
  cases mm with
  | false =>
   have HNO := Lib.hid (hno rfl)
   have HSD := Lib.hid (refSides_any AE (some ⟨w.heap.size + 1, 0, none⟩) AS AT n m ce m k cs l ct E f V s t W0 (HE.out.below hbl) (hF.rdI hfl) (HS.out.below hbl) (HT.out.below hbl) HEN.out HSN.out HTN.out HFL.out HNO.out HFL.out.unit hn hm hk hl)
   clear hno
   go_wp2_with fail
   with_reducible refine HSD.out.mono ?_
   rintro e w2 ⟨g1, g2, b1, b2, rfl, hr1, hr2, hN, hX, hb2, hg1, hg2⟩
   have hR2 := hR.below hb2 hR.lt
   have hz := hbl.size
   have hrl := hR.lt
   have hl2 := Bel.step hbl hb2
   obtain ⟨c0, c1, c2, c3⟩ := hR2.four
   have f0 := hR2.frozen 0
   have f1 := hR2.frozen 1
   have f2 := hR2.frozen 2
   have f3 := hR2.frozen 3
   clear HSD hb2
   go_wp2_with fail
   obtain ⟨w9, hw9⟩ : ∃ w9, w9 = (((w2.setCell ⟨w.heap.size, 0, none⟩ (.int .i64 V)).setCell ⟨w.heap.size, 1, none⟩ (.slice (some ⟨w.heap.size + 1, 0, none⟩) m m)).setCell ⟨w.heap.size, 2, none⟩ (.slice (some ⟨g1, 0, none⟩) n n)).setCell ⟨w.heap.size, 3, none⟩ (.slice (some ⟨g2, 0, none⟩) n n) := ⟨_, rfl⟩
   rw [← hw9]
   have hR9 : Blk w9 w.heap.size 198 #[.int .i64 V, .slice (some ⟨w.heap.size + 1, 0, none⟩) m m, .slice (some ⟨g1, 0, none⟩) n n, .slice (some ⟨g2, 0, none⟩) n n] := by rw [hw9]; exact (((hR2.set_ 0 _).set_ 1 _).set_ 2 _).set_ 3 _
   have hb9 : Below w.heap.size w w9 := by rw [hw9]; exact (((hl2.setCell (Nat.le_refl _) _).setCell (Nat.le_refl _) _).setCell (Nat.le_refl _) _).setCell (Nat.le_refl _) _
   have n1 : blkOf (some ⟨g1, 0, none⟩ : Option Addr) ≠ some w.heap.size := fun e => by injection e with e; simp only at e; omega
   have n2 : blkOf (some ⟨g2, 0, none⟩ : Option Addr) ≠ some w.heap.size := fun e => by injection e with e; simp only at e; omega
   have hr19 : RdB w9 (some ⟨g1, 0, none⟩) n b1 := by rw [hw9]; exact (((hr1.far _ n1).far _ n1).far _ n1).far _ n1
   have hr29 : RdB w9 (some ⟨g2, 0, none⟩) n b2 := by rw [hw9]; exact (((hr2.far _ n2).far _ n2).far _ n2).far _ n2
   clear hw9 c0 c1 c2 c3
   obtain ⟨c0, c1, c2, c3⟩ := hR9.four
   refine bodyPost_ret (v := .agg #[.int .i64 V, .slice (some ⟨w.heap.size + 1, 0, none⟩) m m, .slice (some ⟨g1, 0, none⟩) n n, .slice (some ⟨g2, 0, none⟩) n n]) (by simp [results, Tryz.results100, go_sem, c0, c1, c2, c3]) rfl ?_
   exact ⟨V, _, g1, g2, b1, b2, rfl, hr19, hr29, hN, hX, hb9, Nat.le_trans hz hg1, Nat.le_trans hz hg2⟩
  | true =>
   clear hno
   have HRE := Lib.hid (refReach_any AE (some ⟨w.heap.size + 1, 0, none⟩) AS n m ce m k cs E f s W0 (HE.out.below hbl) (hF.rdI hfl) (HS.out.below hbl) HEN.out HSN.out hn hm hk)
   go_wp2_with fail
   with_reducible refine HRE.out.mono ?_
   rintro e w2 ⟨gB, b, q_, rfl, hB2, hgb, hbf, hsq, hgo, hb2⟩
   have HBF := Lib.hid hbf
   have HSQ := Lib.hid hsq
   have HGO := Lib.hid hgo
   have hR2 := hR.below hb2 hR.lt
   have hF2 := hF.below hb2 hF.lt
   have hFlt := hF.lt
   have hl2 := Bel.step hbl hb2
   clear HRE hb2 hbf hsq hgo hR hF
   go_wp2_with fail
   go_loopw [10, 11, 13] (fun a q x W => Below w.heap.size w W ∧ ∃ (i : Nat) (V' : Int) (mm : Bool) (f' : List Int), i ≤ l ∧ a = .int .i64 V' ∧ q = .bool mm ∧ x = .int .i64 i ∧ Blk W w.heap.size 198 #[.int .i64 0, .slice none 0 0, .slice none 0 0, .slice none 0 0] ∧ Blk W (w.heap.size + 1) 3 (ints f') ∧ Blk W gB 3 (ints b) ∧ FlowI E (nats s) (nats t) V' f' ∧ ((mm = false ∧ V' = V ∧ f' = f ∧ ∀ v ∈ t.take i, v ∉ q_) ∨ (mm = true ∧ V' = V + 1))) (fun _ _ x _ => l - (intOf x).toNat)
   case atStart => exact ⟨hl2, 0, V, false, f, Nat.zero_le _, rfl, rfl, rfl, hR2, hF2, hB2, HFL.out, .inl ⟨rfl, rfl, rfl, fun v hv => by simp at hv⟩⟩
   case round =>
    clear hl2 hR2 hF2 hB2
    obtain ⟨hbl, i, V', mm, f', hi, rfl, rfl, rfl, hR, hF, hB, hFl, hor⟩ := hrel
    have HF2 := Lib.hid hFl
    have HR := Lib.hid hR
    have HF := Lib.hid hF
    have HL := Lib.hid hbl
    clear hFl hR hF hbl
    cases mm with
    | true =>
     obtain ⟨h, _⟩ | ⟨_, rfl⟩ := hor
     · cases h
     have hvm2 := flowN_bd HF2.out HST.out
     rw [hel] at hvm2
     by_cases hil : (i : Int) < (l : Int)
     all_goals
      go_wp2_with fail
      go_roundw
      case rel => exact ⟨HL.out, V + 1, true, f', rfl, rfl, by omega, HR.out, HF.out, HF2.out, fun h => by cases h⟩
      case measure => simp only [intOf, boolN]; omega
    | false =>
     obtain ⟨_, rfl, rfl, hq⟩ | ⟨h, _⟩ := hor
     rotate_left
     · cases h
     have HQ := Lib.hid hq
     clear hq
     by_cases hlt : i < l
     · obtain ⟨tb, to, x, rfl, hx, hc⟩ := (HT.out.below HL.out).at_ hlt
       obtain ⟨v, rfl, hv⟩ := nats_getE hx
       have hvt := List.mem_of_getElem? hv
       have hvn := HTN.out v hvt
       have hbe := List.getElem?_eq_getElem (show v < b.length by rw [HBF.out.len]; exact hvn)
       generalize b[v]'(by rw [HBF.out.len]; exact hvn) = z at hbe
       have cz := hB.cellI hbe
       have i1 : (0 : Int) ≤ (i : Int) := by omega
       have i2 : (i : Int) < (l : Int) := by omega
       have i3 : (0 : Int) ≤ (v : Int) := by omega
       have i4 : (v : Int) < (n : Int) := by omega
       have HV := Lib.hid hv
       have HBE := Lib.hid hbe
       have HVT := Lib.hid hvt
       have HI := Lib.hid hlt
       clear hx hv hbe hvt
       by_cases hz0 : z < 0
       · have e0 : ¬ z ≥ 0 := by omega
         have hvq : v ∉ q_ := fun hm2 => by
          obtain ⟨p, hp⟩ := List.getElem?_of_mem hm2
          rcases HBF.out.inn p v hp with ⟨_, h⟩ | ⟨j, _, _, _, _, h, _⟩
          · exact HST.out v HVT.out h
          · rw [HBE.out] at h; have := Option.some.inj h; omega
         have HVQ := Lib.hid hvq
         clear hvq
         go_wp2_with fail
         go_roundw
         case rel => exact ⟨HL.out, i + 1, V', false, f', by have := HI.out; omega, rfl, rfl, by go_num, HR.out, HF.out, hB, HF2.out, .inl ⟨rfl, rfl, rfl, fun u hu => by
          rw [List.take_succ_eq_append_getElem (List.getElem?_eq_some_iff.1 HV.out).1, (List.getElem?_eq_some_iff.1 HV.out).2] at hu
          rcases List.mem_append.1 hu with hu | hu
          · exact HQ.out u hu
          · rw [List.mem_singleton.1 hu]; exact HVQ.out⟩⟩
         case measure => have := HI.out; simp [intOf]; omega
       · have e0 : z ≥ 0 := by omega
         have hvq : v ∈ q_ := (HBF.out.mem hvn).2 (fun e => by rw [HBE.out] at e; have := Option.some.inj e; omega)
         obtain ⟨p0, hp0⟩ := List.getElem?_of_mem hvq
         have hm0 : 0 < m := by
          rcases HBF.out.inn p0 v hp0 with ⟨h, _⟩ | ⟨j, _, _, _, _, _, x, _, _, hE⟩
          · rw [HBE.out] at h; have := Option.some.inj h; omega
          · rw [← hel]
            rcases hE with ⟨h, _⟩ | ⟨h, _⟩
            · have := (List.getElem?_eq_some_iff.1 h).1; omega
            · have := (List.getElem?_eq_some_iff.1 h).1; omega
         have HPU := Lib.hid (refPush_any AE (w.heap.size + 1) gB n m ce p0 v E f' b s q_ wr (HE.out.below HL.out) (HEB.out hm0) HF.out hB (by omega) HBF.out hp0 HF2.out.unit HEN.out hfl)
         clear hvq hp0 hm0
         go_wp2_with fail
         with_reducible refine HPU.out.mono ?_
         rintro e w5 ⟨rfl, f2, p, t', hPs, ht', hF5, hg5⟩
         have HR5 := Lib.hid (HR.out.grown hg5 (by intro e; injection e with e; omega))
         have HB5 := Lib.hid (hB.grown hg5 (by intro e; injection e with e; omega))
         have HL5 := Lib.hid (Below.grown HL.out hg5 HL.out.size (fun q e => by injection e with e; omega))
         have HF5 := Lib.hid hF5
         have HFL5 := Lib.hid (hPs.flow HF2.out ht' HVT.out)
         have e6 : IntKind.i64.wrap (V' + 1) = V' + 1 := IntWalk.i64_in _ (by omega)
         clear HPU hPs ht' hF5 hg5 hB
         go_wp2_with fail
         go_roundw
         case rel => exact ⟨HL5.out, i + 1, V' + 1, true, f2, by have := HI.out; omega, rfl, rfl, by go_num, HR5.out, HF5.out, HB5.out, HFL5.out, .inr ⟨rfl, rfl⟩⟩
         case measure => have := HI.out; simp [intOf]; omega
     obtain rfl : l = i := by omega
     rw [List.take_of_length_le (by omega)] at HQ
     go_wp2_with fail
     go_roundw
     case rel => exact ⟨HL.out, V', false, f', rfl, rfl, hv0, HR.out, HF.out, HF2.out, fun _ v hv hr => by
      obtain ⟨a, rfl, ha⟩ := reach_bfs HEN.out HSQ.out HGO.out hr
      exact HQ.out a (nats_mem.1 hv) ha⟩
     case measure => simp only [intOf, boolN]; omega
end Go.Proofs.YtpffhoefmcpniaaGreatDoor

namespace Go.Proofs.YtpffhoefmcpniaaGreatDoor
open Go.RowKit

attribute [local go_sem ↓] Go.wp_at_zero Go.wp_at_succ

theorem infoSplitR : (Tryz.prog.info? 166).map (fun i => (i.zero, i.size, i.bytes)) = some (some (.agg #[.slice none 0 0, .int .i64 0, .int .i64 0, .int .i64 0]), 4, 48) := by kernel_rfl
def RAllPost (E l : List (Int × Int)) (w : World) (e : Ending) (w' : World) : Prop := ∃ (A' : Option Addr) (c' : Nat) (L : List Spl), e = .returned (.slice A' 12 c') ∧ RdS w' A' 12 L ∧ IsAll E l 12 L ∧ 12 ≤ c' ∧ Below w.heap.size w w'
set_option maxHeartbeats 8000000 in
set_option maxRecDepth 100000 in
theorem refAll_any (A B : Option Addr) (n m c d : Nat) (l E : List (Int × Int)) (w : World) (h : RdP w A n l) (hE : RdP w B m E) (hG : Good l E) (hn : n ≤ 4096) (hm : m ≤ 16384) :
 Calls Tryz.prog 93 #[.slice A n c, .slice B m d] w (RAllPost E l w) := by
 have hl := h.1
 obtain ⟨g2, gN, gE⟩ := hG
 rw [hl] at g2 gE
 have he := ends_two g2
 have HN := Lib.hid gN
 have HE := Lib.hid gE
 have HL := Lib.hid hl
 have HP := Lib.hid h
 have HPE := Lib.hid hE
 have hmk := run_makeB n (by omega)
 have HSRC := Lib.hid (show ∀ dir, nats (srcN l dir) = (order l dir).take (endsN n) from fun dir => by
  unfold srcN
  rw [nats_of (fun x hx => (order_mem (List.mem_of_mem_take hx)).1), HL.out])
 have HDST := Lib.hid (show ∀ dir, nats (dstN l dir) = (order l dir).drop (n - endsN n) from fun dir => by
  unfold dstN
  rw [nats_of (fun x hx => (order_mem (List.mem_of_mem_drop hx)).1), HL.out])
 have HHLF := Lib.hid (show ∀ dir, nats (hlfN l dir) = (order l dir).take ((n + 1) / 2) from fun dir => by
  unfold hlfN
  rw [nats_of (fun x hx => (order_mem (List.mem_of_mem_take hx)).1), HL.out])
 have HO := Lib.hid (show ∀ V (dir : Nat), dir ≤ 3 → RdP V A n l → Calls Tryz.prog 98 #[.slice A n c, .int .i64 dir] V fun e w' => ∃ A' c', e = .returned (.slice A' n c') ∧ RdI w' A' n (order l dir) ∧ n ≤ c' ∧ Below V.heap.size V w' from
  fun V dir hd hV => refOrder_any A n c l dir V hV (by omega) (by omega) (by omega) (fun p hp => by have := near1_bd (HN.out p hp); omega))
 clear hl gN gE h hE
 go_enter Tryz.func93, Tryz.ntmps93
 go_wp2_with fail
 go_loopw [5, 6] (fun a q W => Below w.heap.size w W ∧ ∃ (k dir c6 : Nat) (A6 : Option Addr) (L : List (Value × Spl)), dir ≤ 4 ∧ q = .int .i64 dir ∧ a = .slice A6 k c6 ∧ k = 3 * dir ∧ SpO W w.heap.size 166 A6 k c6 L ∧ (∀ i p, L[i]? = some p → IsSpl E l i p.2)) (fun _ q _ => 4 - (intOf q).toNat)
 case atStart => exact ⟨Below.refl _ _, 0, 0, 0, none, [], by omega, rfl, rfl, rfl, SpO.nil _ _ _, fun i p hp => by simp at hp⟩
 case round =>
  obtain ⟨hbl, k, dir, c6, A6, L, hd, rfl, rfl, hk, hsp, hspl⟩ := hrel
  have HSP := Lib.hid hspl
  have HS := Lib.hid hsp
  have HK := Lib.hid hk
  have HBL := Lib.hid hbl
  have hk12 : k ≤ 12 := by omega
  clear hk hsp hspl hbl
  by_cases hlt : dir < 4
  rotate_left
  · obtain rfl : dir = 4 := by omega
    obtain rfl : k = 12 := by have := HK.out; omega
    go_wp2_with fail
    go_ret
    exact ⟨A6, c6, L.map (·.2), rfl, HS.out.rdS, ⟨by rw [List.length_map]; exact HS.out.2.1, fun i s hs => by
     rw [List.getElem?_map] at hs
     cases e : L[i]? with
     | none => rw [e] at hs; cases hs
     | some p => rw [e] at hs; cases hs; exact HSP.out i p e⟩, HS.out.1.cap, HBL.out⟩
  have i2 : (dir : Int) < 4 := by omega
  go_wp2_with fail
  with_reducible refine (HO.out wr dir (by omega) (HP.out.below HBL.out)).mono ?_
  rintro e w1 ⟨A1, c1, rfl, h1, hc1, b1⟩
  have H1 := Lib.hid h1
  have HB1 := Lib.hid (Bel.step HBL.out b1)
  have HS1 := Lib.hid (HS.out.below b1)
  clear h1 b1 HS HBL
  go_wp2_with fail
  with_reducible refine (refEnds_any A1 n c1 _ w1 H1.out (by omega) hc1).mono ?_
  rintro e w2 ⟨A2, c2, A3, c3, rfl, h2, h3, b2⟩
  rw [← HSRC.out dir] at h2
  rw [← HDST.out dir] at h3
  have HB2 := Lib.hid (Bel.step HB1.out b2)
  have HS2 := Lib.hid (HS1.out.below b2)
  have H12 := Lib.hid (H1.out.below b2)
  have HM := Lib.hid (refMax_any B A2 A3 n m d (endsN n) c2 (endsN n) c3 E (srcN l dir) (dstN l dir) w2 (HPE.out.below HB2.out) h2 h3 HE.out (fun v hv => by have := srcN_lt hv; rw [HL.out] at this; exact this) (fun v hv => by have := dstN_lt hv; rw [HL.out] at this; exact this) (fun v hv => srcN_dst (by rw [HL.out]; exact g2) hv) (by omega) (by omega) (by omega) (by omega))
  clear h2 h3 b2 HB1 HS1 H1
  go_wp2_with fail
  with_reducible refine HM.out.mono ?_
  rintro e w3 ⟨V, g0, gn, gf, nb, fb, rfl, hnb, hfb, hN, hF, b3, hgn, hgf⟩
  have HB3 := Lib.hid (Bel.step HB2.out b3)
  have HS3 := Lib.hid (HS2.out.below b3)
  have HA6 := Lib.hid HS2.out.1.lt
  have z23 := b3.size
  have H13 := Lib.hid (H12.out.below b3)
  have HNB := Lib.hid hnb
  have HFB := Lib.hid hfb
  have HNN := Lib.hid hN
  have HFF := Lib.hid hF
  have zN : w2.heap.size ≤ gn ∧ gn < w3.heap.size := by
   obtain ⟨b', o', x', ea, _, hc⟩ := hnb.at_ (i := 0) (by omega)
   cases ea
   exact ⟨hgn, lt_of_cell hc⟩
  have zF : w2.heap.size ≤ gf ∧ gf < w3.heap.size := by
   obtain ⟨b', o', x', ea, _, hc⟩ := hfb.at_ (i := 0) (by omega)
   cases ea
   exact ⟨hgf, lt_of_cell hc⟩
  clear hnb hfb hN hF b3 hgn hgf HM HB2 HS2 H12
  go_wp2_with fail
  (refine calls_named ?_; intro w4 hw4)
  have b34 : Below w3.heap.size w3 w4 := by rw [hw4]; exact bELt
  have hR4 : Blk w4 w3.heap.size 198 #[.int .i64 V, .slice (some ⟨g0, 0, none⟩) m m, .slice (some ⟨gn, 0, none⟩) n n, .slice (some ⟨gf, 0, none⟩) n n] := by rw [hw4]; exact bLNt
  clear hw4
  with_reducible refine (refHalf_any A1 n c1 _ w4 (H13.out.below b34) (by omega) hc1).mono ?_
  rintro e w5 ⟨A5, c5, rfl, h5, b5⟩
  rw [← HHLF.out dir] at h5
  have b35 : Below w3.heap.size w3 w5 := Bel.step b34 b5
  have hR5 := hR4.below b5 hR4.lt
  have HNB5 := Lib.hid (HNB.out.below b35)
  have HFB5 := Lib.hid (HFB.out.below b35)
  have HS5 := Lib.hid (HS3.out.below b35)
  have HB5 := Lib.hid (Bel.step HB3.out b35)
  have H5 := Lib.hid h5
  have z35 := b35.size
  have zR := hR5.lt
  clear b34 b5 hR4 h5 b35 HNB HFB HS3 HB3 H13
  go_wp2_with fail
  (refine wp_named ?_; intro w6 hw6)
  have b56 : Below w5.heap.size w5 w6 := by rw [hw6]; exact bELt
  have hH6 : Blk w6 w5.heap.size 4 (bools (mkB n ((hlfN l dir).take 0))) := by rw [hw6, mkB_nil]; exact bLNt
  have HR5 := Lib.hid hR5
  clear hw6 hR5
  go_loopw [13] (fun i W => Below w5.heap.size w5 W ∧ ∃ k : Nat, k ≤ (n + 1) / 2 ∧ i = .int .i64 k ∧ Blk W w5.heap.size 4 (bools (mkB n ((hlfN l dir).take k)))) (fun i _ => (n + 1) / 2 - (intOf i).toNat)
  case atStart => exact ⟨b56, 0, Nat.zero_le _, rfl, hH6⟩
  case round =>
   clear b56 hH6
   obtain ⟨hbl, kk, hkk, rfl, hH⟩ := hrel
   by_cases hlt2 : kk < (n + 1) / 2
   · obtain ⟨g, o, x, ea, hx, hc⟩ := (H5.out.below hbl).at_ hlt2
     subst ea
     obtain ⟨v, rfl, hv⟩ := nats_getE hx
     have hvn : v < n := by have := hlfN_lt (List.mem_of_getElem? hv); rw [HL.out] at this; exact this
     have HX := Lib.hid (mkB_next (n := n) hv)
     have hlen := mkB_len n ((hlfN l dir).take kk)
     obtain ⟨y, hy⟩ : ∃ y, (mkB n ((hlfN l dir).take kk))[v]? = some y := ⟨_, List.getElem?_eq_getElem (by rw [hlen]; exact hvn)⟩
     have c1 : wr.cell? ⟨w5.heap.size, v, none⟩ = some (.bool y) := hH.cellB hy
     have f1 := hH.frozen v
     have i1 : (0 : Int) ≤ (kk : Int) := by omega
     have i3 : (kk : Int) < (((n + 1) / 2 : Nat) : Int) := by omega
     have i4 : (0 : Int) ≤ (v : Int) := by omega
     have i5 : (v : Int) < (n : Int) := by omega
     have HH := Lib.hid (hH.setB HX.out)
     have hbn : Below w5.heap.size w5 (wr.setCell ⟨w5.heap.size, v, none⟩ (.bool true)) := hbl.setCell (Nat.le_refl _) _
     clear hx hv hlen hy hH hbl
     go_wp2_with fail
     go_roundw
     case rel => exact ⟨hbn, kk + 1, by omega, by go_num, HH.out⟩
     case measure => simp [intOf]; omega
   obtain rfl : kk = (n + 1) / 2 := by omega
   have hlen : (hlfN l dir).length = (n + 1) / 2 := by
    unfold hlfN natsOf
    rw [List.length_map, List.length_take, order_len, HL.out]; omega
   obtain ⟨W0, rfl⟩ : ∃ W, W = wr := ⟨_, rfl⟩
   have HHB := Lib.hid (show RdB W0 (some ⟨w5.heap.size, 0, none⟩) n (halfB l dir) from by
    have := hH
    rw [List.take_of_length_le (by omega)] at this
    unfold halfB
    rw [HL.out]
    exact this.rdB (mkB_len _ _))
   have HNB := Lib.hid (HNB5.out.below hbl)
   have HFB := Lib.hid (HFB5.out.below hbl)
   have HS := Lib.hid (HS5.out.below hbl)
   have HBW := Lib.hid (Bel.step HB5.out hbl)
   have hRW := HR5.out.below hbl HR5.out.lt
   have zH := hH.lt
   obtain ⟨r0, r1, r2, r3⟩ := hRW.four
   have hz5 := HB5.out.size
   have hz50 := hbl.size
   have HSY := Lib.hid (show ∀ V, Below W0.heap.size W0 V → V.cell? ⟨w3.heap.size, 2, none⟩ = some (.slice (some ⟨gn, 0, none⟩) n n) ∧ V.cell? ⟨w3.heap.size, 3, none⟩ = some (.slice (some ⟨gf, 0, none⟩) n n) from fun V hV => ⟨Below.cellOf hV (Nat.le_refl _) r2, Below.cellOf hV (Nat.le_refl _) r3⟩)
   have HSX := Lib.hid (show ∀ V : World, (V.cell? ⟨w3.heap.size, 2, none⟩ = some (.slice (some ⟨gn, 0, none⟩) n n) ∧ V.cell? ⟨w3.heap.size, 3, none⟩ = some (.slice (some ⟨gf, 0, none⟩) n n)) → V.cell? ⟨w3.heap.size, 2, none⟩ = some (.slice (some ⟨gn, 0, none⟩) n n) ∧ V.cell? ⟨w3.heap.size, 3, none⟩ = some (.slice (some ⟨gf, 0, none⟩) n n) from fun V hV => hV)
   have HC := Lib.hid (show ∀ V, Below W0.heap.size W0 V → ∀ g b, RdB W0 (some ⟨g, 0, none⟩) n b → Calls Tryz.prog 102 #[.slice (some ⟨g, 0, none⟩) n n, .slice B m d] V fun e w' => e = .returned (.int .i64 (cr b E)) ∧ Below W0.heap.size W0 w' from fun V hV g b hb => (refCross_any _ _ n n m d b E V (hb.below hV) (HPE.out.below (Bel.step HBW.out hV)) (by omega)).mono fun _ _ ⟨h1, q, h2⟩ => ⟨h1, by rw [h2]; exact below_drewN hV q⟩)
   clear hlen hH hbl r0 r1 r2 r3 hRW HNB5 HFB5 HS5 HR5 H5 HB5 hkk hlt2
   go_wp2_with fail
   refine wp_region_held_drew (S := fun V => V.cell? ⟨w3.heap.size, 2, none⟩ = some (.slice (some ⟨gn, 0, none⟩) n n) ∧ V.cell? ⟨w3.heap.size, 3, none⟩ = some (.slice (some ⟨gf, 0, none⟩) n n)) (by kernel_rfl) (HSY.out _ (Below.refl _ _).drew) (fun _ => ?_)
   refine tk 0 49 (h := ⟨_, tv, ?_⟩)
   simp only [pE, List.set]
   refine tk 1 50 (h := ⟨_, tv, ?_⟩)
   simp only [pE, List.set]
   refine tk 2 51 (h := ⟨_, tv, ?_⟩)
   simp only [pE, List.set]
   refine tk 3 52 (h := ⟨_, tv, ?_⟩)
   simp only [pE, List.set]
   refine tk 4 53 (h := ⟨_, tv, ?_⟩)
   simp only [pE, List.set]
   refine tk 5 54 (h := ⟨_, tv, ?_⟩)
   simp only [pE, List.set]
   refine tk 7 56 (h := ⟨_, tv, ?_⟩)
   simp only [pE, List.set]
   refine tk 9 58 (h := ⟨_, tv, ?_⟩)
   simp only [pE, List.set]
   refine tk 10 59 (h := ⟨_, tv, ?_⟩)
   simp only [pE, List.set]
   refine tk 11 60 (h := ⟨_, tv, ?_⟩)
   simp only [pE, List.set]
   refine tk 12 61 (h := ⟨_, tv, ?_⟩)
   simp only [pE, List.set]
   refine tk 13 62 (h := ⟨_, tv, ?_⟩)
   simp only [pE, List.set]
   refine tk 15 64 (h := ⟨_, tv, ?_⟩)
   simp only [pE, List.set]
   refine tk 17 66 (h := ⟨_, tv, ?_⟩)
   simp only [pE, List.set]
   refine tk 18 67 (h := ⟨_, tv, ?_⟩)
   simp only [pE, List.set]
   refine tk 19 68 (h := ⟨_, tv, ?_⟩)
   simp only [pE, List.set]
   refine tk 21 70 (h := ⟨_, tv, ?_⟩)
   simp only [pE, List.set]
   refine wpAnyH_ready (rs := [6]) (by kernel_rfl) (by simp) ?_
   refine AllReadyH.cons (o := _) rfl (fun K hK => ?_) AllReadyH.nil
   go_simp
   with_reducible refine (HC.out _ (Below.refl _ _).drew gn nb HNB.out).mono ?_
   rintro e V1 ⟨rfl, hv1⟩
   go_simp
   refine hK.out _ _ (HSY.out _ hv1) (fun _ => ?_)
   clear hK K
   refine tk 8 57 (h := ⟨_, tv, ?_⟩)
   simp only [pE, List.set]
   refine wpAnyH_ready (rs := [14]) (by kernel_rfl) (by simp) ?_
   refine AllReadyH.cons (o := _) rfl (fun K hK => ?_) AllReadyH.nil
   go_simp
   with_reducible refine (HC.out _ hv1 gf fb HFB.out).mono ?_
   rintro e V2 ⟨rfl, hv2⟩
   go_simp
   refine hK.out _ _ (HSY.out _ hv2) (fun _ => ?_)
   clear hK K
   refine tk 16 65 (h := ⟨_, tv, ?_⟩)
   simp only [pE, List.set]
   refine wpAnyH_ready (rs := [20]) (by kernel_rfl) (by simp) ?_
   refine AllReadyH.cons (o := _) rfl (fun K hK => ?_) AllReadyH.nil
   go_simp
   with_reducible refine (HC.out _ hv2 w5.heap.size (halfB l dir) HHB.out).mono ?_
   rintro e V3 ⟨rfl, hv3⟩
   go_simp
   refine hK.out _ _ (HSY.out _ hv3) (fun _ => ?_)
   clear hK K
   refine tk 22 71 (h := ⟨_, tv, ?_⟩)
   simp only [pE, List.set]
   refine wpAnyH_ready (rs := [23]) (by kernel_rfl) (by simp) ?_
   refine AllReadyH.cons (o := _) rfl (fun K hK => ?_) AllReadyH.nil
   go_simp
   obtain ⟨V4, hV4⟩ : ∃ W, W = V3.alloc (.cells #[.slice (some ⟨gn, 0, none⟩) n n, .int .i64 (cr nb E), .int .i64 dir, .int .i64 0, .slice (some ⟨gf, 0, none⟩) n n, .int .i64 (cr fb E), .int .i64 dir, .int .i64 1, .slice (some ⟨w5.heap.size, 0, none⟩) n n, .int .i64 (cr (halfB l dir) E), .int .i64 dir, .int .i64 2] 166) := ⟨_, rfl⟩
   rw [← hV4]
   have hb34 : Below V3.heap.size V3 V4 := by rw [hV4]; exact bELt
   have hv4 : Below W0.heap.size W0 V4 := Bel.step hv3 hb34
   obtain ⟨L3, hL3⟩ : ∃ L3 : List (Value × Spl), L3 = [(.slice (some ⟨gn, 0, none⟩) n n, ⟨nb, cr nb E, dir, 0⟩), (.slice (some ⟨gf, 0, none⟩) n n, ⟨fb, cr fb E, dir, 1⟩), (.slice (some ⟨w5.heap.size, 0, none⟩) n n, ⟨halfB l dir, cr (halfB l dir) E, dir, 2⟩)] := ⟨_, rfl⟩
   have hlen3 : L3.length = 3 := by rw [hL3]; rfl
   have hrd : Rds V4 4 (some ⟨V3.heap.size, 0, none⟩) 3 (scells L3) := by
    rw [hV4, hL3]
    exact (Blk.new V3 166 _).rds rfl
   have HSPL := Lib.hid (show ∀ (k : Nat) (p : Value × Spl), L3[k]? = some p → IsSpl E l (3 * dir + k) p.2 from fun k p hp => by
    rw [hL3] at hp
    rcases three_at hp with ⟨rfl, rfl⟩ | ⟨rfl, rfl⟩ | ⟨rfl, rfl⟩
    · have h3 : (3 * dir + 0) / 3 = dir := by omega
      exact ⟨by rw [h3], by simp, rfl, fun _ => by rw [h3, HL.out]; exact HNN.out, fun h => by omega, fun h => by omega⟩
    · have h3 : (3 * dir + 1) / 3 = dir := by omega
      exact ⟨by rw [h3], by rw [show (3 * dir + 1) % 3 = 1 by omega]; rfl, rfl, fun h => by omega, fun _ => by rw [h3, HL.out]; exact HFF.out, fun h => by omega⟩
    · have h3 : (3 * dir + 2) / 3 = dir := by omega
      exact ⟨by rw [h3], by rw [show (3 * dir + 2) % 3 = 2 by omega]; rfl, rfl, fun h => by omega, fun h => by omega, fun _ => by rw [h3]⟩)
   have HSD := Lib.hid (show ∀ p ∈ L3, SideAt V4 A6 p from fun p hp => by
    have hz := hv4.size
    have key : ∀ g b, w2.heap.size ≤ g → g < V4.heap.size → RdB V4 (some ⟨g, 0, none⟩) n b → ∀ x y z, SideAt V4 A6 (.slice (some ⟨g, 0, none⟩) n n, ⟨b, x, y, z⟩) := fun g b h1 h2 h3 x y z => ⟨some ⟨g, 0, none⟩, n, n, rfl, h3, Nat.le_refl _, fun g' e => by
     obtain rfl : g = g' := by injection e
     exact ⟨h2, fun e2 => by have := (HA6.out g e2).2; omega⟩⟩
    rw [hL3] at hp
    simp only [List.mem_cons, List.not_mem_nil, or_false] at hp
    rcases hp with rfl | rfl | rfl
    · exact key gn nb zN.1 (by omega) (HNB.out.below hv4) _ _ _
    · exact key gf fb zF.1 (by omega) (HFB.out.below hv4) _ _ _
    · exact key w5.heap.size _ (by omega) (by omega) (HHB.out.below hv4) _ _ _)
   have hone := scells_one HSD.out
   have HS4 := Lib.hid (HS.out.below hv4)
   have hown := HS4.out.1
   have HBV := Lib.hid (Bel.step HBW.out hv4)
   have hzv : w.heap.size ≤ V4.heap.size := HBV.out.size
   have HV4 := Lib.hid hv4
   have HL3 := Lib.hid hlen3
   clear hL3 hV4 hb34 hlen3 HC HNB HFB HHB hv3 hv2 hv1 HS
   refine hK.out _ _ (HSY.out _ HV4.out) (fun _ => ?_)
   clear hK K hv4
   refine wpAnyH_ready (rs := [24]) (by kernel_rfl) (by simp) ?_
   refine AllReadyH.cons (o := _) rfl (fun K hK => ?_) AllReadyH.nil
   with_reducible refine step_app' (some 73) rfl rfl (.tmp 49) (.tmp 72) 191 rfl 166 _ 4 48 infoSplitR Tryz.underlying191 rfl (by omega) rfl rfl hown hrd hone (by omega) (by omega) hzv ?_
   intro A7 c7 V5 own5 hg5 hat5
   have hb5 : Below w.heap.size w V5 := Bel.grownOwn HBV.out hg5 hown hzv
   have HS5 := Lib.hid (HS4.out.push own5 hg5 hat5 HL3.out HSD.out)
   have HB5 := Lib.hid hb5
   have HL5 := Lib.hid HS4.out.2.1
   obtain ⟨s2, s3⟩ := HSY.out _ HV4.out
   have hne5 : blkOf A6 ≠ some w3.heap.size := fun e => by have := (HA6.out _ e).2; omega
   have hsv : V5.cell? ⟨w3.heap.size, 2, none⟩ = some (.slice (some ⟨gn, 0, none⟩) n n) ∧ V5.cell? ⟨w3.heap.size, 3, none⟩ = some (.slice (some ⟨gf, 0, none⟩) n n) := ⟨hg5.cell s2 (fun e => hne5 e.symm), hg5.cell s3 (fun e => hne5 e.symm)⟩
   refine hK.out _ _ hsv (fun _ => ?_)
   clear hK K hown hrd hone own5 hg5 hat5 hb5 hsv
   simp only [Act.put, List.setIfInBounds_toArray, List.set_cons_zero, List.set_cons_succ]
   refine tk 25 5 (h := ⟨_, tv, ?_⟩)
   simp only [pE, List.set]
   refine wpAnyH_done (by kernel_rfl) ?_ _
   go_wp2_with fail
   go_roundw
   case rel => exact ⟨HB5.out, k + 3, dir + 1, c7, A7, L ++ L3, by omega, by go_num, rfl, (by have := HK.out; omega), HS5.out, fun i p hp => by
    rcases Nat.lt_or_ge i L.length with h1 | h1
    · rw [List.getElem?_append_left h1] at hp
      exact HSP.out i p hp
    · rw [List.getElem?_append_right h1] at hp
      have := HSPL.out _ p hp
      rw [HL5.out] at this h1
      rw [show 3 * dir + (i - k) = i by have := HK.out; omega] at this
      exact this⟩
   case measure => simp [intOf]; omega
end Go.Proofs.YtpffhoefmcpniaaGreatDoor
