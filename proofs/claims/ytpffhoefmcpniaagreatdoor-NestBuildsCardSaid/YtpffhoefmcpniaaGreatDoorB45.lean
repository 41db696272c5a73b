/- Parts of the proof: NfA, QMkO, NfB. -/
import Derived.Test.YtpffhoefmcpniaaGreatDoorB1
import Derived.Test.YtpffhoefmcpniaaGreatDoorB22
import Derived.Test.YtpffhoefmcpniaaGreatDoorB25
import Derived.Test.YtpffhoefmcpniaaGreatDoorB38
import Derived.Test.YtpffhoefmcpniaaGreatDoorB41
import Derived.Test.YtpffhoefmcpniaaGreatDoorB44
namespace Go.Proofs.YtpffhoefmcpniaaGreatDoor
open Go.RowKit

attribute [local go_sem ↓] Go.wp_at_zero Go.wp_at_succ

def RBuBad (ps : List (ByteArray × Int)) (c : Int) (w : World) (e : Ending) (w' : World) : Prop := ∃ A4 n4 m4, e = .returned (.tuple #[.agg #[.slice none 0 0], .agg #[.slice A4 n4 m4, .int .i64 c]]) ∧ RdW w' A4 n4 ps ∧ n4 ≤ 1000000 ∧ Below w.heap.size w w'
set_option maxHeartbeats 4000000 in
set_option maxRecDepth 20000 in
theorem refBuild_bad (A B C AV : Option Addr) (n m k c d e L cv : Nat) (bs : List Int) (kk cc : Int) (w : World) (hv : RdI w AV L bs) (hb : BndBad bs kk cc) :
 Calls Tryz.prog 12 #[.agg #[.slice A n c, .slice B m d, .slice C k e], .slice AV L cv] w (RBuBad [((⟨#[110, 101, 115, 116]⟩ : ByteArray), kk)] cc w) := by
 have hcc := hb.ne
 have HCB := Lib.hid (fun V (hV : Below w.heap.size w V) => checkBounds_bad AV L cv bs kk cc V (hv.below hV) hb)
 clear hv hb
 go_enter Tryz.func12, Tryz.ntmps12
 go_wp2_with fail
 (refine calls_named ?_; intro w1 hw1)
 have hb1 : Below w.heap.size w w1 := by rw [hw1]; exact bELt
 have hP1 : Blk w1 (w.heap.size + 1) 39 #[.slice none 0 0] := by rw [hw1]; exact bLNt
 have hR1 : Blk w1 (w.heap.size + 1 + 1) 42 #[.slice none 0 0, .int .i64 0] := by rw [hw1]; exact bLNt
 clear hw1
 with_reducible refine (HCB.out w1 hb1).mono ?_
 rintro r w2 ⟨A4, n4, m4, rfl, h4, hn4, hb2⟩
 have hP2 := hP1.below hb2 hP1.lt
 have hR2 := hR1.below hb2 hR1.lt
 have HB2 := Lib.hid (Bel.step hb1 hb2)
 have H4 := Lib.hid h4
 have e1 : (cc != 0) = true := by simpa using hcc
 have hz2 := hR2.lt
 clear hb1 hb2 hP1 hR1 HCB h4
 go_wp2_with fail
 (refine wp_named ?_; intro w3 hw3)
 have hb3 : Below w2.heap.size w2 w3 := by rw [hw3]; exact bELt
 have hT3 : Blk w3 w2.heap.size 42 #[.slice A4 n4 m4, .int .i64 cc] := by rw [hw3]; exact bLNt
 have hP3 := hP2.below hb3 hP2.lt
 have hR3 := hR2.below hb3 hR2.lt
 have H43 := Lib.hid (H4.out.below hb3)
 have HB3 := Lib.hid (Bel.step HB2.out hb3)
 have HFR := Lib.hid (show ∀ b, blkOf A4 = some b → b ≠ w.heap.size + 1 ∧ b ≠ w.heap.size + 1 + 1 ∧ b < w2.heap.size from fun b hb => by
  obtain ⟨b', o, e, h1, _⟩ := H4.out.2 0 _ rfl
  rw [e] at hb
  have hb : some b' = some b := hb
  injection hb with hb
  subst hb
  refine ⟨fun e2 => ?_, fun e2 => ?_, lt_of_cell h1⟩
  · subst e2
    rw [hP2.cell] at h1
    match (o + 0 * 2), h1 with
    | 0, h1 => cases h1
    | _ + 1, h1 => simp at h1
  · subst e2
    rw [hR2.cell] at h1
    match (o + 0 * 2), h1 with
    | 0, h1 => cases h1
    | 1, h1 => cases h1
    | _ + 2, h1 => simp at h1)
 have HZ23 := Lib.hid hb3.size
 obtain ⟨t0, t1⟩ : w3.cell? ⟨w2.heap.size, 0, none⟩ = some (.slice A4 n4 m4) ∧ w3.cell? ⟨w2.heap.size, 1, none⟩ = some (.int .i64 cc) := ⟨by rw [hT3.cell]; rfl, by rw [hT3.cell]; rfl⟩
 have c0 : w3.cell? ⟨w.heap.size + 1, 0, none⟩ = some (.slice none 0 0) := by rw [hP3.cell]; rfl
 have f0 := hP3.frozen 0
 have hR4 := hR3.far_ (b := w.heap.size + 1) (o := 0) (by omega) (.slice none 0 0)
 have d0 : (w3.setCell ⟨w.heap.size + 1, 0, none⟩ (.slice none 0 0)).cell? ⟨w.heap.size + 1 + 1, 0, none⟩ = some (.slice none 0 0) := by rw [hR4.cell]; rfl
 have d1 : (w3.setCell ⟨w.heap.size + 1, 0, none⟩ (.slice none 0 0)).cell? ⟨w.heap.size + 1 + 1, 1, none⟩ = some (.int .i64 0) := by rw [hR4.cell]; rfl
 have g0 := hR4.frozen 0
 have g1 := hR4.frozen 1
 clear hw3 hb3
 have HSX := Lib.hid (show ∀ V : World, (V.cell? ⟨w2.heap.size, 0, none⟩ = some (.slice A4 n4 m4) ∧ V.cell? ⟨w2.heap.size, 1, none⟩ = some (.int .i64 cc)) → V.cell? ⟨w2.heap.size, 0, none⟩ = some (.slice A4 n4 m4) ∧ V.cell? ⟨w2.heap.size, 1, none⟩ = some (.int .i64 cc) from fun V hV => hV)
 refine wp_region_held_drew (S := fun V => V.cell? ⟨w2.heap.size, 0, none⟩ = some (.slice A4 n4 m4) ∧ V.cell? ⟨w2.heap.size, 1, none⟩ = some (.int .i64 cc)) (by kernel_rfl) ⟨t0, t1⟩ (fun _ => ?_)
 refine tk 0 22 (h := ⟨_, tv, ?_⟩)
 simp only [pE, List.set]
 refine tk 1 23 (h := ⟨_, tv, ?_⟩)
 simp only [pE, List.set]
 refine wpAnyH_ready (rs := [2]) (by kernel_rfl) (by simp) ?_
 refine AllReadyH.cons (o := _) rfl (fun K hK => ?_) AllReadyH.nil
 go_simp
 have hT4 := hT3.far_ (b := w.heap.size + 1) (o := 0) (by omega) (.slice none 0 0)
 have hT5 := (hT4.far_ (b := w.heap.size + 1 + 1) (o := 0) (by omega) (.slice A4 n4 m4)).far_ (b := w.heap.size + 1 + 1) (o := 1) (by omega) (.int .i64 cc)
 refine hK.out _ _ ⟨show (w3.setCell ⟨w.heap.size + 1, 0, none⟩ (.slice none 0 0)).cell? ⟨w2.heap.size, 0, none⟩ = some (.slice A4 n4 m4) by rw [hT4.cell]; rfl, show (w3.setCell ⟨w.heap.size + 1, 0, none⟩ (.slice none 0 0)).cell? ⟨w2.heap.size, 1, none⟩ = some (.int .i64 cc) by rw [hT4.cell]; rfl⟩ (fun _ => ?_)
 clear hK K
 refine wpAnyH_ready (rs := [3]) (by kernel_rfl) (by simp) ?_
 refine AllReadyH.cons (o := _) rfl (fun K hK => ?_) AllReadyH.nil
 go_simp
 refine hK.out _ _ ⟨show (((w3.setCell ⟨w.heap.size + 1, 0, none⟩ (.slice none 0 0)).setCell ⟨w.heap.size + 1 + 1, 0, none⟩ (.slice A4 n4 m4)).setCell ⟨w.heap.size + 1 + 1, 1, none⟩ (.int .i64 cc)).cell? ⟨w2.heap.size, 0, none⟩ = some (.slice A4 n4 m4) by rw [hT5.cell]; rfl, show (((w3.setCell ⟨w.heap.size + 1, 0, none⟩ (.slice none 0 0)).setCell ⟨w.heap.size + 1 + 1, 0, none⟩ (.slice A4 n4 m4)).setCell ⟨w.heap.size + 1 + 1, 1, none⟩ (.int .i64 cc)).cell? ⟨w2.heap.size, 1, none⟩ = some (.int .i64 cc) by rw [hT5.cell]; rfl⟩ (fun _ => ?_)
 clear hK K
 refine wpAnyH_done (by kernel_rfl) ?_ _
 have hne : ∀ b, blkOf A4 = some b → b ≠ w.heap.size + 1 ∧ b ≠ w.heap.size + 1 + 1 ∧ b < w3.heap.size := fun b hb => by
  have := HFR.out b hb
  have := HZ23.out
  omega
 have HRW := Lib.hid (((H43.out.setFar (w.heap.size + 1) 0 (.slice none 0 0) (fun b hb => ⟨(hne b hb).1, (hne b hb).2.2⟩)).setFar (w.heap.size + 1 + 1) 0 (.slice A4 n4 m4) (fun b hb => ⟨(hne b hb).2.1, by simpa [World.setCell] using (hne b hb).2.2⟩)).setFar (w.heap.size + 1 + 1) 1 (.int .i64 cc) (fun b hb => ⟨(hne b hb).2.1, by simpa [World.setCell] using (hne b hb).2.2⟩))
 have HBV := Lib.hid (((HB3.out.setCell (p := ⟨w.heap.size + 1, 0, none⟩) (show w.heap.size ≤ w.heap.size + 1 by omega) (.slice none 0 0)).setCell (p := ⟨w.heap.size + 1 + 1, 0, none⟩) (show w.heap.size ≤ w.heap.size + 1 + 1 by omega) (.slice A4 n4 m4)).setCell (p := ⟨w.heap.size + 1 + 1, 1, none⟩) (show w.heap.size ≤ w.heap.size + 1 + 1 by omega) (.int .i64 cc))
 have hP5 := ((hP3.set_ 0 (.slice none 0 0)).far_ (b := w.heap.size + 1 + 1) (o := 0) (by omega) (.slice A4 n4 m4)).far_ (b := w.heap.size + 1 + 1) (o := 1) (by omega) (.int .i64 cc)
 have hR5 := (hR4.set_ 0 (.slice A4 n4 m4)).set_ 1 (.int .i64 cc)
 obtain ⟨V, hV⟩ : ∃ V, V = (((w3.setCell ⟨w.heap.size + 1, 0, none⟩ (.slice none 0 0)).setCell ⟨w.heap.size + 1 + 1, 0, none⟩ (.slice A4 n4 m4)).setCell ⟨w.heap.size + 1 + 1, 1, none⟩ (.int .i64 cc)).drew := ⟨_, rfl⟩
 have e1 : V.cell? ⟨w.heap.size + 1, 0, none⟩ = some (.slice none 0 0) := by rw [hV]; exact (show (((w3.setCell ⟨w.heap.size + 1, 0, none⟩ (.slice none 0 0)).setCell ⟨w.heap.size + 1 + 1, 0, none⟩ (.slice A4 n4 m4)).setCell ⟨w.heap.size + 1 + 1, 1, none⟩ (.int .i64 cc)).cell? ⟨w.heap.size + 1, 0, none⟩ = _ by rw [hP5.cell]; rfl)
 have e2 : V.cell? ⟨w.heap.size + 1 + 1, 0, none⟩ = some (.slice A4 n4 m4) := by rw [hV]; exact (show (((w3.setCell ⟨w.heap.size + 1, 0, none⟩ (.slice none 0 0)).setCell ⟨w.heap.size + 1 + 1, 0, none⟩ (.slice A4 n4 m4)).setCell ⟨w.heap.size + 1 + 1, 1, none⟩ (.int .i64 cc)).cell? ⟨w.heap.size + 1 + 1, 0, none⟩ = _ by rw [hR5.cell]; rfl)
 have e3 : V.cell? ⟨w.heap.size + 1 + 1, 1, none⟩ = some (.int .i64 cc) := by rw [hV]; exact (show (((w3.setCell ⟨w.heap.size + 1, 0, none⟩ (.slice none 0 0)).setCell ⟨w.heap.size + 1 + 1, 0, none⟩ (.slice A4 n4 m4)).setCell ⟨w.heap.size + 1 + 1, 1, none⟩ (.int .i64 cc)).cell? ⟨w.heap.size + 1 + 1, 1, none⟩ = _ by rw [hR5.cell]; rfl)
 have HRV := Lib.hid (show RdW V A4 n4 [((⟨#[110, 101, 115, 116]⟩ : ByteArray), kk)] by rw [hV]; exact HRW.out)
 have HBV2 := Lib.hid (show Below w.heap.size w V by rw [hV]; exact HBV.out.drew)
 rw [show (((w3.setCell ⟨w.heap.size + 1, 0, none⟩ (.slice none 0 0)).setCell ⟨w.heap.size + 1 + 1, 0, none⟩ (.slice A4 n4 m4)).setCell ⟨w.heap.size + 1 + 1, 1, none⟩ (.int .i64 cc)).drew = V from hV.symm]
 clear hV
 go_wp2_with fail
 refine bodyPost_ret (v := .tuple #[.agg #[.slice none 0 0], .agg #[.slice A4 n4 m4, .int .i64 cc]]) (by simp [results, Tryz.results12, go_sem, e1, e2, e3]) rfl ?_
 exact ⟨A4, n4, m4, rfl, HRV.out, hn4, HBV2.out⟩
end Go.Proofs.YtpffhoefmcpniaaGreatDoor

namespace Go.Proofs.YtpffhoefmcpniaaGreatDoor
open Go.RowKit

attribute [local go_sem ↓] Go.wp_at_zero Go.wp_at_succ

theorem partOf_any (Q : Option Addr) (L cq : Nat) (w : World) :
 Calls Tryz.prog 17 #[.agg #[.slice Q L cq]] w fun e w' => e = .returned (.agg #[.slice Q L cq]) ∧ Below w.heap.size w w' := by
 go_enter Tryz.func17, Tryz.ntmps17
 go_wp2
 refine bodyPost_ret (v := .agg #[.slice Q L cq]) (by simp [results, Tryz.results17, go_sem]) rfl ?_
 exact ⟨rfl, bELt⟩
set_option maxHeartbeats 1000000 in
theorem samePart_same (Q R : Option Addr) (L cq cr : Nat) (ls : List (List Int)) (w : World) (h : RdT w Q L ls) (h2 : RdT w R L ls) (hL : L ≤ 1000000) (hc : ∀ l ∈ ls, l.length ≤ 1000000) :
 Calls Tryz.prog 16 #[.agg #[.slice Q L cq], .agg #[.slice R L cr]] w fun e w' => e = .returned (.bool true) ∧ Below w.heap.size w w' := by
 have HT := Lib.hid h
 have HT2 := Lib.hid h2
 have HC := Lib.hid hc
 have e0 : ((L : Int) != (L : Int)) = false := by simp
 clear h h2 hc
 go_enter Tryz.func16, Tryz.ntmps16
 go_wp2_with fail
 (refine wp_named ?_; intro w1 hw1)
 have hb1 : Below w.heap.size w w1 := by rw [hw1]; exact bELt
 have hX : Blk w1 w.heap.size 39 #[.slice Q L cq] := by rw [hw1]; exact bLNt
 have hY : Blk w1 (w.heap.size + 1) 39 #[.slice R L cr] := by rw [hw1]; exact bLNt
 clear hw1
 go_loopw [5] (fun q W => Below w1.heap.size w1 W ∧ ∃ i : Nat, i ≤ L ∧ q = .int .i64 (i : Int)) (fun q _ => L - (intOf q).toNat)
 case atStart => exact ⟨Below.refl _ _, 0, Nat.zero_le _, rfl⟩
 case round =>
  obtain ⟨hbl, i, hi, rfl⟩ := hrel
  have hXr := hX.below hbl hX.lt
  have hYr := hY.below hbl hY.lt
  have x0 := hXr.cell 0
  have y0 := hYr.cell 0
  simp only [List.getElem?_toArray, List.getElem?_cons_zero] at x0 y0
  have hbw := Bel.step hb1 hbl
  by_cases hlt : i < L
  · obtain ⟨b, o, A, n, c, l, rfl, hl, hcl, hr, _, _⟩ := (HT.out.below hbw).at_ hlt
    obtain ⟨b2, o2, A2, n2, c2, l2, rfl, hl2, hcl2, hr2, _, _⟩ := (HT2.out.below hbw).at_ hlt
    rw [hl] at hl2
    cases hl2
    have hnn : n2 = n := by rw [← hr.1, ← hr2.1]
    subst hnn
    have hn2 : n2 ≤ 1000000000 := by have := HC.out l (List.mem_of_getElem? hl); have := hr.1; omega
    have HSI := Lib.hid (show ∀ V, Below wr.heap.size wr V → Calls Tryz.prog 24 #[.slice A n2 c, .slice A2 n2 c2] V fun e w' => e = .returned (.bool true) ∧ ∃ k, w' = V.drewN k from fun V hV => (sameInts_any A A2 n2 n2 c c2 l l V (hr.below hV) (hr2.below hV) hn2 hn2).mono (fun e w' h => ⟨by rw [h.1, decide_eq_true rfl], h.2⟩))
    have i1 : (0 : Int) ≤ (i : Int) := by omega
    have i2 : (i : Int) < (L : Int) := by omega
    clear hr hr2 hl
    go_wp2_with fail
    go_quiet ((go_at_call 24; exact quiet_draws (HSI.out _ bELt)))
    go_wp2_with fail
    go_roundw
    case rel => exact ⟨below_drewN hbl _, i + 1, by omega, by go_num⟩
    case measure => simp [intOf]; omega
  · obtain rfl : L = i := by omega
    go_wp2_with fail
    go_ret
    exact ⟨rfl, hbw⟩
end Go.Proofs.YtpffhoefmcpniaaGreatDoor

namespace Go.Proofs.YtpffhoefmcpniaaGreatDoor
open Go.RowKit

attribute [local go_sem ↓] Go.wp_at_zero Go.wp_at_succ

set_option maxRecDepth 20000 in
set_option maxHeartbeats 8000000 in
theorem nestBuilds_walk (A B C : Option Addr) (n m k c d e : Nat) (N : NetD) (AV : Option Addr) (kv cv : Nat) (vs : List Int) (w : World) (h : RdNet w A B C n m k N) (hk : k ≤ 9223372036854775807) (hv : RdI w AV kv vs) (hkv : kv ≤ 4000000000000000000) (hbd : ∀ a ∈ vs, -9223372036854775808 ≤ a ∧ a ≤ 9223372036854775807) (hg : w.cell? ⟨0, 0, none⟩ = some errT) :
 Calls Tryz.prog 3 #[.agg #[.slice A n c, .slice B m d, .slice C k e], .slice AV kv cv] w fun r w' => r = .returned (.bool true) ∧ Below w.heap.size w w' := by
 have HH := Lib.hid h
 have HGE := Lib.hid hg
 have HV := Lib.hid hv
 have hnl : N.vs.length = n := h.1.1
 clear h hg hv
 go_enter Tryz.func3, Tryz.ntmps3
 go_wp2_with fail
 (refine calls_named ?_; intro w1 hw1)
 have hb1 : Below w.heap.size w w1 := by rw [hw1]; exact bELt
 have hX1 : Blk w1 w.heap.size 26 #[.slice A n c, .slice B m d, .slice C k e] := by rw [hw1]; exact bLNt
 clear hw1
 with_reducible refine (known14_ok w1 (Below.cellOf hb1 (Nat.le_refl _) HGE.out)).mono ?_
 rintro r w2 ⟨rfl, hb2⟩
 have hX2 := hX1.below hb2 hX1.lt
 have HB2 := Lib.hid (Bel.step hb1 hb2)
 have x0 := hX2.cell 0
 have x1 := hX2.cell 1
 have x2 := hX2.cell 2
 simp only [List.getElem?_toArray, List.getElem?_cons_zero, List.getElem?_cons_succ] at x0 x1 x2
 clear hX1 hb1 hb2
 go_wp2_with fail
 with_reducible refine (small_any A B C n m k c d e N w2 (HH.out.below HB2.out) hk).mono ?_
 rintro r w3 ⟨⟨b, rfl, hG⟩, hb3⟩
 have HB3 := Lib.hid (Bel.step HB2.out hb3)
 have hX3 := hX2.below hb3 hX2.lt
 clear x0 x1 x2 hX2 hb3
 have x0 := hX3.cell 0
 have x1 := hX3.cell 1
 have x2 := hX3.cell 2
 simp only [List.getElem?_toArray, List.getElem?_cons_zero, List.getElem?_cons_succ] at x0 x1 x2
 cases b with
 | false =>
  clear hG
  go_wp2_with fail
  go_ret
  exact ⟨rfl, HB3.out⟩
 | true =>
 have hsm := hG rfl
 have hok := hsm.ok
 have hn24 := hsm.v
 rw [hnl] at hn24
 clear hG hsm
 by_cases h40 : 10 < kv
 · have e1 : (kv : Int) > 10 := by omega
   go_wp2_with fail
   go_ret
   exact ⟨rfl, HB3.out⟩
 have e1 : ¬ (kv : Int) > 10 := by omega
 have HNK := Lib.hid hok
 go_wp2_with fail
 with_reducible refine (made8_ok A B C n m k c d e N w3 (HH.out.below HB3.out) hok).mono ?_
 rintro r w4 ⟨g, rfl, hGr, hb4⟩
 have HG4 := Lib.hid hGr.rd
 have HB4 := Lib.hid (Bel.step HB3.out hb4)
 have hX4 := hX3.below hb4 hX3.lt
 clear hGr hb4 x0 x1 x2 hX3 HB2 hok
 obtain ⟨W4, hW4⟩ : ∃ W, W = w4.alloc (.cells #[] 3) := ⟨_, rfl⟩
 have hO : Own W4 w4.heap.size 3 1 (some ⟨w4.heap.size, 0, none⟩) 0 0 [] := by rw [hW4]; exact lit0 (Nat.le_refl _)
 have hb44 : Below w4.heap.size w4 W4 := by rw [hW4]; exact bELt
 have hrd := (HV.out.below (Bel.step HB4.out hb44)).rdsI
 have hsz := hb44.size
 have HW4 := Lib.hid hW4
 clear hW4
 go_wp2_with (at_builtin; rw [← HW4.out]; with_reducible refine wpList_app rfl (.tmp 26) (.tmp 27) 27 rfl 3 _ 1 8 infoInt Tryz.underlying27 rfl (by omega) rfl rfl hO hrd (icells_one _) (by omega) (by omega) hsz ?_)
 intro A5 c5 w5 ho5 hg5 hat5
 have hb5 : Below w4.heap.size w4 w5 := Bel.grownOwn hb44 hg5 hO hsz
 have HV5 := Lib.hid (show RdI w5 A5 kv vs from ho5.rds.rdI)
 have HB5 := Lib.hid (Bel.step HB4.out hb5)
 have HG5 := Lib.hid (HG4.out.below hb5)
 have hX5 := hX4.below hb5 hX4.lt
 clear hO hrd hsz ho5 hg5 hat5 hb5 hb44 hX4 HG4 HB4
 rcases bnd_or vs with hbo | ⟨kk, cc, hbb⟩
 · have hmx : ∀ b ∈ natsOf vs, b ≤ 9223372036854775807 := fun b hb => by
    obtain ⟨x, hx, rfl⟩ := mem_natsOf.1 hb
    have := hbd x hx
    omega
   have HBO := Lib.hid hbo
   have HPO := Lib.hid (rows_partOk N (bs := natsOf vs) (by rw [natsOf_len]; exact hbo.l1) (by rw [natsOf_len]; exact hbo.l6))
   have HBN := Lib.hid hbo.nats
   have HBP := Lib.hid hbo.pos
   have HDP := Lib.hid (fun V (hV : Below w.heap.size w V) => refBuild_ok A B C AV n m k c d e kv cv N vs V (HH.out.below hV) HNK.out (HV.out.below hV) hbo hmx)
   have HBU := Lib.hid (nestBuild_ok g kv c5 N A5 vs w5 HG5.out HV5.out hbo hmx)
   clear hmx
   go_wp2_with fail
   with_reducible refine HBU.out.mono ?_
   rintro r w6 ⟨Q, rfl, hT6, hb6⟩
   have HT6 := Lib.hid hT6
   have HB6 := Lib.hid (Bel.step HB5.out hb6)
   have hX6 := hX5.below hb6 hX5.lt
   have hlt6 := hX6.lt
   have x0 : w6.cell? ⟨w.heap.size, 0, none⟩ = some (.slice A n c) := by rw [hX6.cell]; rfl
   have x1 : w6.cell? ⟨w.heap.size, 1, none⟩ = some (.slice B m d) := by rw [hX6.cell]; rfl
   have x2 : w6.cell? ⟨w.heap.size, 2, none⟩ = some (.slice C k e) := by rw [hX6.cell]; rfl
   clear hT6 hb6 HBU hX5
   go_wp2_with fail
   (refine calls_named ?_; intro w7 hw7)
   have hb7 : Below w6.heap.size w6 w7 := by rw [hw7]; exact bELt
   have hP7 : Blk w7 w6.heap.size 34 #[.slice Q kv kv] := by rw [hw7]; exact bLNt
   have hX7 := hX6.below hb7 hX6.lt
   have HT7 := Lib.hid (HT6.out.below hb7)
   have HB7 := Lib.hid (Bel.step HB6.out hb7)
   have HRB := Lib.hid (HDP.out w7 HB7.out)
   clear hw7 hb7 x0 x1 x2 HDP
   with_reducible refine HRB.out.mono ?_
   rintro r w8 ⟨Q2, rfl, hT8, hb8⟩
   have HT8 := Lib.hid hT8
   have HT78 := Lib.hid (HT7.out.below hb8)
   have HB8 := Lib.hid (Bel.step HB7.out hb8)
   have hP8 := hP7.below hb8 hP7.lt
   have hX8 := hX7.below hb8 hX7.lt
   clear hT8 hb8 HRB
   go_wp2_with fail
   (refine wp_named ?_; intro w9 hw9)
   have hb9 : Below w8.heap.size w8 w9 := by rw [hw9]; exact bELt
   have q8 : Blk w9 w8.heap.size 39 #[.slice Q2 kv kv] := by rw [hw9]; exact bLNt
   have q9 : Blk w9 (w8.heap.size + 1) 42 #[.slice none 0 0, .int .i64 0] := by rw [hw9]; exact bLNt
   have hP9 := hP8.below hb9 hP8.lt
   have hX9 := hX8.below hb9 hX8.lt
   have HT9 := Lib.hid (HT78.out.below hb9)
   have HT89 := Lib.hid (HT8.out.below hb9)
   have HB9 := Lib.hid (Bel.step HB8.out hb9)
   have z0 : w9.cell? ⟨w6.heap.size, 0, none⟩ = some (.slice Q kv kv) := by rw [hP9.cell]; rfl
   have z1 : w9.cell? ⟨w8.heap.size, 0, none⟩ = some (.slice Q2 kv kv) := by rw [q8.cell]; rfl
   have z2 : w9.cell? ⟨w8.heap.size + 1, 0, none⟩ = some (.slice none 0 0) := by rw [q9.cell]; rfl
   have z3 : w9.cell? ⟨w8.heap.size + 1, 1, none⟩ = some (.int .i64 0) := by rw [q9.cell]; rfl
   have z4 : w9.cell? ⟨w.heap.size, 0, none⟩ = some (.slice A n c) := by rw [hX9.cell]; rfl
   have HSX := Lib.hid (show ∀ V, Below w9.heap.size w9 V → V.cell? ⟨w6.heap.size, 0, none⟩ = some (.slice Q kv kv) ∧ V.cell? ⟨w8.heap.size, 0, none⟩ = some (.slice Q2 kv kv) ∧ V.cell? ⟨w8.heap.size + 1, 0, none⟩ = some (.slice none 0 0) ∧ V.cell? ⟨w8.heap.size + 1, 1, none⟩ = some (.int .i64 0) ∧ V.cell? ⟨w.heap.size, 0, none⟩ = some (.slice A n c) from fun V hV => ⟨Below.cellOf hV (Nat.le_refl _) z0, Below.cellOf hV (Nat.le_refl _) z1, Below.cellOf hV (Nat.le_refl _) z2, Below.cellOf hV (Nat.le_refl _) z3, Below.cellOf hV (Nat.le_refl _) z4⟩)
   have HC1 := Lib.hid (show ∀ V, Below w9.heap.size w9 V → Calls Tryz.prog 14 #[.slice AV kv cv] V fun e w' => e = .returned .nilIface ∧ Below V.heap.size V w' from fun V hV => nestCheck_ok AV kv cv vs V (HV.out.below (Bel.step HB9.out hV)) HBO.out)
   have HC2 := Lib.hid (show ∀ V, Below w9.heap.size w9 V → Calls Tryz.prog 15 #[.slice AV kv cv] V fun e w' => e = .returned (.agg #[.slice none 0 0, .int .i64 0]) ∧ Below V.heap.size V w' from fun V hV => checkBounds_ok AV kv cv vs V (HV.out.below (Bel.step HB9.out hV)) HBO.out)
   have HC3 := Lib.hid (show ∀ V, Below w9.heap.size w9 V → Calls Tryz.prog 16 #[.agg #[.slice Q kv kv], .agg #[.slice Q2 kv kv]] V fun e w' => e = .returned (.bool true) ∧ Below V.heap.size V w' from fun V hV => samePart_same Q Q2 kv kv kv _ V (HT9.out.below hV) (HT89.out.below hV) (by omega) (fun l hl => by have := (HPO.out.lvl l hl).len; omega))
   have HC4 := Lib.hid (show ∀ V, Below w9.heap.size w9 V → Calls Tryz.prog 18 #[.int .i64 n, .agg #[.slice Q kv kv], .slice AV kv cv] V fun e w' => e = .returned .nilIface ∧ Below V.heap.size V w' from fun V hV => partCheckB_ok Q AV n kv kv cv _ vs V (HT9.out.below hV) (by rw [← hnl]; exact HPO.out) (by omega) (HV.out.below (Bel.step HB9.out hV)) (fun i l y h1 h2 => rows_cnt N HBP.out i l y h1 (by rw [← HBN.out]; exact h2)))
   clear hw9 hb9 q8 q9 hP9 hX9 hP8 hX8 hP7 hX7 hX6 z0 z1 z2 z3 z4
   refine wp_region_held_drew (S := fun V => Below w9.heap.size w9 V) (by kernel_rfl) (Below.refl _ _).drew (fun _ => ?_)
   refine tk 0 38 (h := ⟨_, tv, ?_⟩)
   simp only [pE, List.set]
   refine tk 2 40 (h := ⟨_, tv, ?_⟩)
   simp only [pE, List.set]
   refine wpAnyH_ready (rs := [1]) (by kernel_rfl) (by simp) ?_
   refine AllReadyH.cons (o := _) rfl (fun K hK => ?_) AllReadyH.nil
   go_simp
   with_reducible refine (HC1.out _ (Below.refl _ _).drew).mono ?_
   rintro r V1 ⟨rfl, h_⟩
   have k1 : Below w9.heap.size w9 V1 := (Below.refl _ _).drew.trans h_
   go_simp
   refine hK.out _ _ k1 (fun _ => ?_)
   clear hK K h_
   refine wpAnyH_ready (rs := [3]) (by kernel_rfl) (by simp) ?_
   refine AllReadyH.cons (o := _) rfl (fun K hK => ?_) AllReadyH.nil
   go_simp
   with_reducible refine (HC2.out _ k1).mono ?_
   rintro r V2 ⟨rfl, h_⟩
   have k2 : Below w9.heap.size w9 V2 := Bel.step k1 h_
   go_simp
   refine hK.out _ _ k2 (fun _ => ?_)
   clear hK K h_
   refine wpAnyH_ready (rs := [4]) (by kernel_rfl) (by simp) ?_
   refine AllReadyH.cons (o := _) rfl (fun K hK => ?_) AllReadyH.nil
   go_simp
   with_reducible refine (tells_nil none 0 0 V2).mono ?_
   rintro r V3 ⟨rfl, h_⟩
   have k3 : Below w9.heap.size w9 V3 := Bel.step k2 h_
   go_simp
   refine hK.out _ _ k3 (fun _ => ?_)
   clear hK K h_
   refine tk 5 43 (h := ⟨_, tv, ?_⟩)
   simp only [pE, List.set]
   refine tk 6 44 (h := ⟨_, tv, ?_⟩)
   simp only [pE, List.set]
   refine tk 7 45 (h := ⟨_, tv, ?_⟩)
   simp only [pE, List.set]
   refine wpAnyH_ready (rs := [8]) (by kernel_rfl) (by simp) ?_
   refine AllReadyH.cons (o := _) rfl (fun K hK => ?_) AllReadyH.nil
   go_simp
   with_reducible refine (tells_nil none 0 0 V3).mono ?_
   rintro r V4 ⟨rfl, h_⟩
   have k4 : Below w9.heap.size w9 V4 := Bel.step k3 h_
   go_simp
   refine hK.out _ _ k4 (fun _ => ?_)
   clear hK K h_
   refine tk 9 47 (h := ⟨_, tv, ?_⟩)
   simp only [pE, List.set]
   refine tk 10 48 (h := ⟨_, tv, ?_⟩)
   simp only [pE, List.set]
   refine tk 11 49 (h := ⟨_, tv, ?_⟩)
   simp only [pE, List.set]
   refine tk 13 51 (h := ⟨_, tv, ?_⟩)
   simp only [pE, List.set]
   refine wpAnyH_ready (rs := [12]) (by kernel_rfl) (by simp) ?_
   refine AllReadyH.cons (o := _) rfl (fun K hK => ?_) AllReadyH.nil
   go_simp
   with_reducible refine (partOf_any Q kv kv V4).mono ?_
   rintro r V5 ⟨rfl, h_⟩
   have k5 : Below w9.heap.size w9 V5 := Bel.step k4 h_
   go_simp
   refine hK.out _ _ k5 (fun _ => ?_)
   clear hK K h_
   refine wpAnyH_ready (rs := [14]) (by kernel_rfl) (by simp) ?_
   refine AllReadyH.cons (o := _) rfl (fun K hK => ?_) AllReadyH.nil
   go_simp
   with_reducible refine (HC3.out _ k5).mono ?_
   rintro r V6 ⟨rfl, h_⟩
   have k6 : Below w9.heap.size w9 V6 := Bel.step k5 h_
   go_simp
   refine hK.out _ _ k6 (fun _ => ?_)
   clear hK K h_
   refine tk 15 53 (h := ⟨_, tv, ?_⟩)
   simp only [pE, List.set]
   refine tk 16 54 (h := ⟨_, tv, ?_⟩)
   simp only [pE, List.set]
   refine tk 17 55 (h := ⟨_, tv, ?_⟩)
   simp only [pE, List.set]
   refine tk 18 56 (h := ⟨_, tv, ?_⟩)
   simp only [pE, List.set]
   refine tk 19 57 (h := ⟨_, tv, ?_⟩)
   simp only [pE, List.set]
   refine tk 20 58 (h := ⟨_, tv, ?_⟩)
   simp only [pE, List.set]
   refine tk 21 59 (h := ⟨_, tv, ?_⟩)
   simp only [pE, List.set]
   refine tk 22 60 (h := ⟨_, tv, ?_⟩)
   simp only [pE, List.set]
   refine tk 23 61 (h := ⟨_, tv, ?_⟩)
   simp only [pE, List.set]
   refine tk 24 62 (h := ⟨_, tv, ?_⟩)
   simp only [pE, List.set]
   refine tk 25 63 (h := ⟨_, tv, ?_⟩)
   simp only [pE, List.set]
   refine wpAnyH_ready (rs := [26]) (by kernel_rfl) (by simp) ?_
   refine AllReadyH.cons (o := _) rfl (fun K hK => ?_) AllReadyH.nil
   go_simp
   with_reducible refine (HC4.out _ k6).mono ?_
   rintro r V7 ⟨rfl, h_⟩
   have k7 : Below w9.heap.size w9 V7 := Bel.step k6 h_
   go_simp
   refine hK.out _ _ k7 (fun _ => ?_)
   clear hK K h_
   refine tk 27 65 (h := ⟨_, tv, ?_⟩)
   simp only [pE, List.set]
   refine tk 28 66 (h := ⟨_, tv, ?_⟩)
   simp only [pE, List.set]
   refine tk 29 67 (h := ⟨_, tv, ?_⟩)
   simp only [pE, List.set]
   refine tk 30 4 (h := ⟨_, tv, ?_⟩)
   simp only [pE, List.set]
   refine wpAnyH_done (by kernel_rfl) ?_ _
   have HE := Lib.hid (Bel.step HB9.out k7)
   clear k1 k2 k3 k4 k5 k6 k7
   go_wp2_with fail
   go_ret
   exact ⟨rfl, HE.out⟩
 · have HBB := Lib.hid hbb
   have HNZ := Lib.hid hbb.ne
   have HDP := Lib.hid (fun V (hV : Below w.heap.size w V) => refBuild_bad A B C AV n m k c d e kv cv vs kk cc V (HV.out.below hV) hbb)
   have HBU := Lib.hid (nestBuild_bad g kv c5 A5 vs kk cc w5 HV5.out hbb)
   clear hbb
   go_wp2_with fail
   with_reducible refine HBU.out.mono ?_
   rintro r w6 ⟨v6, rfl, hc6, hb6⟩
   obtain ⟨tv6, xv6, rfl⟩ := chain_not_nil hc6
   have HC6 := Lib.hid hc6
   have HB6 := Lib.hid (Bel.step HB5.out hb6)
   have hX6 := hX5.below hb6 hX5.lt
   have hlt6 := hX6.lt
   have x0 : w6.cell? ⟨w.heap.size, 0, none⟩ = some (.slice A n c) := by rw [hX6.cell]; rfl
   have x1 : w6.cell? ⟨w.heap.size, 1, none⟩ = some (.slice B m d) := by rw [hX6.cell]; rfl
   have x2 : w6.cell? ⟨w.heap.size, 2, none⟩ = some (.slice C k e) := by rw [hX6.cell]; rfl
   clear hc6 hb6 HBU hX5
   go_wp2_with fail
   (refine calls_named ?_; intro w7 hw7)
   have hb7 : Below w6.heap.size w6 w7 := by rw [hw7]; exact bELt
   have hP7 : Blk w7 w6.heap.size 34 #[.slice none 0 0] := by rw [hw7]; exact bLNt
   have HC7 := Lib.hid (HC6.out.below hb7)
   have HB7 := Lib.hid (Bel.step HB6.out hb7)
   have HRB := Lib.hid (HDP.out w7 HB7.out)
   clear hw7 hb7 x0 x1 x2 HDP
   with_reducible refine HRB.out.mono ?_
   rintro r w8 ⟨A8, n8, m8, rfl, hr8, hn8, hb8⟩
   have HR8 := Lib.hid hr8
   have HC8 := Lib.hid (HC7.out.below hb8)
   have HB8 := Lib.hid (Bel.step HB7.out hb8)
   have hP8 := hP7.below hb8 hP7.lt
   clear hr8 hb8 HRB
   go_wp2_with fail
   (refine wp_named ?_; intro w9 hw9)
   have hb9 : Below w8.heap.size w8 w9 := by rw [hw9]; exact bELt
   have q8 : Blk w9 w8.heap.size 39 #[.slice none 0 0] := by rw [hw9]; exact bLNt
   have q9 : Blk w9 (w8.heap.size + 1) 42 #[.slice A8 n8 m8, .int .i64 cc] := by rw [hw9]; exact bLNt
   have hP9 := hP8.below hb9 hP8.lt
   have HR9 := Lib.hid (HR8.out.below hb9)
   have HC9 := Lib.hid (HC8.out.below hb9)
   have HB9 := Lib.hid (Bel.step HB8.out hb9)
   have z0 : w9.cell? ⟨w6.heap.size, 0, none⟩ = some (.slice none 0 0) := by rw [hP9.cell]; rfl
   have z1 : w9.cell? ⟨w8.heap.size, 0, none⟩ = some (.slice none 0 0) := by rw [q8.cell]; rfl
   have z2 : w9.cell? ⟨w8.heap.size + 1, 0, none⟩ = some (.slice A8 n8 m8) := by rw [q9.cell]; rfl
   have z3 : w9.cell? ⟨w8.heap.size + 1, 1, none⟩ = some (.int .i64 cc) := by rw [q9.cell]; rfl
   have z4 : (cc != 0) = true := by have := HNZ.out; simpa using this
   have z5 : decide (cc = 0) = false := decide_eq_false HNZ.out
   have HSX := Lib.hid (show ∀ V, Below w9.heap.size w9 V → V.cell? ⟨w6.heap.size, 0, none⟩ = some (.slice none 0 0) ∧ V.cell? ⟨w8.heap.size, 0, none⟩ = some (.slice none 0 0) ∧ V.cell? ⟨w8.heap.size + 1, 0, none⟩ = some (.slice A8 n8 m8) ∧ V.cell? ⟨w8.heap.size + 1, 1, none⟩ = some (.int .i64 cc) ∧ (cc != 0) = true ∧ decide (cc = 0) = false from fun V hV => ⟨Below.cellOf hV (Nat.le_refl _) z0, Below.cellOf hV (Nat.le_refl _) z1, Below.cellOf hV (Nat.le_refl _) z2, Below.cellOf hV (Nat.le_refl _) z3, z4, z5⟩)
   have HC1 := Lib.hid (show ∀ V, Below w9.heap.size w9 V → Calls Tryz.prog 14 #[.slice AV kv cv] V fun e w' => ∃ v, e = .returned v ∧ Chain w' v [((⟨#[110, 101, 115, 116]⟩ : ByteArray), kk)] cc ∧ Below V.heap.size V w' from fun V hV => nestCheck_bad AV kv cv vs kk cc V (HV.out.below (Bel.step HB9.out hV)) HBB.out)
   have HC2 := Lib.hid (show ∀ V, Below w9.heap.size w9 V → Calls Tryz.prog 15 #[.slice AV kv cv] V fun e w' => ∃ A4 n4 m4, e = .returned (.agg #[.slice A4 n4 m4, .int .i64 cc]) ∧ RdW w' A4 n4 [((⟨#[110, 101, 115, 116]⟩ : ByteArray), kk)] ∧ n4 ≤ 1000000 ∧ Below V.heap.size V w' from fun V hV => checkBounds_bad AV kv cv vs kk cc V (HV.out.below (Bel.step HB9.out hV)) HBB.out)
   clear hw9 hb9 q8 q9 hP9 hP8 hP7 hX6 z0 z1 z2 z3 z4 z5
   refine wp_region_held_drew (S := fun V => Below w9.heap.size w9 V) (by kernel_rfl) (Below.refl _ _).drew (fun _ => ?_)
   refine tk 0 38 (h := ⟨_, tv, ?_⟩)
   simp only [pE, List.set]
   refine tk 2 40 (h := ⟨_, tv, ?_⟩)
   simp only [pE, List.set]
   refine wpAnyH_ready (rs := [1]) (by kernel_rfl) (by simp) ?_
   refine AllReadyH.cons (o := _) rfl (fun K hK => ?_) AllReadyH.nil
   go_simp
   with_reducible refine (HC1.out _ (Below.refl _ _).drew).mono ?_
   rintro r V1 ⟨v7, rfl, hc7, h_⟩
   obtain ⟨tv7, xv7, rfl⟩ := chain_not_nil hc7
   have k1 : Below w9.heap.size w9 V1 := (Below.refl _ _).drew.trans h_
   have HCC := Lib.hid hc7
   clear hc7
   go_simp
   refine hK.out _ _ k1 (fun _ => ?_)
   clear hK K h_
   refine wpAnyH_ready (rs := [3]) (by kernel_rfl) (by simp) ?_
   refine AllReadyH.cons (o := _) rfl (fun K hK => ?_) AllReadyH.nil
   go_simp
   with_reducible refine (HC2.out _ k1).mono ?_
   rintro r V2 ⟨A4, n4, m4, rfl, h4, hn4, h_⟩
   have k2 : Below w9.heap.size w9 V2 := Bel.step k1 h_
   have HT4 := Lib.hid (tells_any (.iface tv7 xv7) A4 n4 m4 _ cc V2 (HCC.out.below h_) h4 HNZ.out (Below.cellOf (Bel.step HB9.out k2) (Nat.le_refl _) HGE.out) (by omega))
   go_simp
   refine hK.out _ _ k2 (fun _ => ?_)
   clear hK K h_ h4
   refine wpAnyH_ready (rs := [4]) (by kernel_rfl) (by simp) ?_
   refine AllReadyH.cons (o := _) rfl (fun K hK => ?_) AllReadyH.nil
   go_simp
   with_reducible refine (HT4.out).mono ?_
   rintro r V3 ⟨rfl, h_⟩
   have k3 : Below w9.heap.size w9 V3 := Bel.step k2 h_
   go_simp
   refine hK.out _ _ k3 (fun _ => ?_)
   clear hK K h_
   refine tk 5 43 (h := ⟨_, tv, ?_⟩)
   simp only [pE, List.set]
   refine tk 6 44 (h := ⟨_, tv, ?_⟩)
   simp only [pE, List.set]
   refine tk 7 45 (h := ⟨_, tv, ?_⟩)
   simp only [pE, List.set]
   have HT5 := Lib.hid (tells_any (.iface tv6 xv6) A8 n8 m8 _ cc V3 (HC9.out.below k3) (HR9.out.below k3) HNZ.out (Below.cellOf (Bel.step HB9.out k3) (Nat.le_refl _) HGE.out) (by omega))
   refine wpAnyH_ready (rs := [8]) (by kernel_rfl) (by simp) ?_
   refine AllReadyH.cons (o := _) rfl (fun K hK => ?_) AllReadyH.nil
   go_simp
   with_reducible refine (HT5.out).mono ?_
   rintro r V4 ⟨rfl, h_⟩
   have k4 : Below w9.heap.size w9 V4 := Bel.step k3 h_
   go_simp
   refine hK.out _ _ k4 (fun _ => ?_)
   clear hK K h_
   refine tk 9 47 (h := ⟨_, tv, ?_⟩)
   simp only [pE, List.set]
   refine tk 10 48 (h := ⟨_, tv, ?_⟩)
   simp only [pE, List.set]
   refine tk 11 49 (h := ⟨_, tv, ?_⟩)
   simp only [pE, List.set]
   refine tk 13 51 (h := ⟨_, tv, ?_⟩)
   simp only [pE, List.set]
   refine wpAnyH_ready (rs := [12]) (by kernel_rfl) (by simp) ?_
   refine AllReadyH.cons (o := _) rfl (fun K hK => ?_) AllReadyH.nil
   go_simp
   with_reducible refine (partOf_any none 0 0 V4).mono ?_
   rintro r V5 ⟨rfl, h_⟩
   have k5 : Below w9.heap.size w9 V5 := Bel.step k4 h_
   go_simp
   refine hK.out _ _ k5 (fun _ => ?_)
   clear hK K h_
   refine wpAnyH_ready (rs := [14]) (by kernel_rfl) (by simp) ?_
   refine AllReadyH.cons (o := _) rfl (fun K hK => ?_) AllReadyH.nil
   go_simp
   with_reducible refine (samePart_same none none 0 0 0 [] V5 (rdT_nil _) (rdT_nil _) (by omega) rdT_nil_len).mono ?_
   rintro r V6 ⟨rfl, h_⟩
   have k6 : Below w9.heap.size w9 V6 := Bel.step k5 h_
   go_simp
   refine hK.out _ _ k6 (fun _ => ?_)
   clear hK K h_
   refine tk 15 53 (h := ⟨_, tv, ?_⟩)
   simp only [pE, List.set]
   refine tk 16 54 (h := ⟨_, tv, ?_⟩)
   simp only [pE, List.set]
   refine tk 17 55 (h := ⟨_, tv, ?_⟩)
   simp only [pE, List.set]
   refine tk 18 56 (h := ⟨_, tv, ?_⟩)
   simp only [pE, List.set]
   refine tk 19 57 (h := ⟨_, tv, ?_⟩)
   simp only [pE, List.set]
   refine tk 20 58 (h := ⟨_, tv, ?_⟩)
   simp only [pE, List.set]
   refine tu 21 59 (h := ?_)
   simp only [pE, List.set]
   refine tu 22 60 (h := ?_)
   simp only [pE, List.set]
   refine tu 23 61 (h := ?_)
   simp only [pE, List.set]
   refine tu 24 62 (h := ?_)
   simp only [pE, List.set]
   refine tu 25 63 (h := ?_)
   simp only [pE, List.set]
   refine tu 26 64 (h := ?_)
   simp only [pE, List.set]
   refine tu 27 65 (h := ?_)
   simp only [pE, List.set]
   refine tk 28 66 (h := ⟨_, tv, ?_⟩)
   simp only [pE, List.set]
   refine tk 29 67 (h := ⟨_, tv, ?_⟩)
   simp only [pE, List.set]
   refine tk 30 4 (h := ⟨_, tv, ?_⟩)
   simp only [pE, List.set]
   refine wpAnyH_done (by kernel_rfl) ?_ _
   have HE := Lib.hid (Bel.step HB9.out k6)
   clear k1 k2 k3 k4 k5 k6
   go_wp2_with fail
   go_ret
   exact ⟨rfl, HE.out⟩
end Go.Proofs.YtpffhoefmcpniaaGreatDoor
