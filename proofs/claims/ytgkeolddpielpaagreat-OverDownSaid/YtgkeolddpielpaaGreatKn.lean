/- law17.known: the walk. -/
import Derived.Test.YtgkeolddpielpaaGreatKw
namespace Go.Proofs.YtgkeolddpielpaaGreat
open Go.RowKit

attribute [local go_sem ↓] Go.wp_at_zero Go.wp_at_succ

set_option maxHeartbeats 2000000 in
theorem known17_ok (w : World) : Calls Tryz.prog 7 #[] w fun e w' => e = .returned (.bool true) ∧ Below w.heap.size w w' := by
  go_enter Tryz.func7, Tryz.ntmps7
  go_wp2_with fail
  with_reducible refine (ring_any w).mono ?_
  rintro e w1 ⟨A, B, C, rfl, hN, hb1⟩
  have HN := Lib.hid hN
  clear hN
  go_wp2_with fail
  with_reducible refine (two_any w1).mono ?_
  rintro e w2 ⟨Q, rfl, hT, hb2⟩
  have HT := Lib.hid hT
  have hb2' := Bel.step hb1 hb2
  clear hT
  have HM := Lib.hid (made17_ok A B C Q 3 4 3 3 4 3 2 2 ringN twoL w2 (HN.out.below hb2) ringN_ok HT.out (show PartOk ringN.vs.length twoL from twoL_ok))
  go_wp2_with fail
  with_reducible refine HM.out.mono ?_
  rintro e w3 ⟨o, rfl, hO, hb3⟩
  have HO3 := Lib.hid (hO.le (msk_le _ _))
  have hb3' := Bel.step hb2' hb3
  clear hO hb1 hb2 hb2' hb3 HN HT HM
  go_wp2_with fail
  with_reducible refine (k_where1 o w3 HO3.out).mono ?_
  rintro e w4 ⟨rfl, hb4⟩
  have HO4 := Lib.hid (HO3.out.below hb4)
  have hb4' := Bel.step hb3' hb4
  clear hb3' hb4 HO3
  go_wp2_with fail
  (refine calls_named ?_; intro w5 hw5)
  have hb5 : Below w4.heap.size w4 w5 := by rw [hw5]; exact Bel.alloc (Below.refl _ _)
  have hE5 : Blk w5 w4.heap.size 64 #[.int .i64 1, .int .i64 1, .int .i64 0, .int .i64 0] := by
    rw [hw5]
    refine Blk.new' _ _ _ ?_
    rfl
  have HO5 := Lib.hid (HO4.out.below hb5)
  have hb5' := Bel.step hb4' hb5
  clear hw5 hb4' hb5 HO4
  with_reducible refine (k_where2 o w5 HO5.out).mono ?_
  rintro e w6 ⟨rfl, hb6⟩
  have hE6 := hE5.below hb6 hE5.lt
  have HO6 := Lib.hid (HO5.out.below hb6)
  have hb6' := Bel.step hb5' hb6
  clear hb5' hb6 HO5 hE5
  go_wp2_with fail
  (refine calls_named ?_; intro w7 hw7)
  have hb7 : Below w6.heap.size w6 w7 := by rw [hw7]; exact Bel.alloc (Below.refl _ _)
  have hE7 := hE6.below hb7 hE6.lt
  have HO7 := Lib.hid (HO6.out.below hb7)
  have hb7' := Bel.step hb6' hb7
  clear hw7 hb6' hb7 HO6 hE6
  with_reducible refine (k_down o w7 HO7.out).mono ?_
  rintro e w8 ⟨rfl, hb8⟩
  have hE8 := hE7.below hb8 hE7.lt
  have HO8 := Lib.hid (HO7.out.below hb8)
  have hb8' := Bel.step hb7' hb8
  clear hb7' hb8 HO7 hE7
  go_wp2_with fail
  with_reducible refine (k_size o w8 HO8.out).mono ?_
  rintro e w' ⟨rfl, rfl⟩
  go_wp2_with fail
  with_reducible refine (k_levels o w8 HO8.out).mono ?_
  rintro e w' ⟨rfl, rfl⟩
  go_wp2_with fail
  with_reducible refine (k_cells1 o w8 HO8.out).mono ?_
  rintro e w' ⟨rfl, rfl⟩
  go_wp2_with fail
  with_reducible refine (k_cells3 o w8 HO8.out).mono ?_
  rintro e w' ⟨rfl, rfl⟩
  go_wp2_with fail
  with_reducible refine (k_at0 o w8 HO8.out).mono ?_
  rintro e w9 ⟨rfl, hb9⟩
  have hE9 := hE8.below hb9 hE8.lt
  have HO9 := Lib.hid (HO8.out.below hb9)
  have hb9' := Bel.step hb8' hb9
  clear hb8' hb9 HO8 hE8
  go_wp2_with fail
  with_reducible refine (k_at1 o w9 HO9.out).mono ?_
  rintro e w10 ⟨rfl, hb10⟩
  have hE10 := hE9.below hb10 hE9.lt
  have HO10 := Lib.hid (HO9.out.below hb10)
  have hb10' := Bel.step hb9' hb10
  clear hb9' hb10 HO9 hE9
  go_wp2_with fail
  with_reducible refine (k_at2 o w10 HO10.out).mono ?_
  rintro e w11 ⟨rfl, hb11⟩
  have hE11 := hE10.below hb11 hE10.lt
  have HO11 := Lib.hid (HO10.out.below hb11)
  have hb11' := Bel.step hb10' hb11
  clear hb10' hb11 HO10 hE10
  have x0 := hE11.cell 0
  have x1 := hE11.cell 1
  have x2 := hE11.cell 2
  have x3 := hE11.cell 3
  simp only [List.getElem?_toArray, List.getElem?_cons_zero, List.getElem?_cons_succ] at x0 x1 x2 x3
  go_wp2_with fail
  with_reducible refine (k_kids2 o w11 HO11.out).mono ?_
  rintro e w12 ⟨K1, c1, rfl, hK, hb12⟩
  have HK := Lib.hid hK
  have HO12 := Lib.hid (HO11.out.below hb12)
  have hb12' := Bel.step hb11' hb12
  clear hb11' hb12 HO11 hK x0 x1 x2 x3 hE11
  go_wp2_with fail
  (refine calls_named ?_; intro w13 hw13)
  have hb13 : Below w12.heap.size w12 w13 := by rw [hw13]; exact Bel.alloc (Below.refl _ _)
  have hL13 : Blk w13 w12.heap.size 3 #[.int .i64 0, .int .i64 1] := by
    rw [hw13]
    refine Blk.new' _ _ _ ?_
    rfl
  have HO13 := Lib.hid (HO12.out.below hb13)
  have HK13 := Lib.hid (HK.out.below hb13)
  have HL13 := Lib.hid (RdI.lit (w := w13) (t := 3) [0, 1] hL13)
  have hb13' := Bel.step hb12' hb13
  clear hw13 hb12' hb13 HO12 HK hL13
  have HS := Lib.hid (sameInts_any K1 (some ⟨w12.heap.size, 0, none⟩) 2 2 c1 2 [0, 1] [0, 1] w13 HK13.out HL13.out (by omega) (by omega))
  with_reducible refine HS.out.mono ?_
  rintro e w14 ⟨rfl, kk, hw14⟩
  have hb14 : Below w13.heap.size w13 w14 := by rw [hw14]; exact below_drewN (Below.refl _ _) kk
  have HO14 := Lib.hid (HO13.out.below hb14)
  have hb14' := Bel.step hb13' hb14
  clear hw14 hb13' hb14 HO13 HK13 HL13 HS
  go_wp2_with fail
  with_reducible refine (k_gate o w14 HO14.out).mono ?_
  rintro e w15 ⟨A1, n1, c1', A2, n2, c2, rfl, hr1, hr2, hb15⟩
  have l1 : 1 = n1 := hr1.1
  have l2 : 1 = n2 := hr2.1
  subst l1 l2
  have HR1 := Lib.hid hr1
  have HR2 := Lib.hid hr2
  have hb15' := Bel.step hb14' hb15
  clear hb14' hb15 HO14 hr1 hr2
  go_wp2_with fail
  (refine calls_named ?_; intro w16 hw16)
  have hb16 : Below w15.heap.size w15 w16 := by rw [hw16]; exact Bel.alloc (Bel.alloc (Below.refl _ _))
  have hm16 : Blk w16 w15.heap.size 3 #[.int .i64 1] := by
    rw [hw16]
    refine Blk.alloc ?_ _
    refine Blk.new' _ _ _ ?_
    rfl
  have hn16 : Blk w16 (w15.heap.size + 1) 3 #[.int .i64 2] := by
    rw [hw16]
    refine Blk.new' _ _ _ ?_
    simp
  clear hw16
  have HI := Lib.hid (is_ok A1 A2 (some ⟨w15.heap.size, 0, none⟩) (some ⟨w15.heap.size + 1, 0, none⟩) 1 c1' 1 c2 1 1 1 1 [1] [2] [1] [2] w16 (HR1.out.below hb16) (HR2.out.below hb16) (RdI.lit [1] hm16) (RdI.lit [2] hn16) (by omega) (by omega) (by omega) (by omega) rfl rfl)
  with_reducible refine HI.out.mono ?_
  rintro e w17 ⟨rfl, hb17⟩
  go_wp2_with fail
  go_ret
  exact ⟨rfl, Bel.step (Bel.step hb15' hb16) hb17⟩
end Go.Proofs.YtgkeolddpielpaaGreat
