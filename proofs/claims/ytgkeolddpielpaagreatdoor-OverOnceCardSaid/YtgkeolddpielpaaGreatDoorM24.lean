/- Parts of the proof: Md, Kw, Kn, Pd. -/
import Derived.Test.YtgkeolddpielpaaGreatDoorM23
/- law17.Made. -/
namespace Go.Proofs.YtgkeolddpielpaaGreatDoor
open Go.RowKit

attribute [local go_sem ↓] Go.wp_at_zero Go.wp_at_succ

set_option maxHeartbeats 1000000 in
theorem made17_ok (A B C Q : Option Addr) (n m k c d e L cq : Nat) (N : NetD) (ls : List (List Int)) (w : World) (h : RdNet w A B C n m k N) (hN : NetOk N) (hq : RdT w Q L ls) (hP : PartOk N.vs.length ls) :
    Calls Tryz.prog 25 #[.agg #[.slice A n c, .slice B m d, .slice C k e], .agg #[.slice Q L cq]] w fun r w' => ∃ o, r = .returned (.pointer (some ⟨o, 0, none⟩)) ∧ RdOv (msk w' (fun b => w.heap.size ≤ b ∧ b < w'.heap.size)) o N.ar ls ∧ Below w.heap.size w w' := by
  have HH := Lib.hid h
  have HN := Lib.hid hN
  have HT := Lib.hid hq
  have HP := Lib.hid hP
  have hn4 := hN.lv
  have l6 : L ≤ 6 := by rw [← hq.1]; exact hP.l6
  have HVL := Lib.hid hn4
  clear h hN hq hP hn4
  go_enter Tryz.func25, Tryz.ntmps25
  go_wp2_with fail
  (refine calls_named ?_; intro w1 hw1)
  have hb1 : Below w.heap.size w w1 := by rw [hw1]; exact (by repeat (first | exact Below.refl _ _ | assumption | apply Below.drew | apply below_drewN | apply Bel.alloc | (refine Bel.setCell_ ?_ ?_; rotate_left; omega) | (refine Bel.step ?_ (by assumption))))
  have hQ : Blk w1 (w.heap.size + 1) 29 #[.slice Q L cq] := by rw [hw1]; exact (by repeat (first | assumption | (refine Blk.new' _ _ _ ?_; first | with_unfolding_all rfl | (simp; done)) | apply Blk.drewN | apply Blk.drew | apply Blk.alloc | (refine Blk.far_ ?_ ?_ _; rotate_left; omega)))
  clear hw1
  with_reducible refine (made8_ok A B C n m k c d e N w1 (HH.out.below hb1) HN.out).mono ?_
  rintro r w2 ⟨g, rfl, hG, hb2⟩
  have hbw2 := Bel.step hb1 hb2
  have HG := Lib.hid hG.rd
  have y0 := (hQ.below hb2 hQ.lt).cell 0
  simp only [List.getElem?_toArray, List.getElem?_cons_zero] at y0
  clear hG hb2 hQ
  go_wp2_with fail
  with_reducible refine (partTo_any Q L cq ls w2 (HT.out.below hbw2) (by omega) (fun l hl => by have := (HP.out.lvl l hl).len; have := HVL.out; omega)).mono ?_
  rintro r w3 ⟨Q3, cq3, rfl, hq3, _, _, hb3⟩
  have hbw3 := Bel.step hbw2 hb3
  have HQ3 := Lib.hid (hq3.le (msk_le _ _))
  have HG3 := Lib.hid (HG.out.below hb3)
  clear hq3 hb3 y0
  go_wp2_with fail
  with_reducible refine (overNew_ok g N Q3 L cq3 _ ls w3 HG3.out HN.out HQ3.out HP.out rfl).mono ?_
  rintro r w4 ⟨o, rfl, hO, hb4⟩
  have hz3 := hbw3.size
  have HO := Lib.hid (hO.le (msk_mono (G' := fun b => w.heap.size ≤ b ∧ b < w4.heap.size) (fun b hb => ⟨by omega, hb.2⟩)))
  have hbw4 := Bel.step hbw3 hb4
  clear hO hb4
  go_wp2_with fail
  go_ret
  exact ⟨o, rfl, HO.out, hbw4⟩
end Go.Proofs.YtgkeolddpielpaaGreatDoor

/- law17.known. -/
namespace Go.Proofs.YtgkeolddpielpaaGreatDoor
open Go.RowKit

attribute [local go_sem ↓] Go.wp_at_zero Go.wp_at_succ

theorem k_gr1 : gateRow ringN.ar [0, 0, 1] = [([2], [1]), ([1], [2])] := by decide
theorem k_gr2 : gateRow ringN.ar [0, 0, 0] = [([], [])] := by decide
theorem k_gates : gatesOf ringN.ar twoL = [[([2], [1]), ([1], [2])], [([], [])]] := by
  unfold gatesOf twoL
  rw [List.map_cons, List.map_cons, List.map_nil, k_gr1, k_gr2]
theorem k_sum : sumA (gatesOf ringN.ar twoL) = 2 := by rw [k_gates]; decide
theorem k_kids : kidsOf [0, 0, 0] [0, 0, 1] 0 3 = [0, 1] := by
  refine rise_ext (kidsOf_lt _ _ _ _) (by decide) (fun x => ?_)
  rw [mem_kidsOf (by rfl) (by rfl)]
  constructor
  · rintro ⟨v, _, h2⟩
    have hv : v < 3 := (List.getElem?_eq_some_iff.1 h2).1
    rcases (by omega : v = 0 ∨ v = 1 ∨ v = 2) with rfl | rfl | rfl <;> (simp at h2; subst h2; simp)
  · intro h
    rcases List.mem_cons.1 h with rfl | h
    · exact ⟨0, rfl, rfl⟩
    · rcases List.mem_cons.1 h with rfl | h
      · exact ⟨2, rfl, rfl⟩
      · cases h
section
variable (o : Nat) (w : World) (h : RdOv w o ringN.ar twoL)
include h
theorem k_size : Calls Tryz.prog 23 #[.pointer (some ⟨o, 0, none⟩)] w fun e w' => e = .returned (.int .i64 2) ∧ w = w' := by
  have := oSize_any o _ _ w h
  rw [k_sum] at this
  exact this
theorem k_levels : Calls Tryz.prog 16 #[.pointer (some ⟨o, 0, none⟩)] w fun e w' => e = .returned (.int .i64 2) ∧ w = w' := oLevels_any o _ _ w h
theorem k_cells1 : Calls Tryz.prog 19 #[.pointer (some ⟨o, 0, none⟩), .int .i64 1] w fun e w' => e = .returned (.int .i64 2) ∧ w = w' := oCells_ok o 0 2 _ _ [0, 0, 1] w h rfl (by decide) (by decide)
theorem k_cells3 : Calls Tryz.prog 19 #[.pointer (some ⟨o, 0, none⟩), .int .i64 3] w fun e w' => e = .returned (.int .i64 0) ∧ w = w' := oCells_no o 2 _ _ w h (by decide) (by decide)
theorem k_at0 : Calls Tryz.prog 22 #[.pointer (some ⟨o, 0, none⟩), .int .i64 1, .int .i64 0, .int .i64 0, .int .i64 0] w fun e w' => e = .returned (.int .i64 0) ∧ Below w.heap.size w w' := by
  have := at_ok o 0 0 0 0 _ _ [0, 0, 1] ([2], [1]) w h rfl (by rw [k_gr1]; rfl) (by decide) (by decide) (by decide) (by rw [k_sum]; decide)
  rw [k_gates, k_gr1] at this
  exact this
theorem k_at1 : Calls Tryz.prog 22 #[.pointer (some ⟨o, 0, none⟩), .int .i64 1, .int .i64 1, .int .i64 0, .int .i64 0] w fun e w' => e = .returned (.int .i64 1) ∧ Below w.heap.size w w' := by
  have := at_ok o 0 1 0 0 _ _ [0, 0, 1] ([1], [2]) w h rfl (by rw [k_gr1]; rfl) (by decide) (by decide) (by decide) (by rw [k_sum]; decide)
  rw [k_gates, k_gr1] at this
  exact this
theorem k_at2 : Calls Tryz.prog 22 #[.pointer (some ⟨o, 0, none⟩), .int .i64 2, .int .i64 0, .int .i64 0, .int .i64 0] w fun e w' => e = .returned (.int .i64 (-1)) ∧ Below w.heap.size w w' :=
  at_no o 1 0 0 0 _ _ [0, 0, 0] ([], []) w h rfl (by rw [k_gr2]; rfl) (by decide) (by decide)
theorem k_where1 : Calls Tryz.prog 21 #[.pointer (some ⟨o, 0, none⟩), .int .i64 1] w fun e w' => e = .returned (.tuple #[.agg #[.int .i64 1, .int .i64 1, .int .i64 0, .int .i64 0], .bool true]) ∧ Below w.heap.size w w' := by
  have := where_ok o 0 1 0 0 _ _ [0, 0, 1] ([1], [2]) w h rfl (by rw [k_gr1]; rfl) (by decide) (by decide) (by decide) (by rw [k_sum]; decide) (by decide)
  rw [k_gates, k_gr1] at this
  exact this
theorem k_where2 : Calls Tryz.prog 21 #[.pointer (some ⟨o, 0, none⟩), .int .i64 2] w fun e w' => e = .returned (.tuple #[.agg #[.int .i64 0, .int .i64 0, .int .i64 0, .int .i64 0], .bool false]) ∧ Below w.heap.size w w' :=
  where_no o 2 _ _ w h (.inr (by rw [k_sum]; decide))
theorem k_down : Calls Tryz.prog 28 #[.pointer (some ⟨o, 0, none⟩), .int .i64 2, .int .i64 0, .int .i64 0] w fun e w' => e = .returned (.tuple #[.int .i64 (-1), .int .i64 (-1)]) ∧ Below w.heap.size w w' :=
  oDownIn_no o 0 0 0 _ _ [0, 0, 0] ([], []) w h rfl (by decide) (by rw [k_gr2]; rfl) (by decide) (by decide)
theorem k_kids2 : Calls Tryz.prog 30 #[.pointer (some ⟨o, 0, none⟩), .int .i64 2, .int .i64 0] w fun e w' => ∃ A c, e = .returned (.slice A 2 c) ∧ RdI w' A 2 [0, 1] ∧ Below w.heap.size w w' := by
  have := oKids_ok o 0 3 0 _ _ [0, 0, 0] [0, 0, 1] w h rfl rfl (by decide) rfl rfl (by decide) (by decide)
  rw [k_kids] at this
  exact this
theorem k_gate : Calls Tryz.prog 20 #[.pointer (some ⟨o, 0, none⟩), .int .i64 1, .int .i64 1] w fun e w' => ∃ A1 n1 c1 A2 n2 c2, e = .returned (.agg #[.slice A1 n1 c1, .slice A2 n2 c2]) ∧ RdI w' A1 n1 [1] ∧ RdI w' A2 n2 [2] ∧ Below w.heap.size w w' :=
  oGate_ok o 0 1 _ _ [0, 0, 1] ([1], [2]) w h rfl (by decide) (by rw [k_gr1]; rfl) (by decide)
end
end Go.Proofs.YtgkeolddpielpaaGreatDoor

/- law17.known: the walk. -/
namespace Go.Proofs.YtgkeolddpielpaaGreatDoor
open Go.RowKit

attribute [local go_sem ↓] Go.wp_at_zero Go.wp_at_succ

set_option maxHeartbeats 2000000 in
theorem known17_ok (w : World) : Calls Tryz.prog 5 #[] w fun e w' => e = .returned (.bool true) ∧ Below w.heap.size w w' := by
  go_enter Tryz.func5, Tryz.ntmps5
  go_wp2_with fail
  with_reducible refine (ring_any w).mono ?_
  rintro e w1 ⟨A, B, C, rfl, hN, hb1⟩
  have HN := Lib.hid hN
  clear hN
  go_wp2_with fail
  with_reducible refine (two_any w1).mono ?_
  rintro e w2 ⟨Q, rfl, hT, hb2⟩
  have HT := Lib.hid hT
  have hb2' := Bel.step hb1 hb2
  clear hT
  have HM := Lib.hid (made17_ok A B C Q 3 4 3 3 4 3 2 2 ringN twoL w2 (HN.out.below hb2) ringN_ok HT.out (show PartOk ringN.vs.length twoL from twoL_ok))
  go_wp2_with fail
  with_reducible refine HM.out.mono ?_
  rintro e w3 ⟨o, rfl, hO, hb3⟩
  have HO3 := Lib.hid (hO.le (msk_le _ _))
  have hb3' := Bel.step hb2' hb3
  clear hO hb1 hb2 hb2' hb3 HN HT HM
  go_wp2_with fail
  with_reducible refine (k_where1 o w3 HO3.out).mono ?_
  rintro e w4 ⟨rfl, hb4⟩
  have HO4 := Lib.hid (HO3.out.below hb4)
  have hb4' := Bel.step hb3' hb4
  clear hb3' hb4 HO3
  go_wp2_with fail
  (refine calls_named ?_; intro w5 hw5)
  have hb5 : Below w4.heap.size w4 w5 := by rw [hw5]; exact Bel.alloc (Below.refl _ _)
  have hE5 : Blk w5 w4.heap.size 63 #[.int .i64 1, .int .i64 1, .int .i64 0, .int .i64 0] := by
    rw [hw5]
    refine Blk.new' _ _ _ ?_
    rfl
  have HO5 := Lib.hid (HO4.out.below hb5)
  have hb5' := Bel.step hb4' hb5
  clear hw5 hb4' hb5 HO4
  with_reducible refine (k_where2 o w5 HO5.out).mono ?_
  rintro e w6 ⟨rfl, hb6⟩
  have hE6 := hE5.below hb6 hE5.lt
  have HO6 := Lib.hid (HO5.out.below hb6)
  have hb6' := Bel.step hb5' hb6
  clear hb5' hb6 HO5 hE5
  go_wp2_with fail
  (refine calls_named ?_; intro w7 hw7)
  have hb7 : Below w6.heap.size w6 w7 := by rw [hw7]; exact Bel.alloc (Below.refl _ _)
  have hE7 := hE6.below hb7 hE6.lt
  have HO7 := Lib.hid (HO6.out.below hb7)
  have hb7' := Bel.step hb6' hb7
  clear hw7 hb6' hb7 HO6 hE6
  with_reducible refine (k_down o w7 HO7.out).mono ?_
  rintro e w8 ⟨rfl, hb8⟩
  have hE8 := hE7.below hb8 hE7.lt
  have HO8 := Lib.hid (HO7.out.below hb8)
  have hb8' := Bel.step hb7' hb8
  clear hb7' hb8 HO7 hE7
  go_wp2_with fail
  with_reducible refine (k_size o w8 HO8.out).mono ?_
  rintro e w' ⟨rfl, rfl⟩
  go_wp2_with fail
  with_reducible refine (k_levels o w8 HO8.out).mono ?_
  rintro e w' ⟨rfl, rfl⟩
  go_wp2_with fail
  with_reducible refine (k_cells1 o w8 HO8.out).mono ?_
  rintro e w' ⟨rfl, rfl⟩
  go_wp2_with fail
  with_reducible refine (k_cells3 o w8 HO8.out).mono ?_
  rintro e w' ⟨rfl, rfl⟩
  go_wp2_with fail
  with_reducible refine (k_at0 o w8 HO8.out).mono ?_
  rintro e w9 ⟨rfl, hb9⟩
  have hE9 := hE8.below hb9 hE8.lt
  have HO9 := Lib.hid (HO8.out.below hb9)
  have hb9' := Bel.step hb8' hb9
  clear hb8' hb9 HO8 hE8
  go_wp2_with fail
  with_reducible refine (k_at1 o w9 HO9.out).mono ?_
  rintro e w10 ⟨rfl, hb10⟩
  have hE10 := hE9.below hb10 hE9.lt
  have HO10 := Lib.hid (HO9.out.below hb10)
  have hb10' := Bel.step hb9' hb10
  clear hb9' hb10 HO9 hE9
  go_wp2_with fail
  with_reducible refine (k_at2 o w10 HO10.out).mono ?_
  rintro e w11 ⟨rfl, hb11⟩
  have hE11 := hE10.below hb11 hE10.lt
  have HO11 := Lib.hid (HO10.out.below hb11)
  have hb11' := Bel.step hb10' hb11
  clear hb10' hb11 HO10 hE10
  have x0 := hE11.cell 0
  have x1 := hE11.cell 1
  have x2 := hE11.cell 2
  have x3 := hE11.cell 3
  simp only [List.getElem?_toArray, List.getElem?_cons_zero, List.getElem?_cons_succ] at x0 x1 x2 x3
  go_wp2_with fail
  with_reducible refine (k_kids2 o w11 HO11.out).mono ?_
  rintro e w12 ⟨K1, c1, rfl, hK, hb12⟩
  have HK := Lib.hid hK
  have HO12 := Lib.hid (HO11.out.below hb12)
  have hb12' := Bel.step hb11' hb12
  clear hb11' hb12 HO11 hK x0 x1 x2 x3 hE11
  go_wp2_with fail
  (refine calls_named ?_; intro w13 hw13)
  have hb13 : Below w12.heap.size w12 w13 := by rw [hw13]; exact Bel.alloc (Below.refl _ _)
  have hL13 : Blk w13 w12.heap.size 3 #[.int .i64 0, .int .i64 1] := by
    rw [hw13]
    refine Blk.new' _ _ _ ?_
    rfl
  have HO13 := Lib.hid (HO12.out.below hb13)
  have HK13 := Lib.hid (HK.out.below hb13)
  have HL13 := Lib.hid (RdI.lit (w := w13) (t := 3) [0, 1] hL13)
  have hb13' := Bel.step hb12' hb13
  clear hw13 hb12' hb13 HO12 HK hL13
  have HS := Lib.hid (sameInts_any K1 (some ⟨w12.heap.size, 0, none⟩) 2 2 c1 2 [0, 1] [0, 1] w13 HK13.out HL13.out (by omega) (by omega))
  with_reducible refine HS.out.mono ?_
  rintro e w14 ⟨rfl, kk, hw14⟩
  have hb14 : Below w13.heap.size w13 w14 := by rw [hw14]; exact below_drewN (Below.refl _ _) kk
  have HO14 := Lib.hid (HO13.out.below hb14)
  have hb14' := Bel.step hb13' hb14
  clear hw14 hb13' hb14 HO13 HK13 HL13 HS
  go_wp2_with fail
  with_reducible refine (k_gate o w14 HO14.out).mono ?_
  rintro e w15 ⟨A1, n1, c1', A2, n2, c2, rfl, hr1, hr2, hb15⟩
  have l1 : 1 = n1 := hr1.1
  have l2 : 1 = n2 := hr2.1
  subst l1 l2
  have HR1 := Lib.hid hr1
  have HR2 := Lib.hid hr2
  have hb15' := Bel.step hb14' hb15
  clear hb14' hb15 HO14 hr1 hr2
  go_wp2_with fail
  (refine calls_named ?_; intro w16 hw16)
  have hb16 : Below w15.heap.size w15 w16 := by rw [hw16]; exact Bel.alloc (Bel.alloc (Below.refl _ _))
  have hm16 : Blk w16 w15.heap.size 3 #[.int .i64 1] := by
    rw [hw16]
    refine Blk.alloc ?_ _
    refine Blk.new' _ _ _ ?_
    rfl
  have hn16 : Blk w16 (w15.heap.size + 1) 3 #[.int .i64 2] := by
    rw [hw16]
    refine Blk.new' _ _ _ ?_
    simp
  clear hw16
  have HI := Lib.hid (is_ok A1 A2 (some ⟨w15.heap.size, 0, none⟩) (some ⟨w15.heap.size + 1, 0, none⟩) 1 c1' 1 c2 1 1 1 1 [1] [2] [1] [2] w16 (HR1.out.below hb16) (HR2.out.below hb16) (RdI.lit [1] hm16) (RdI.lit [2] hn16) (by omega) (by omega) (by omega) (by omega) rfl rfl)
  with_reducible refine HI.out.mono ?_
  rintro e w17 ⟨rfl, hb17⟩
  go_wp2_with fail
  go_ret
  exact ⟨rfl, Bel.step (Bel.step hb15' hb16) hb17⟩
end Go.Proofs.YtgkeolddpielpaaGreatDoor

/- The document's check of cells: most, checkLevel. -/
namespace Go.Proofs.YtgkeolddpielpaaGreatDoor
open Go.RowKit

attribute [local go_sem ↓] Go.wp_at_zero Go.wp_at_succ

set_option maxHeartbeats 400000 in
theorem most_any (A : Option Addr) (n c : Nat) (l : List Int) (w : World) (h : RdI w A n l) (hn : n ≤ 1000000) (hb : ∀ x ∈ l, 0 ≤ x ∧ x ≤ 1000000) :
    Calls Tryz.prog 70 #[.slice A n c] w fun e w' => e = .returned (.int .i64 (mostN l)) ∧ w = w' := by
  have HR := Lib.hid h
  have HL := Lib.hid h.1
  have HB := Lib.hid hb
  clear h hb
  go_enter Tryz.func70, Tryz.ntmps70
  go_wp2_with fail
  go_loop [3, 4] (fun m q => ∃ k : Nat, k ≤ n ∧ q = .int .i64 k ∧ m = .int .i64 (mostN (l.take k))) (fun _ q => n - (intOf q).toNat)
  case atStart => exact ⟨0, Nat.zero_le _, rfl, rfl⟩
  case round =>
    obtain ⟨k, hk, rfl, rfl⟩ := hrel
    by_cases hlt : k < n
    · obtain ⟨b, o, x, rfl, hx, hc⟩ := HR.out.at_ hlt
      have hxb := HB.out x (List.mem_of_getElem? hx)
      have HNX := Lib.hid (mostN_next hx)
      have i1 : (0 : Int) ≤ (k : Int) := by omega
      have i2 : (k : Int) < (n : Int) := by omega
      clear hx
      generalize mostN (l.take k) = m at *
      have HM := Lib.hid (show (if m < x + 1 then x + 1 else m) = max m (x + 1) by split <;> omega)
      go_wp2_with fail
      go_round
      case rel => exact ⟨k + 1, by omega, by go_num, by rw [HNX.out, ← HM.out]⟩
      case measure => simp [intOf]; omega
    · obtain rfl : n = k := by omega
      have HE := Lib.hid (show mostN (l.take n) = mostN l by rw [List.take_of_length_le (by rw [HL.out]; exact Nat.le_refl _)])
      go_wp2
      go_ret
      exact ⟨ret_int HE.out, rfl⟩
/-- The level ahead. -/
def prevOf (ls : List (List Int)) (i : Nat) : Option (List Int) := if i = 0 then none else ls[i - 1]?
theorem prevOf_zero (ls : List (List Int)) : prevOf ls 0 = none := rfl
theorem prevOf_succ (ls : List (List Int)) (j : Nat) : prevOf ls (j + 1) = ls[j]? := rfl
theorem lvlCode_len {n : Nat} {p : Option (List Int)} {l : List Int} (h : l.length ≠ n) : lvlCode n p l = 1 := by unfold lvlCode; rw [if_pos h]
theorem lvlCode_no {n : Nat} {p : Option (List Int)} {l : List Int} (h : l.length = n) (hn : ¬ (LvlOk n l ∧ ∀ q, p = some q → NestOk q l)) : lvlCode n p l = 10 := by
  unfold lvlCode; rw [if_neg (fun e => e h), if_neg hn]
theorem lvlCode_ok {n : Nat} {p : Option (List Int)} {l : List Int} (h : LvlOk n l) (hn : ∀ q, p = some q → NestOk q l) : lvlCode n p l = 0 := by
  unfold lvlCode; rw [if_neg (fun e => e h.len), if_pos ⟨h, hn⟩]


set_option maxHeartbeats 2000000 in
set_option maxRecDepth 20000 in
theorem checkLevel_any (Q : Option Addr) (n L cq i : Nat) (ls : List (List Int)) (l : List Int) (w : World) (h : RdT w Q L ls) (hl : ls[i]? = some l) (hn : n ≤ 4096) (hL : L ≤ 1000000) (hprev : ∀ j p, i = j + 1 → ls[j]? = some p → p.length = n) :
    Calls Tryz.prog 42 #[.int .i64 n, .agg #[.slice Q L cq], .int .i64 ((i : Int) + 1), .slice none 0 0] w fun e w' => e = .returned (.int .i64 (lvlCode n (prevOf ls i) l)) ∧ Below w.heap.size w w' := by
  have hi : i < L := by rw [← h.1]; exact (List.getElem?_eq_some_iff.1 hl).1
  have HT := Lib.hid h
  obtain ⟨b, o, A, m, c, l', rfl, hl', hc, hr, q1, q2⟩ := h.at_ hi
  rw [hl] at hl'
  cases hl'
  have HR := Lib.hid hr
  have HLEN := Lib.hid hr.1
  have HLL := Lib.hid hl
  have HPV := Lib.hid hprev
  have hca := fun ob => Below.cellOf (show Below w.heap.size w (w.alloc ob) from (by repeat (first | exact Below.refl _ _ | assumption | apply Below.drew | apply below_drewN | apply Bel.alloc | (refine Bel.setCell_ ?_ ?_; rotate_left; omega) | (refine Bel.step ?_ (by assumption))))) (Nat.le_refl _) hc
  have i1 : (0 : Int) ≤ (i : Int) := by omega
  have i2 : (i : Int) < (L : Int) := by omega
  have i5 : (i : Int) + 1 - 1 = (i : Int) := by omega
  have hmk := run_makeI n (by omega)
  clear h hr hl hprev q1
  by_cases hmn : m = n
  rotate_left
  · have e1 : ((m : Int) != (n : Int)) = true := by simp; omega
    have e2 : ((m : Int) == (n : Int)) = false := by simp; omega
    have HC := Lib.hid (lvlCode_len (n := n) (p := prevOf ls i) (l := l) (by rw [HLEN.out]; exact hmn))
    go_enter Tryz.func42, Tryz.ntmps42
    go_wp2_with fail
    go_ret
    exact ⟨ret_int HC.out.symm, (by repeat (first | exact Below.refl _ _ | assumption | apply Below.drew | apply below_drewN | apply Bel.alloc | (refine Bel.setCell_ ?_ ?_; rotate_left; omega) | (refine Bel.step ?_ (by assumption))))⟩
  subst hmn
  go_enter Tryz.func42, Tryz.ntmps42
  go_wp2_with fail
  (refine wp_named ?_; intro w1 hw1)
  have hb1 : Below w.heap.size w w1 := by rw [hw1]; exact (by repeat (first | exact Below.refl _ _ | assumption | apply Below.drew | apply below_drewN | apply Bel.alloc | (refine Bel.setCell_ ?_ ?_; rotate_left; omega) | (refine Bel.step ?_ (by assumption))))
  have hQ : Blk w1 w.heap.size 29 #[.slice (some ⟨b, o, none⟩) L cq] := by rw [hw1]; exact (by repeat (first | assumption | (refine Blk.new' _ _ _ ?_; first | with_unfolding_all rfl | (simp; done)) | apply Blk.drewN | apply Blk.drew | apply Blk.alloc | (refine Blk.far_ ?_ ?_ _; rotate_left; omega)))
  have HR1 := Lib.hid (HR.out.below hb1)
  clear hw1 hca
  go_loop [10] (fun q => ∃ k : Nat, k ≤ m ∧ q = .int .i64 k ∧ ∀ j x, j < k → l[j]? = some x → 0 ≤ x ∧ x < m) (fun q => m - (intOf q).toNat)
  case atStart => exact ⟨0, Nat.zero_le _, rfl, fun _ _ h => absurd h (Nat.not_lt_zero _)⟩
  case round =>
    obtain ⟨k, hk, rfl, hall⟩ := hrel
    have HA := Lib.hid hall
    clear hall
    by_cases hlt : k < m
    · obtain ⟨b', o', x, rfl, hx, hcx⟩ := HR1.out.at_ hlt
      have j1 : (0 : Int) ≤ (k : Int) := by omega
      have j2 : (k : Int) < (m : Int) := by omega
      have HX := Lib.hid hx
      clear hx
      by_cases hok : 0 ≤ x ∧ x < m
      · have g0 := hok.1
        have g1 := hok.2
        have HOK := Lib.hid hok
        clear hok
        go_wp2_with fail
        go_round
        case rel => exact ⟨k + 1, by omega, by go_num, fun j y hj hy => by
          by_cases e : j = k
          · subst e
            rw [HX.out] at hy
            cases hy
            exact HOK.out
          · exact HA.out j y (by omega) hy⟩
        case measure => simp [intOf]; omega
      · have HC := Lib.hid (lvlCode_no (n := m) (p := prevOf ls i) (l := l) HLEN.out (fun hh => hok ⟨hh.1.lo x (List.mem_of_getElem? HX.out), hh.1.hi x (List.mem_of_getElem? HX.out)⟩))
        by_cases hx0 : x < 0
        · clear hok
          go_wp2_with fail
          go_ret
          exact ⟨ret_int HC.out.symm, hb1⟩
        · have hx1 : ¬ x < m := by omega
          have hx2 : x ≥ m := by omega
          clear hok
          go_wp2_with fail
          go_ret
          exact ⟨ret_int HC.out.symm, hb1⟩
    · obtain rfl : m = k := by omega
      have HN := Lib.hid (show ∀ x ∈ l, 0 ≤ x ∧ x < m from fun x hx => by
        obtain ⟨j, hj⟩ := List.getElem?_of_mem hx
        exact HA.out j x (by rw [← HLEN.out]; exact (List.getElem?_eq_some_iff.1 hj).1) hj)
      clear HA
      go_wp2_with fail
      (refine wp_named ?_; intro w2 hw2)
      have hb2 : Below w1.heap.size w1 w2 := by rw [hw2]; exact (by repeat (first | exact Below.refl _ _ | assumption | apply Below.drew | apply below_drewN | apply Bel.alloc | (refine Bel.setCell_ ?_ ?_; rotate_left; omega) | (refine Bel.step ?_ (by assumption))))
      have hQ2 := hQ.below hb2 hQ.lt
      have hB2 : Blk w2 w1.heap.size 3 (ints (cntI (l.take 0) m)) := by rw [hw2, List.take_zero, cntI_zero]; exact Blk.new _ _ _
      have hbw2 := Bel.step hb1 hb2
      have hz12 := hb1.size
      clear hw2 hmk
      go_loopw [12] (fun q W => Below w1.heap.size w1 W ∧ ∃ k : Nat, k ≤ m ∧ q = .int .i64 k ∧ Blk W w1.heap.size 3 (ints (cntI (l.take k) m))) (fun q _ => m - (intOf q).toNat)
      case atStart => exact ⟨hb2, 0, Nat.zero_le _, rfl, hB2⟩
      case round =>
        clear hb2 hB2 hQ2 hbw2
        obtain ⟨hbl, k, hk, rfl, hB⟩ := hrel
        by_cases hlt2 : k < m
        · obtain ⟨b', o', x, rfl, hx, hcx⟩ := HR1.out.at_ hlt2
          have hxx := HN.out x (List.mem_of_getElem? hx)
          obtain ⟨v, rfl⟩ : ∃ v : Nat, x = v := ⟨x.toNat, by omega⟩
          have hv : v < m := by omega
          have hcx2 := Below.cellOf hbl (Nat.le_refl _) hcx
          have c1 := hB.cellI (cntI_get (l := l.take k) hv)
          have c1f := hB.frozen v
          have d1 := cntI_bd l k (v : Int)
          have HBN := Lib.hid (hB.setI (cntI_next hx hv))
          have j1 : (0 : Int) ≤ (k : Int) := by omega
          have j2 : (k : Int) < (m : Int) := by omega
          have j3 : (0 : Int) ≤ (v : Int) := by omega
          have j4 : (v : Int) < (m : Int) := by omega
          clear hx hcx hB hxx
          generalize (l.take k).countP (fun x => x == (v : Int)) = p at *
          have hbn : Below w1.heap.size w1 (wr.setCell ⟨w1.heap.size, v, none⟩ (.int .i64 ((p : Int) + 1))) := hbl.setCell (Nat.le_refl _) _
          go_wp2_with fail
          go_roundw
          case rel => exact ⟨hbn, k + 1, by omega, by go_num, HBN.out⟩
          case measure => simp [intOf]; omega
        · obtain rfl : m = k := by omega
          rw [List.take_of_length_le (by rw [HLEN.out]; exact Nat.le_refl _)] at hB
          have m0 := mostN_nonneg l
          have m1 := mostN_le (l := l) (n := (m : Int)) (fun x hx => (HN.out x hx).2) (by omega)
          obtain ⟨w3, hw3⟩ : ∃ w3, w3 = wr := ⟨_, rfl⟩
          subst hw3
          have hbw3 := Bel.step hb1 hbl
          have HMO := Lib.hid (most_any A m c l w3 (HR.out.below hbw3) (by omega) (fun x hx => by have := HN.out x hx; omega))
          obtain ⟨M, hM⟩ : ∃ M : Nat, mostN l = M := ⟨(mostN l).toNat, by omega⟩
          rw [hM] at HMO m0 m1
          have HMM := Lib.hid hM
          clear hM
          go_wp2_with fail
          go_loop [13] (fun q => ∃ k : Nat, k ≤ M ∧ q = .int .i64 k ∧ ∀ c : Nat, c < k → (c : Int) ∈ l) (fun q => M - (intOf q).toNat)
          case atStart => exact ⟨0, Nat.zero_le _, rfl, fun _ h => absurd h (Nat.not_lt_zero _)⟩
          case round =>
            obtain ⟨k, hk, rfl, hall⟩ := hrel
            have HA := Lib.hid hall
            clear hall
            go_wp2_with fail
            with_reducible refine HMO.out.mono ?_
            rintro e w' ⟨rfl, rfl⟩
            by_cases hlt3 : k < M
            · have hkm : k < m := by omega
              have c1 := hB.cellI (cntI_get (l := l) hkm)
              have j1 : (0 : Int) ≤ (k : Int) := by omega
              have j2 : (k : Int) < (m : Int) := by omega
              have HCT := Lib.hid (show 0 < l.countP (fun x => x == (k : Int)) ↔ (k : Int) ∈ l from by rw [List.countP_pos_iff]; simp)
              generalize l.countP (fun x => x == (k : Int)) = p at *
              by_cases hp : p = 0
              · subst hp
                have HC := Lib.hid (lvlCode_no (n := m) (p := prevOf ls i) (l := l) HLEN.out (fun hh => by
                  have := HCT.out.2 (hh.1.all k (by rw [HMM.out]; omega))
                  omega))
                go_wp2_with fail
                go_ret
                exact ⟨ret_int HC.out.symm, hbw3⟩
              · have e1 : ((p : Int) == 0) = false := by simp; exact hp
                have HP := Lib.hid (HCT.out.1 (by omega))
                clear hp
                go_wp2_with fail
                go_round
                case rel => exact ⟨k + 1, by omega, by go_num, fun c hc => by
                  by_cases e : c = k
                  · subst e; exact HP.out
                  · exact HA.out c (by omega)⟩
                case measure => simp [intOf]; omega
            · obtain rfl : M = k := by omega
              have HLV := Lib.hid (show LvlOk m l from ⟨HLEN.out, fun x hx => (HN.out x hx).1, fun x hx => (HN.out x hx).2, fun c hc => HA.out c (by rw [HMM.out] at hc; omega)⟩)
              have hQ3 := hQ.below hbl hQ.lt
              clear HA HN hB
              have q0 := hQ3.cell 0
              simp only [List.getElem?_toArray, List.getElem?_cons_zero] at q0
              have HRw := Lib.hid (HR.out.below hbw3)
              by_cases hi0 : i = 0
              · have HC := Lib.hid (lvlCode_ok (n := m) (p := prevOf ls i) HLV.out (fun q hq => by rw [hi0, prevOf_zero] at hq; cases hq))
                have e1 : ¬ ((i : Int) + 1 > 1) := by omega
                have e2 : ¬ (0 < i) := by omega
                have e3 : ¬ ((i : Int) > 0) := by omega
                clear hi0
                have hb99 : Below w3.heap.size w3 w3 := Below.refl _ _
                by_cases hm0 : 0 < m
                · skip
                  go_wp2_with fail
                  go_loop [14] (fun q => q = .int .i64 0) (fun _ => 0)
                  case atStart => rfl
                  case round =>
                    subst hrel
                    go_wp2_with fail
                    go_loop [16] (fun q => q = .int .i64 0) (fun _ => 0)
                    case atStart => rfl
                    case round =>
                      subst hrel
                      go_wp2_with fail
                      all_goals
                        go_ret
                        exact ⟨ret_int HC.out.symm, Bel.step hbw3 hb99⟩
                · skip
                  go_wp2_with fail
                  go_loop [14] (fun q => q = .int .i64 0) (fun _ => 0)
                  case atStart => rfl
                  case round =>
                    subst hrel
                    go_wp2_with fail
                    go_loop [16] (fun q => q = .int .i64 0) (fun _ => 0)
                    case atStart => rfl
                    case round =>
                      subst hrel
                      go_wp2_with fail
                      all_goals
                        go_ret
                        exact ⟨ret_int HC.out.symm, Bel.step hbw3 hb99⟩
              · obtain ⟨j, rfl⟩ : ∃ j, i = j + 1 := ⟨i - 1, by omega⟩
                obtain ⟨bp, op, A', m', c', p, e, hp, hcp, hrp, q1', q2'⟩ := HT.out.at_ (show j < L by omega)
                cases e
                obtain rfl : m = m' := by rw [← hrp.1]; exact (HPV.out j p rfl hp).symm
                have HPP := Lib.hid hp
                have HRp := Lib.hid (hrp.below hbw3)
                have HCP := Lib.hid (Below.cellOf hbw3 (Nat.le_refl _) hcp)
                have i3 : ((j : Int) + 1 + 1) - 2 = (j : Int) := by omega
                have i4 : (0 : Int) ≤ (j : Int) := by omega
                have i6 : (j : Int) < (L : Int) := by omega
                have i7 : (j : Int) + 1 + 1 > 1 := by omega
                have HLp := Lib.hid hrp.1
                clear hrp hp hcp q1' hi0
                go_wp2_with fail
                go_loopw [14] (fun q W => Below w3.heap.size w3 W ∧ ∃ k : Nat, k ≤ m ∧ q = .int .i64 k ∧ ∀ (a v : Nat) (x y u z : Int), a < k → p[a]? = some x → p[v]? = some y → l[a]? = some u → l[v]? = some z → x ≤ y → u ≤ z) (fun q _ => m - (intOf q).toNat)
                case atStart => exact ⟨Below.refl _ _, 0, Nat.zero_le _, rfl, fun _ _ _ _ _ _ h => absurd h (Nat.not_lt_zero _)⟩
                case round =>
                  obtain ⟨hbr, k, hk, rfl, hall⟩ := hrel
                  have HA := Lib.hid hall
                  clear hall
                  by_cases hlt4 : k < m
                  · obtain ⟨pb, po, x, rfl, hx, hcx⟩ := HRp.out.at_ hlt4
                    obtain ⟨lb, lo, u, rfl, hu, hcu⟩ := HRw.out.at_ hlt4
                    have k1 : (0 : Int) ≤ (k : Int) := by omega
                    have k2 : (k : Int) < (m : Int) := by omega
                    have HX := Lib.hid hx
                    have HU := Lib.hid hu
                    clear hx hu
                    obtain ⟨wo, hwo⟩ : ∃ wo, wo = wr := ⟨_, rfl⟩
                    subst hwo
                    go_wp2_with fail
                    go_loopw [15] (fun q W => Below w3.heap.size w3 W ∧ ∃ v : Nat, v ≤ m ∧ q = .int .i64 v ∧ ∀ (v' : Nat) (y z : Int), v' < v → p[v']? = some y → l[v']? = some z → x ≤ y → u ≤ z) (fun q _ => m - (intOf q).toNat)
                    case atStart => exact ⟨hbr, 0, Nat.zero_le _, rfl, fun _ _ _ h => absurd h (Nat.not_lt_zero _)⟩
                    case round =>
                      clear hbr
                      obtain ⟨hbr, v, hv, rfl, hall⟩ := hrel
                      have HV := Lib.hid hall
                      clear hall
                      by_cases hlt5 : v < m
                      · obtain ⟨pb', po', y, e, hy, hcy⟩ := HRp.out.at_ hlt5
                        cases e
                        obtain ⟨lb', lo', z, e, hz, hcz⟩ := HRw.out.at_ hlt5
                        cases e
                        have HY := Lib.hid hy
                        have HZ := Lib.hid hz
                        have q0' := Below.cellOf hbr (Nat.le_refl _) q0
                        have hcp' := Below.cellOf hbr (Nat.le_refl _) HCP.out
                        have hcx' := Below.cellOf hbr (Nat.le_refl _) hcx
                        have hcu' := Below.cellOf hbr (Nat.le_refl _) hcu
                        have hcy' := Below.cellOf hbr (Nat.le_refl _) hcy
                        have hcz' := Below.cellOf hbr (Nat.le_refl _) hcz
                        have k3 : (0 : Int) ≤ (v : Int) := by omega
                        have k4 : (v : Int) < (m : Int) := by omega
                        clear hy hz hcy hcz
                        by_cases hxy : x ≤ y
                        · by_cases huz : u > z
                          · have HC := Lib.hid (lvlCode_no (n := m) (p := prevOf ls (j + 1)) (l := l) HLEN.out (fun hh => by
                              have := hh.2 p (by rw [prevOf_succ]; exact HPP.out) k v x y u z HX.out HY.out HU.out HZ.out hxy
                              omega))
                            have e1 : decide (x ≤ y) = true := by simpa using hxy
                            go_wp2_with fail
                            go_quiet (fail)
                            go_wp2_with fail
                            go_ret
                            exact ⟨ret_int HC.out.symm, Bel.step hbw3 (below_drewN hbr _)⟩
                          · have e1 : decide (x ≤ y) = true := by simpa using hxy
                            have HO := Lib.hid huz
                            go_wp2_with fail
                            go_quiet (fail)
                            go_wp2_with fail
                            go_roundw
                            case rel => exact ⟨below_drewN hbr _, v + 1, by omega, by go_num, fun v' y' z' hv' h1 h2 h3 => by
                              by_cases e : v' = v
                              · subst e
                                rw [HZ.out] at h2
                                cases h2
                                have := HO.out
                                omega
                              · exact HV.out v' y' z' (by omega) h1 h2 h3⟩
                            case measure => simp [intOf]; omega
                        · have e1 : decide (x ≤ y) = false := by simpa using hxy
                          have HO := Lib.hid hxy
                          go_wp2_with fail
                          go_quiet (fail)
                          go_wp2_with fail
                          go_roundw
                          case rel => exact ⟨below_drewN hbr _, v + 1, by omega, by go_num, fun v' y' z' hv' h1 h2 h3 => by
                            by_cases e : v' = v
                            · subst e
                              rw [HY.out] at h1
                              cases h1
                              have := HO.out
                              omega
                            · exact HV.out v' y' z' (by omega) h1 h2 h3⟩
                          case measure => simp [intOf]; omega
                      · obtain rfl : m = v := by omega
                        go_wp2_with fail
                        go_roundw
                        case rel => exact ⟨hbr, k + 1, by omega, by go_num, fun a v x' y u' z ha h1 h2 h3 h4 h5 => by
                          by_cases e : a = k
                          · subst e
                            rw [HX.out] at h1
                            rw [HU.out] at h3
                            cases h1
                            cases h3
                            exact HV.out v y z (by rw [← HLp.out]; exact (List.getElem?_eq_some_iff.1 h2).1) h2 h4 h5
                          · exact HA.out a v x' y u' z (by omega) h1 h2 h3 h4 h5⟩
                        case measure => simp [intOf]; omega
                  · obtain rfl : m = k := by omega
                    have HC := Lib.hid (lvlCode_ok (n := m) (p := prevOf ls (j + 1)) HLV.out (fun q hq => by
                      rw [prevOf_succ, HPP.out] at hq
                      cases hq
                      intro a v x y u z h1 h2 h3 h4 h5
                      exact HA.out a v x y u z (by rw [← HLp.out]; exact (List.getElem?_eq_some_iff.1 h1).1) h1 h2 h3 h4 h5))
                    clear HA
                    go_wp2_with fail
                    have hb99 := hbr
                    go_loop [16] (fun q => q = .int .i64 0) (fun _ => 0)
                    case atStart => rfl
                    case round =>
                      subst hrel
                      go_wp2_with fail
                      all_goals
                        go_ret
                        exact ⟨ret_int HC.out.symm, Bel.step hbw3 hb99⟩
end Go.Proofs.YtgkeolddpielpaaGreatDoor
