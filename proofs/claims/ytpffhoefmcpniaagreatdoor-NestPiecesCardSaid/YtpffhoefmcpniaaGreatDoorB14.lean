/- Parts of the proof: QCu9. -/
import Derived.Test.YtpffhoefmcpniaaGreatDoorB1
import Derived.Test.YtpffhoefmcpniaaGreatDoorB13
namespace Go.Proofs.YtpffhoefmcpniaaGreatDoor
open Go.RowKit

attribute [local go_sem ↓] Go.wp_at_zero Go.wp_at_succ

theorem refKey_any (x y d : Int) (w : World) (hx : -1000000000000 ≤ x) (hx' : x ≤ 1000000000000) (hy : -1000000000000 ≤ y) (hy' : y ≤ 1000000000000) (hd : 0 ≤ d) (hd' : d ≤ 3) :
 Calls Tryz.prog 109 #[.agg #[.int .i64 x, .int .i64 y], .int .i64 d] w fun e w' => e = .returned (.int .i64 (key (x, y) d)) ∧ Below w.heap.size w w' := by
 rcases (show d = 0 ∨ d = 1 ∨ d = 2 ∨ d = 3 by omega) with rfl | rfl | rfl | rfl
 all_goals
  go_enter Tryz.func109, Tryz.ntmps109
  go_wp2
  go_ret
  exact ⟨ret_int (by simp [key] <;> omega), bELt⟩
theorem share_any (n : Nat) (w : World) (hn : n ≤ 4000000000000000000) :
 Calls Tryz.prog 110 #[.int .i64 n] w fun e w' => e = .returned (.int .i64 (endsN n)) ∧ w = w' := by
 by_cases h : n < 2
 all_goals
  go_enter Tryz.func110, Tryz.ntmps110
  go_wp2
  go_ret
  exact ⟨ret_int (by simp [endsN, h]), rfl⟩

set_option maxHeartbeats 1000000 in
set_option maxRecDepth 100000 in
theorem refCross_any (A AE : Option Addr) (n c m ce : Nat) (b : List Bool) (E : List Edg) (w : World) (h : RdB w A n b) (hE : RdP w AE m E) (hm : m ≤ 1000000000) :
 Calls Tryz.prog 102 #[.slice A n c, .slice AE m ce] w fun e w' => e = .returned (.int .i64 (cr b E)) ∧ ∃ q, w' = w.drewN q := by
 have HL := Lib.hid hE.1
 go_enter Tryz.func102, Tryz.ntmps102
 go_wp2
 go_loopw [5, 6] (fun t i W => ∃ k : Nat, k ≤ m ∧ i = .int .i64 k ∧ t = .int .i64 (cr b (E.take k)) ∧ ∃ j, W = w.drewN j) (fun _ i _ => m - (intOf i).toNat)
 case atStart => exact ⟨0, Nat.zero_le _, rfl, by simp [cr, crossN], 0, rfl⟩
 case round =>
  obtain ⟨k, hk, rfl, rfl, j, hj⟩ := hrel
  have hle := cr_le b E k
  have hbl : Below w.heap.size w wr := by rw [hj]; exact below_drewN (Below.refl _ _) j
  have HJ := Lib.hid hj
  clear hj
  by_cases hlt : k < m
  · obtain ⟨g, o, x, y, rfl, hx, cx, cy⟩ := hE.at_ hlt
    have HT := Lib.hid (cr_take (b := b) hx)
    have j1 := Below.cellOf hbl (Nat.le_refl _) cx
    have j2 := Below.cellOf hbl (Nat.le_refl _) cy
    have i1 : (0 : Int) ≤ (k : Int) := by omega
    have i2 : (k : Int) < (m : Int) := by omega
    have hr2 := h.below hbl
    have HM := Lib.hid (show ∀ v q, Calls Tryz.prog 114 #[.slice A n c, .int .i64 v] (wr.drewN q) fun e w' => e = .returned (.bool (sideF b v)) ∧ wr.drewN q = w' from fun v q => marked_any A n c b v _ hr2)
    clear hx cx cy hr2
    generalize cr b (E.take k) = t at *
    go_wp2_with fail
    go_quiet ((go_at_call 114; exact quiet_left (HM.out _ _)))
    go_wp2
    · have ht : (sideF b x != sideF b y) = true := by assumption
      go_roundw
      case rel => exact ⟨k + 1, by omega, by go_num, by rw [HT.out, if_neg (by simpa using ht)]; go_num, _, by rw [HJ.out, World.drewN_drewN]⟩
      case measure => simp [intOf]; omega
    · have ht : (sideF b x != sideF b y) = false := by first | assumption | (simp; assumption)
      go_roundw
      case rel => exact ⟨k + 1, by omega, by go_num, by rw [HT.out, if_pos (by simpa using ht)]; rfl, _, by rw [HJ.out, World.drewN_drewN]⟩
      case measure => simp [intOf]; omega
  · obtain rfl : k = m := by omega
    have ht : E.take k = E := List.take_of_length_le (by rw [HL.out]; exact Nat.le_refl _)
    rw [ht]
    clear ht
    go_wp2
    go_ret
    exact ⟨rfl, _, HJ.out⟩

set_option maxHeartbeats 2000000 in
set_option maxRecDepth 100000 in
theorem refEnds_any (A : Option Addr) (n c : Nat) (l : List Int) (w : World) (h : RdI w A n l) (hn : n ≤ 1000000000) (hc : n ≤ c) :
 Calls Tryz.prog 99 #[.slice A n c] w fun e w' => ∃ A1 c1 A2 c2, e = .returned (.tuple #[.slice A1 (endsN n) c1, .slice A2 (endsN n) c2]) ∧ RdI w' A1 (endsN n) (l.take (endsN n)) ∧ RdI w' A2 (endsN n) (l.drop (n - endsN n)) ∧ Below w.heap.size w w' := by
 have hh : endsN n ≤ n := by unfold endsN; split <;> omega
 have HSH := Lib.hid (share_any n w (by omega))
 obtain ⟨k, hk⟩ : ∃ k, k = endsN n := ⟨_, rfl⟩
 rw [← hk] at hh HSH ⊢
 clear hk
 have i1 : (0 : Int) ≤ (k : Int) := by omega
 have i2 : (k : Int) ≤ (n : Int) := by omega
 have i3 : (k : Int) ≤ (c : Int) := by omega
 have i4 : (n : Int) ≤ (c : Int) := by omega
 have i5 : (0 : Int) ≤ (n : Int) - (k : Int) := by omega
 have i6 : (n : Int) - (k : Int) ≤ (n : Int) := by omega
 have i7 : (n : Int) - (k : Int) ≤ (c : Int) := by omega
 have i8 : IntKind.i64.wrap ((n : Int) - (k : Int)) = (n : Int) - (k : Int) := IntWalk.i64_in _ (by omega)
 have i9 : ((n : Int) - (k : Int)).toNat = n - k := by omega
 have H1 := Lib.hid (h.take hh)
 have H2 := Lib.hid (h.cut (m := n - k) (r := k) (by omega) (by omega) hc)
 have hsl := fun W => run_cut_l (P := Tryz.prog) 27 3 1 Tryz.underlying27 (by kernel_rfl) (by kernel_rfl) A n c (n - k) k (by omega) (by omega) .i64 ((n : Int) - (k : Int)) (by omega) W
 have E0 := Lib.hid (show ∀ W : World, w.heap.size ≤ W.heap.size → Own (W.alloc (.cells #[] 3)) w.heap.size 3 1 (some ⟨W.heap.size, 0, none⟩) 0 0 [] from fun W hW => lit0 hW)
 go_enter Tryz.func99, Tryz.ntmps99
 go_wp2_with fail
 with_reducible refine HSH.out.mono ?_
 rintro e w' ⟨rfl, rfl⟩
 go_wp2_with fail
 refine wp_region_held_drew (S := fun _ => True) (by kernel_rfl) trivial (fun _ => ?_)
 obtain ⟨w1, hw1⟩ : ∃ w1, w1 = w.drew := ⟨_, rfl⟩
 rw [← hw1]
 have hb1 : Below w.heap.size w w1 := by rw [hw1]; exact (Below.refl _ _).drew
 clear hw1
 refine tk 1 11 (h := ⟨_, tv, ?_⟩)
 simp only [pE, List.set]
 refine tk 2 12 (h := ⟨_, tv, ?_⟩)
 simp only [pE, List.set]
 refine tk 3 13 (h := ⟨_, tv, ?_⟩)
 simp only [pE, List.set]
 refine tk 6 16 (h := ⟨_, tv, ?_⟩)
 simp only [pE, List.set]
 refine tk 7 17 (h := ⟨_, tv, ?_⟩)
 simp only [pE, List.set]
 refine tk 8 18 (h := ⟨_, tv, ?_⟩)
 simp only [pE, List.set]
 refine tk 9 19 (h := ⟨_, tv, ?_⟩)
 simp only [pE, List.set]
 refine tk 10 20 (h := ⟨_, tv, ?_⟩)
 simp only [pE, List.set]
 refine wpAnyH_ready (rs := [0, 5]) (by kernel_rfl) (by simp) ?_
 refine AllReadyH.cons (o := _) rfl (fun K hK => ?_) (AllReadyH.cons (o := _) rfl (fun K hK => ?_) AllReadyH.nil)
 · go_simp
   obtain ⟨W, hW⟩ : ∃ W, W = w1.alloc (.cells #[] 3) := ⟨_, rfl⟩
   have hO : Own W w.heap.size 3 1 (some ⟨w1.heap.size, 0, none⟩) 0 0 [] := by rw [hW]; exact E0.out w1 hb1.size
   have hbW : Below w.heap.size w W := by rw [hW]; exact bELt
   have HZW := Lib.hid (show W.heap.size = w1.heap.size + 1 from by rw [hW]; simp)
   rw [← hW]
   refine hK.out _ _ trivial (fun _ => ?_)
   clear hK K hW
   refine wpAnyH_ready (rs := [4, 5]) (by kernel_rfl) (by simp) ?_
   refine AllReadyH.cons (o := _) rfl (fun K hK => ?_) (AllReadyH.cons (o := _) rfl (fun K hK => ?_) AllReadyH.nil)
   · clear HZW
     with_reducible refine step_app' (some 14) rfl rfl (.tmp 10) (.tmp 13) 27 rfl 3 _ 1 8 infoInt Tryz.underlying27 rfl (by omega) rfl rfl hO (H1.out.below hbW).rdsI (icells_one _) (by omega) (by omega) hbW.size ?_
     intro A1 c1 w5 hown5 hg5 hat5
     have hb5 : Below w.heap.size w w5 := Bel.grownOwn hbW hg5 hO hbW.size
     refine hK.out _ _ trivial (fun _ => ?_)
     clear hK K
     simp only [Act.put, List.setIfInBounds_toArray, List.set_cons_zero, List.set_cons_succ]
     refine wpAnyH_ready (rs := [5]) (by kernel_rfl) (by simp) ?_
     refine AllReadyH.cons (o := _) rfl (fun K hK => ?_) AllReadyH.nil
     go_simp
     obtain ⟨W2, hW2⟩ : ∃ W2, W2 = w5.alloc (.cells #[] 3) := ⟨_, rfl⟩
     have hO2 : Own W2 w.heap.size 3 1 (some ⟨w5.heap.size, 0, none⟩) 0 0 [] := by rw [hW2]; exact E0.out w5 hb5.size
     have hbW2 : Below w.heap.size w W2 := by rw [hW2]; exact bELt
     have hown5' : Own W2 w.heap.size 3 1 A1 (0 + k) c1 ([] ++ icells (l.take k)) := by rw [hW2]; exact hown5.alloc _
     have hdj : Dj (some ⟨w5.heap.size, 0, none⟩) A1 := dj_new hown5 (Nat.le_refl _)
     rw [← hW2]
     refine hK.out _ _ trivial (fun _ => ?_)
     clear hK K hW2
     refine wpAnyH_ready (rs := [11]) (by kernel_rfl) (by simp) ?_
     refine AllReadyH.cons (o := _) rfl (fun K hK => ?_) AllReadyH.nil
     with_reducible refine step_app' (some 21) rfl rfl (.tmp 15) (.tmp 20) 27 rfl 3 _ 1 8 infoInt Tryz.underlying27 rfl (by omega) rfl rfl hO2 (H2.out.below hbW2).rdsI (icells_one _) (by omega) (by omega) hbW2.size ?_
     intro A2 c2 w6 hown6 hg6 hat6
     have hb6 : Below w.heap.size w w6 := Bel.grownOwn hbW2 hg6 hO2 hbW2.size
     have hr1 : RdI w6 A1 k (l.take k) := by have := (hown5'.far hg6 hdj.far).rds.rdI; rw [Nat.zero_add] at this; exact this
     have hr2 : RdI w6 A2 k (l.drop (n - k)) := by have := hown6.rds.rdI; rw [Nat.zero_add] at this; exact this
     refine hK.out _ _ trivial (fun _ => ?_)
     clear hK K
     simp only [Act.put, List.setIfInBounds_toArray, List.set_cons_zero, List.set_cons_succ]
     refine tk 12 2 (h := ⟨_, tv, ?_⟩)
     simp only [pE, List.set]
     refine tk 13 3 (h := ⟨_, tv, ?_⟩)
     simp only [pE, List.set]
     refine wpAnyH_done (by kernel_rfl) ?_ _
     have HR1 := Lib.hid hr1
     have HR2 := Lib.hid hr2
     clear hr1 hr2 hown5 hown6 hg5 hg6
     go_wp2_with fail
     go_ret2
     refine ⟨A1, c1, A2, c2, ?_, HR1.out, HR2.out, hb6⟩
     simp
   · go_simp
     obtain ⟨W2, hW2⟩ : ∃ W2, W2 = W.alloc (.cells #[] 3) := ⟨_, rfl⟩
     have hB2 : Own W2 w.heap.size 3 1 (some ⟨W.heap.size, 0, none⟩) 0 0 [] := by rw [hW2]; exact E0.out W hbW.size
     have hbW' : Below w.heap.size w W2 := by rw [hW2]; exact bELt
     have hO' : Own W2 w.heap.size 3 1 (some ⟨w1.heap.size, 0, none⟩) 0 0 [] := by rw [hW2]; exact hO.alloc _
     have HZW2 := Lib.hid (show W2.heap.size = W.heap.size + 1 from by rw [hW2]; simp)
     rw [← hW2]
     refine hK.out _ _ trivial (fun _ => ?_)
     clear hK K hW2 hO hbW
     have hO := hO'
     have hbW := hbW'
     clear hO' hbW'
     refine wpAnyH_ready (rs := [4]) (by kernel_rfl) (by simp) ?_
     refine AllReadyH.cons (o := _) rfl (fun K hK => ?_) AllReadyH.nil
     with_reducible refine step_app' (some 14) rfl rfl (.tmp 10) (.tmp 13) 27 rfl 3 _ 1 8 infoInt Tryz.underlying27 rfl (by omega) rfl rfl hO (H1.out.below hbW).rdsI (icells_one _) (by omega) (by omega) hbW.size ?_
     intro A1 c1 w5 hown5 hg5 hat5
     have hb5 : Below w.heap.size w w5 := Bel.grownOwn hbW hg5 hO hbW.size
     refine hK.out _ _ trivial (fun _ => ?_)
     clear hK K
     simp only [Act.put, List.setIfInBounds_toArray, List.set_cons_zero, List.set_cons_succ]
     have hO2 := hB2.far hg5 (.inr (blk_ne2 (by have := HZW.out; omega)))
     have hbW2 := hb5
     have hown5' := hown5
     have hdj : Dj (some ⟨W.heap.size, 0, none⟩) A1 := dj_two hat5 (by have := HZW.out; omega) (by have := HZW.out; have := HZW2.out; omega)
     refine wpAnyH_ready (rs := [11]) (by kernel_rfl) (by simp) ?_
     refine AllReadyH.cons (o := _) rfl (fun K hK => ?_) AllReadyH.nil
     with_reducible refine step_app' (some 21) rfl rfl (.tmp 15) (.tmp 20) 27 rfl 3 _ 1 8 infoInt Tryz.underlying27 rfl (by omega) rfl rfl hO2 (H2.out.below hbW2).rdsI (icells_one _) (by omega) (by omega) hbW2.size ?_
     intro A2 c2 w6 hown6 hg6 hat6
     have hb6 : Below w.heap.size w w6 := Bel.grownOwn hbW2 hg6 hO2 hbW2.size
     have hr1 : RdI w6 A1 k (l.take k) := by have := (hown5'.far hg6 hdj.far).rds.rdI; rw [Nat.zero_add] at this; exact this
     have hr2 : RdI w6 A2 k (l.drop (n - k)) := by have := hown6.rds.rdI; rw [Nat.zero_add] at this; exact this
     refine hK.out _ _ trivial (fun _ => ?_)
     clear hK K
     simp only [Act.put, List.setIfInBounds_toArray, List.set_cons_zero, List.set_cons_succ]
     refine tk 12 2 (h := ⟨_, tv, ?_⟩)
     simp only [pE, List.set]
     refine tk 13 3 (h := ⟨_, tv, ?_⟩)
     simp only [pE, List.set]
     refine wpAnyH_done (by kernel_rfl) ?_ _
     have HR1 := Lib.hid hr1
     have HR2 := Lib.hid hr2
     clear hr1 hr2 hown5 hown6 hg5 hg6
     go_wp2_with fail
     go_ret2
     refine ⟨A1, c1, A2, c2, ?_, HR1.out, HR2.out, hb6⟩
     simp
 · go_simp
   obtain ⟨W, hW⟩ : ∃ W, W = w1.alloc (.cells #[] 3) := ⟨_, rfl⟩
   have hB1 : Own W w.heap.size 3 1 (some ⟨w1.heap.size, 0, none⟩) 0 0 [] := by rw [hW]; exact E0.out w1 hb1.size
   have hbW' : Below w.heap.size w W := by rw [hW]; exact bELt
   have HZW := Lib.hid (show W.heap.size = w1.heap.size + 1 from by rw [hW]; simp)
   rw [← hW]
   refine hK.out _ _ trivial (fun _ => ?_)
   clear hK K hW
   refine wpAnyH_ready (rs := [0]) (by kernel_rfl) (by simp) ?_
   refine AllReadyH.cons (o := _) rfl (fun K hK => ?_) AllReadyH.nil
   go_simp
   obtain ⟨W2, hW2⟩ : ∃ W2, W2 = W.alloc (.cells #[] 3) := ⟨_, rfl⟩
   have hO : Own W2 w.heap.size 3 1 (some ⟨W.heap.size, 0, none⟩) 0 0 [] := by rw [hW2]; exact E0.out W hbW'.size
   have hbW : Below w.heap.size w W2 := by rw [hW2]; exact bELt
   have hB2 : Own W2 w.heap.size 3 1 (some ⟨w1.heap.size, 0, none⟩) 0 0 [] := by rw [hW2]; exact hB1.alloc _
   have HZW2 := Lib.hid (show W2.heap.size = W.heap.size + 1 from by rw [hW2]; simp)
   rw [← hW2]
   refine hK.out _ _ trivial (fun _ => ?_)
   clear hK K hW2 hbW' hB1
   refine wpAnyH_ready (rs := [4]) (by kernel_rfl) (by simp) ?_
   refine AllReadyH.cons (o := _) rfl (fun K hK => ?_) AllReadyH.nil
   with_reducible refine step_app' (some 14) rfl rfl (.tmp 10) (.tmp 13) 27 rfl 3 _ 1 8 infoInt Tryz.underlying27 rfl (by omega) rfl rfl hO (H1.out.below hbW).rdsI (icells_one _) (by omega) (by omega) hbW.size ?_
   intro A1 c1 w5 hown5 hg5 hat5
   have hb5 : Below w.heap.size w w5 := Bel.grownOwn hbW hg5 hO hbW.size
   refine hK.out _ _ trivial (fun _ => ?_)
   clear hK K
   simp only [Act.put, List.setIfInBounds_toArray, List.set_cons_zero, List.set_cons_succ]
   have hO2 := hB2.far hg5 (.inr (blk_ne2 (by have := HZW.out; omega)))
   have hbW2 := hb5
   have hown5' := hown5
   have hdj : Dj (some ⟨w1.heap.size, 0, none⟩) A1 := dj_two hat5 (by have := HZW.out; omega) (by have := HZW.out; have := HZW2.out; omega)
   refine wpAnyH_ready (rs := [11]) (by kernel_rfl) (by simp) ?_
   refine AllReadyH.cons (o := _) rfl (fun K hK => ?_) AllReadyH.nil
   with_reducible refine step_app' (some 21) rfl rfl (.tmp 15) (.tmp 20) 27 rfl 3 _ 1 8 infoInt Tryz.underlying27 rfl (by omega) rfl rfl hO2 (H2.out.below hbW2).rdsI (icells_one _) (by omega) (by omega) hbW2.size ?_
   intro A2 c2 w6 hown6 hg6 hat6
   have hb6 : Below w.heap.size w w6 := Bel.grownOwn hbW2 hg6 hO2 hbW2.size
   have hr1 : RdI w6 A1 k (l.take k) := by have := (hown5'.far hg6 hdj.far).rds.rdI; rw [Nat.zero_add] at this; exact this
   have hr2 : RdI w6 A2 k (l.drop (n - k)) := by have := hown6.rds.rdI; rw [Nat.zero_add] at this; exact this
   refine hK.out _ _ trivial (fun _ => ?_)
   clear hK K
   simp only [Act.put, List.setIfInBounds_toArray, List.set_cons_zero, List.set_cons_succ]
   refine tk 12 2 (h := ⟨_, tv, ?_⟩)
   simp only [pE, List.set]
   refine tk 13 3 (h := ⟨_, tv, ?_⟩)
   simp only [pE, List.set]
   refine wpAnyH_done (by kernel_rfl) ?_ _
   have HR1 := Lib.hid hr1
   have HR2 := Lib.hid hr2
   clear hr1 hr2 hown5 hown6 hg5 hg6
   go_wp2_with fail
   go_ret2
   refine ⟨A1, c1, A2, c2, ?_, HR1.out, HR2.out, hb6⟩
   simp
end Go.Proofs.YtpffhoefmcpniaaGreatDoor
