/- Parts of the proof: QCu10. -/
import Derived.Test.YtpffhoefmcpniaaGreatDoorB1
import Derived.Test.YtpffhoefmcpniaaGreatDoorB14
namespace Go.Proofs.YtpffhoefmcpniaaGreatDoor
open Go.RowKit

attribute [local go_sem ↓] Go.wp_at_zero Go.wp_at_succ

theorem iota_succ (i : Nat) : iota (i + 1) = iota i ++ [(i : Int)] := by simp [iota, List.range_succ]
theorem ins_ord {ks : List Int} {i k : Nat} {o : List Int} (h : IsOrd ks i o) (hk : k ≤ i) (hle : ∀ j y, j < k → o[j]? = some y → ks.getD y.toNat 0 ≤ ks.getD i 0)
 (hgt : k = i ∨ ∃ y, o[k]? = some y ∧ ks.getD i 0 < ks.getD y.toNat 0) : IsOrd ks (i + 1) (o.take k ++ [(i : Int)] ++ o.drop k) := by
 have hlen : o.length = i := by rw [h.1.length_eq]; simp [iota]
 have hmem : ∀ y ∈ o, 0 ≤ y ∧ y < i := fun y hy => iota_mem.1 (h.1.mem_iff.1 hy)
 refine ⟨?_, ?_⟩
 · rw [iota_succ, List.append_assoc]
   have h1 : (o.take k ++ ([(i : Int)] ++ o.drop k)).Perm (o.take k ++ (o.drop k ++ [(i : Int)])) := (List.perm_append_comm).append_left _
   refine h1.trans ?_
   rw [← List.append_assoc, List.take_append_drop]
   exact h.1.append_right _
 · have hpw := h.2
   rw [← List.take_append_drop k o, List.pairwise_append] at hpw
   obtain ⟨p1, p2, p3⟩ := hpw
   rw [List.append_assoc, List.pairwise_append]
   refine ⟨p1, ?_, fun a ha b hb => ?_⟩
   · rw [List.singleton_append, List.pairwise_cons]
     refine ⟨fun z hz => ?_, p2⟩
     obtain ⟨q, hq, e⟩ := List.getElem_of_mem hz
     rw [List.length_drop] at hq
     rw [List.getElem_drop] at e
     rcases hgt with rfl | ⟨y, hy, hlt⟩
     · omega
     · unfold klt
       left
       rw [Int.toNat_natCast]
       cases q with
       | zero =>
        rw [List.getElem?_eq_getElem (by omega)] at hy
        have : z = y := by rw [← e]; exact Option.some.inj hy
        rw [this]; exact hlt
       | succ q =>
        have hkl := List.pairwise_iff_getElem.1 h.2 k (k + (q + 1)) (by omega) (by omega) (by omega)
        rw [e] at hkl
        rw [List.getElem?_eq_getElem (by omega)] at hy
        rw [Option.some.inj hy] at hkl
        unfold klt at hkl
        omega
   · rw [List.singleton_append, List.mem_cons] at hb
     rcases hb with rfl | hb
     · obtain ⟨q, hq, e⟩ := List.getElem_of_mem ha
       rw [List.length_take] at hq
       rw [List.getElem_take] at e
       have h1 := hle q a (by omega) (by rw [List.getElem?_eq_getElem (by omega), e])
       have h2 := hmem a (List.mem_of_mem_take ha)
       unfold klt
       rw [Int.toNat_natCast]
       omega
     · exact p3 a ha b hb
theorem key_at {l : List (Int × Int)} {d : Int} {i : Nat} {p : Int × Int} (h : l[i]? = some p) : (keysOf l d).getD i 0 = key p d := by
 unfold keysOf
 rw [List.getD_eq_getElem?_getD, List.getElem?_map, h]; rfl
def KeyLe (ks : List Int) (i k : Nat) (o : List Int) : Prop := ∀ j y, j < k → o[j]? = some y → ks.getD y.toNat 0 ≤ ks.getD i 0


set_option maxHeartbeats 8000000 in
set_option maxRecDepth 100000 in
theorem refOrder_any (A : Option Addr) (n c : Nat) (l : List (Int × Int)) (d : Int) (w : World) (h : RdP w A n l) (hn : n ≤ 1000000) (hd : 0 ≤ d) (hd' : d ≤ 3)
 (hb : ∀ p ∈ l, -1000000000000 ≤ p.1 ∧ p.1 ≤ 1000000000000 ∧ -1000000000000 ≤ p.2 ∧ p.2 ≤ 1000000000000) :
 Calls Tryz.prog 98 #[.slice A n c, .int .i64 d] w fun e w' => ∃ A' c', e = .returned (.slice A' n c') ∧ RdI w' A' n (order l d) ∧ n ≤ c' ∧ Below w.heap.size w w' := by
 have HL := Lib.hid h.1
 have HB := Lib.hid hb
 have HKY := Lib.hid (show ∀ (x y : Int) (W : World), (x, y) ∈ l → Calls Tryz.prog 109 #[.agg #[.int .i64 x, .int .i64 y], .int .i64 d] W fun e w' => e = .returned (.int .i64 (key (x, y) d)) ∧ Below W.heap.size W w' from fun x y W hp => by
  have := hb _ hp
  exact refKey_any x y d W (by omega) (by omega) (by omega) (by omega) hd hd')
 clear hb
 go_enter Tryz.func98, Tryz.ntmps98
 go_wp2_with fail
 go_loopw [5, 6] (fun ov iv W => ∃ (i r : Nat) (A5 : Option Addr) (c5 : Nat) (o : List Int), i ≤ n ∧ iv = .int .i64 i ∧ ov = .slice A5 r c5 ∧ r = i ∧ Own W w.heap.size 3 1 A5 r c5 (icells o) ∧ IsOrd (keysOf l d) i o ∧ Below w.heap.size w W) (fun _ iv _ => n - (intOf iv).toNat)
 case atStart => exact ⟨0, 0, none, 0, [], Nat.zero_le _, rfl, rfl, rfl, Own.nil _ _ _ _, ⟨by simp [iota], List.Pairwise.nil⟩, Below.refl _ _⟩
 case round =>
  obtain ⟨i, r, A5, c5, o, hi, rfl, rfl, hr, hown, hord, hbl⟩ := hrel
  subst hr
  obtain ⟨i, hir⟩ : ∃ i, i = r := ⟨_, rfl⟩
  subst hir
  have hcap := hown.cap
  have hcm := hown.capMax
  by_cases hlt : i < n
  · have HO := Lib.hid hown
    have HORD := Lib.hid hord
    have i1 : (i : Int) < (n : Int) := by omega
    obtain ⟨wo, hwo⟩ : ∃ wo, wo = wr := ⟨_, rfl⟩
    subst hwo
    clear hown hord
    go_wp2_with fail
    go_loopw [7] (fun kv W => ∃ k : Nat, k ≤ i ∧ kv = .int .i64 k ∧ KeyLe (keysOf l d) i k o ∧ Below wo.heap.size wo W) (fun kv _ => i - (intOf kv).toNat)
    case atStart => exact ⟨0, Nat.zero_le _, rfl, fun j y hj => absurd hj (by omega), Below.refl _ _⟩
    case round =>
     obtain ⟨k, hki, rfl, hle, hbk⟩ := hrel
     have HLE := Lib.hid hle
     clear hle
     have hblr : Below w.heap.size w wr := Bel.step hbl hbk
     have hRI : RdI wr A5 i o := ((HO.out.below hbk).rds).rdI
     have HRI := Lib.hid hRI
     have j1 : (0 : Int) ≤ (k : Int) := by omega
     have j2 : (k : Int) ≤ (i : Int) := by omega
     have j3 : (k : Int) ≤ (c5 : Int) := by omega
     have j4 : (i : Int) ≤ (c5 : Int) := by omega
     by_cases hlt2 : k < i
     · obtain ⟨ob, oo, v, eA, hv, hcv⟩ := hRI.at_ hlt2
       subst eA
       have hvm := iota_mem.1 (HORD.out.1.mem_iff.1 (List.mem_of_getElem? hv))
       obtain ⟨vn, rfl⟩ : ∃ vn : Nat, v = vn := ⟨v.toNat, by omega⟩
       obtain ⟨pb, po, px, py, eP, hpx, hcx, hcy⟩ := (h.below hblr).at_ (i := vn) (by omega)
       subst eP
       obtain ⟨_, _, qx, qy, eP, hqx, hdx, hdy⟩ := (h.below hblr).at_ (i := i) (by omega)
       cases eP
       have HKP := Lib.hid (fun W => HKY.out px py W (List.mem_of_getElem? hpx))
       have HKQ := Lib.hid (fun W => HKY.out qx qy W (List.mem_of_getElem? hqx))
       have kp : (keysOf l d).getD vn 0 = key (px, py) d := key_at hpx
       have kq : (keysOf l d).getD i 0 = key (qx, qy) d := key_at hqx
       have HSTEP := Lib.hid (show key (px, py) d ≤ key (qx, qy) d → KeyLe (keysOf l d) i (k + 1) o from fun hc j y hj hy => by
        rcases Nat.lt_or_ge j k with h1 | h1
        · exact HLE.out j y h1 hy
        · obtain rfl : j = k := by omega
          rw [hv] at hy
          cases hy
          rw [Int.toNat_natCast, kp, kq]; exact hc)
       have HFINX := Lib.hid (show ¬ key (px, py) d ≤ key (qx, qy) d → IsOrd (keysOf l d) (i + 1) (o.take k ++ [(i : Int)] ++ o.drop k) from fun hc => ins_ord HORD.out hki HLE.out (.inr ⟨_, hv, by rw [Int.toNat_natCast, kp, kq]; omega⟩))
       clear kp kq hv hpx hqx hRI
       generalize key (px, py) d = ka at *
       generalize key (qx, qy) d = kb at *
       have i5 : (0 : Int) ≤ (vn : Int) := by omega
       have i6 : (vn : Int) < (n : Int) := by omega
       have i7 : (k : Int) < (i : Int) := by omega
       have i8 : (0 : Int) ≤ (i : Int) := by omega
       have HHEAD := Lib.hid hvm
       clear hvm
       by_cases hc : ka ≤ kb
       · go_wp2_with fail
         go_region_held3 (fun V => V.cell? ⟨ob, oo + k, none⟩ = some (.int .i64 vn) ∧ V.cell? ⟨pb, po + vn * 2, none⟩ = some (.int .i64 px) ∧ V.cell? ⟨pb, po + vn * 2 + 1, none⟩ = some (.int .i64 py) ∧ V.cell? ⟨pb, po + i * 2, none⟩ = some (.int .i64 qx) ∧ V.cell? ⟨pb, po + i * 2 + 1, none⟩ = some (.int .i64 qy))
          (exact have hb : Below wr.heap.size wr _ := bELt; ⟨Below.cellOf hb (Nat.le_refl _) hcv, Below.cellOf hb (Nat.le_refl _) hcx, Below.cellOf hb (Nat.le_refl _) hcy, Below.cellOf hb (Nat.le_refl _) hdx, Below.cellOf hb (Nat.le_refl _) hdy⟩)
          (first
           | (go_at_call 109; (with_reducible refine (HKP.out _).mono ?_); rintro e w5 ⟨rfl, hb5⟩)
           | (go_at_call 109; (with_reducible refine (HKQ.out _).mono ?_); rintro e w6 ⟨rfl, hb6⟩))
         go_wp2_with fail
         go_roundw
         case rel => exact ⟨k + 1, by omega, by go_num, HSTEP.out hc, bELt⟩
         case measure => simp [intOf]; omega
       · have HFIN := Lib.hid (HFINX.out hc)
         go_wp2_with fail
         go_region_held3 (fun V => V.cell? ⟨ob, oo + k, none⟩ = some (.int .i64 vn) ∧ V.cell? ⟨pb, po + vn * 2, none⟩ = some (.int .i64 px) ∧ V.cell? ⟨pb, po + vn * 2 + 1, none⟩ = some (.int .i64 py) ∧ V.cell? ⟨pb, po + i * 2, none⟩ = some (.int .i64 qx) ∧ V.cell? ⟨pb, po + i * 2 + 1, none⟩ = some (.int .i64 qy))
          (exact have hb : Below wr.heap.size wr _ := bELt; ⟨Below.cellOf hb (Nat.le_refl _) hcv, Below.cellOf hb (Nat.le_refl _) hcx, Below.cellOf hb (Nat.le_refl _) hcy, Below.cellOf hb (Nat.le_refl _) hdx, Below.cellOf hb (Nat.le_refl _) hdy⟩)
          (first
           | (go_at_call 109; (with_reducible refine (HKP.out _).mono ?_); rintro e w5 ⟨rfl, hb5⟩)
           | (go_at_call 109; (with_reducible refine (HKQ.out _).mono ?_); rintro e w6 ⟨rfl, hb6⟩))
         have hbrv : Below wr.heap.size wr w6 := bELt
         obtain ⟨wv, hwv⟩ : ∃ wv, wv = w6 := ⟨_, rfl⟩
         subst hwv
         have hblv : Below w.heap.size w wv := Bel.step hblr hbrv
         have HRIv := Lib.hid (HRI.out.below hbrv)
         clear hcv hcx hcy hdx hdy hb5 hb6
         have hsl := fun W => run_cut_l (P := Tryz.prog) 27 3 1 Tryz.underlying27 (by kernel_rfl) (by kernel_rfl) (some ⟨ob, oo, none⟩) i c5 k (i - k) hki rfl .i64 (k : Int) rfl W
         go_wp2_with fail
         refine wp_region_held_drew (S := fun _ => True) (by kernel_rfl) trivial (fun _ => ?_)
         obtain ⟨w1, hw1⟩ : ∃ w1, w1 = wv.drew := ⟨_, rfl⟩
         rw [← hw1]
         have hbr1 : Below wv.heap.size wv w1 := by rw [hw1]; exact (Below.refl _ _).drew
         have hbw1 : Below w.heap.size w w1 := Bel.step hblv hbr1
         clear hw1
         have H1 := Lib.hid ((HRIv.out.below hbr1).take hki)
         have H2 := Lib.hid ((HRIv.out.below hbr1).cut (m := k) (r := i - k) hki rfl hcap)
         have E0 := Lib.hid (show ∀ W : World, w1.heap.size ≤ W.heap.size → Own (W.alloc (.cells #[] 3)) w1.heap.size 3 1 (some ⟨W.heap.size, 0, none⟩) 0 0 [] from fun W hW => lit0 hW)
         refine tk 1 39 (h := ⟨_, tv, ?_⟩)
         simp only [pE, List.set]
         refine tk 2 40 (h := ⟨_, tv, ?_⟩)
         simp only [pE, List.set]
         refine tk 3 41 (h := ⟨_, tv, ?_⟩)
         simp only [pE, List.set]
         refine tk 5 43 (h := ⟨_, tv, ?_⟩)
         simp only [pE, List.set]
         refine tk 8 46 (h := ⟨_, tv, ?_⟩)
         simp only [pE, List.set]
         refine tk 9 47 (h := ⟨_, tv, ?_⟩)
         simp only [pE, List.set]
         refine tk 10 48 (h := ⟨_, tv, ?_⟩)
         simp only [pE, List.set]
         refine wpAnyH_ready (rs := [0, 6]) (by kernel_rfl) (by simp) ?_
         refine AllReadyH.cons (o := _) rfl (fun K hK => ?_) (AllReadyH.cons (o := _) rfl (fun K hK => ?_) AllReadyH.nil)
         · go_simp
           obtain ⟨W, hW⟩ : ∃ W, W = w1.alloc (.cells #[] 3) := ⟨_, rfl⟩
           have hO : Own W w1.heap.size 3 1 (some ⟨w1.heap.size, 0, none⟩) 0 0 [] := by rw [hW]; exact E0.out w1 (Nat.le_refl _)
           have hbW : Below w1.heap.size w1 W := by rw [hW]; exact bELt
           rw [← hW]
           refine hK.out _ _ trivial (fun _ => ?_)
           clear hK K hW
           refine wpAnyH_ready (rs := [4, 6]) (by kernel_rfl) (by simp) ?_
           refine AllReadyH.cons (o := _) rfl (fun K hK => ?_) (AllReadyH.cons (o := _) rfl (fun K hK => ?_) AllReadyH.nil)
           ·
            with_reducible refine step_app' (some 42) rfl rfl (.tmp 38) (.tmp 41) 27 rfl 3 _ 1 8 infoInt Tryz.underlying27 rfl (by omega) rfl rfl hO (H1.out.below hbW).rdsI (icells_one _) (by omega) (by omega) hbW.size ?_
            intro A1 c1 w5 hown5 hg5 hat5
            have hb5 : Below w1.heap.size w1 w5 := Bel.grownOwn hbW hg5 hO hbW.size
            refine hK.out _ _ trivial (fun _ => ?_)
            clear hK K
            simp only [Act.put, List.setIfInBounds_toArray, List.set_cons_zero, List.set_cons_succ, Nat.zero_add]
            rw [Nat.zero_add] at hown5
            refine wpAnyH_ready (rs := [6]) (by kernel_rfl) (by simp) ?_
            refine AllReadyH.cons (o := _) rfl (fun K hK => ?_) AllReadyH.nil
            go_simp
            obtain ⟨W2, hW2⟩ : ∃ W2, W2 = w5.alloc (.cells #[.int .i64 i] 3) := ⟨_, rfl⟩
            have hbW2 : Below w1.heap.size w1 W2 := by rw [hW2]; exact hb5.alloc hb5.size _
            have hri : Rds W2 1 (some ⟨w5.heap.size, 0, none⟩) 1 (icells [(i : Int)]) := by rw [hW2]; exact (Blk.new w5 3 #[.int .i64 i]).rds rfl
            have hown7 : Own W2 w1.heap.size 3 1 A1 k c1 ([] ++ icells (o.take k)) := by rw [hW2]; exact hown5.alloc _
            rw [← hW2]
            refine hK.out _ _ trivial (fun _ => ?_)
            clear hK K hW2
            refine wpAnyH_ready (rs := [7]) (by kernel_rfl) (by simp) ?_
            refine AllReadyH.cons (o := _) rfl (fun K hK => ?_) AllReadyH.nil
            with_reducible refine step_app' (some 45) rfl rfl (.tmp 42) (.tmp 44) 27 rfl 3 _ 1 8 infoInt Tryz.underlying27 rfl (by omega) rfl rfl hown7 hri (icells_one [(i : Int)]) (by omega) (by omega) hbW2.size ?_
            intro A2 c2 w6 hown6 hg6 hat6
            have hb6 : Below w1.heap.size w1 w6 := Bel.grownOwn hbW2 hg6 hown7 hbW2.size
            refine hK.out _ _ trivial (fun _ => ?_)
            clear hK K
            simp only [Act.put, List.setIfInBounds_toArray, List.set_cons_zero, List.set_cons_succ]
            refine wpAnyH_ready (rs := [11]) (by kernel_rfl) (by simp) ?_
            refine AllReadyH.cons (o := _) rfl (fun K hK => ?_) AllReadyH.nil
            with_reducible refine step_app' (some 49) rfl rfl (.tmp 45) (.tmp 48) 27 rfl 3 _ 1 8 infoInt Tryz.underlying27 rfl (by omega) rfl rfl hown6 (H2.out.below hb6).rdsI (icells_one _) (by omega) (by omega) hb6.size ?_
            intro A3 c3 w8 hown8 hg8 hat8
            have hb8 : Below w1.heap.size w1 w8 := Bel.grownOwn hb6 hg8 hown6 hb6.size
            have HO8 := Lib.hid (show Own w8 w.heap.size 3 1 A3 (k + 1 + (i - k)) c3 (icells (o.take k ++ [(i : Int)] ++ o.drop k)) from by
             have := hown8.mono hbw1.size
             rw [icells_app, icells_app]
             exact this)
            refine hK.out _ _ trivial (fun _ => ?_)
            clear hK K
            simp only [Act.put, List.setIfInBounds_toArray, List.set_cons_zero, List.set_cons_succ]
            refine tk 12 5 (h := ⟨_, tv, ?_⟩)
            simp only [pE, List.set]
            refine wpAnyH_done (by kernel_rfl) ?_ _
            have hbw8 : Below w.heap.size w w8 := Bel.step hbw1 hb8
            clear hown5 hown6 hown7 hown8 hg5 hg6 hg8 hri
            go_wp2_with fail
            go_roundw
            case rel => exact ⟨i + 1, k + 1 + (i - k), A3, c3, _, by omega, by go_num, rfl, by omega, HO8.out, HFIN.out, hbw8⟩
            case measure => simp [intOf]; omega
           · go_simp
             obtain ⟨W2, hW2⟩ : ∃ W2, W2 = W.alloc (.cells #[.int .i64 i] 3) := ⟨_, rfl⟩
             have hbW' : Below w1.heap.size w1 W2 := by rw [hW2]; exact hbW.alloc hbW.size _
             have hO' : Own W2 w1.heap.size 3 1 (some ⟨w1.heap.size, 0, none⟩) 0 0 [] := by rw [hW2]; exact hO.alloc _
             have hBI : Blk W2 W.heap.size 3 #[.int .i64 i] := by rw [hW2]; exact Blk.new W 3 #[.int .i64 i]
             have hltW := hO.lt w1.heap.size rfl
             rw [← hW2]
             refine hK.out _ _ trivial (fun _ => ?_)
             clear hK K hW2 hO hbW
             have hO := hO'
             have hbW := hbW'
             clear hO' hbW'
             refine wpAnyH_ready (rs := [4]) (by kernel_rfl) (by simp) ?_
             refine AllReadyH.cons (o := _) rfl (fun K hK => ?_) AllReadyH.nil
             with_reducible refine step_app' (some 42) rfl rfl (.tmp 38) (.tmp 41) 27 rfl 3 _ 1 8 infoInt Tryz.underlying27 rfl (by omega) rfl rfl hO (H1.out.below hbW).rdsI (icells_one _) (by omega) (by omega) hbW.size ?_
             intro A1 c1 w5 hown5 hg5 hat5
             have hb5 : Below w1.heap.size w1 w5 := Bel.grownOwn hbW hg5 hO hbW.size
             refine hK.out _ _ trivial (fun _ => ?_)
             clear hK K
             simp only [Act.put, List.setIfInBounds_toArray, List.set_cons_zero, List.set_cons_succ, Nat.zero_add]
             rw [Nat.zero_add] at hown5
             have hri : Rds w5 1 (some ⟨W.heap.size, 0, none⟩) 1 (icells [(i : Int)]) := (hBI.grown hg5 (blk_ne (by omega))).rds rfl
             have hbW2 := hb5
             have hown7 := hown5
             refine wpAnyH_ready (rs := [7]) (by kernel_rfl) (by simp) ?_
             refine AllReadyH.cons (o := _) rfl (fun K hK => ?_) AllReadyH.nil
             with_reducible refine step_app' (some 45) rfl rfl (.tmp 42) (.tmp 44) 27 rfl 3 _ 1 8 infoInt Tryz.underlying27 rfl (by omega) rfl rfl hown7 hri (icells_one [(i : Int)]) (by omega) (by omega) hbW2.size ?_
             intro A2 c2 w6 hown6 hg6 hat6
             have hb6 : Below w1.heap.size w1 w6 := Bel.grownOwn hbW2 hg6 hown7 hbW2.size
             refine hK.out _ _ trivial (fun _ => ?_)
             clear hK K
             simp only [Act.put, List.setIfInBounds_toArray, List.set_cons_zero, List.set_cons_succ]
             refine wpAnyH_ready (rs := [11]) (by kernel_rfl) (by simp) ?_
             refine AllReadyH.cons (o := _) rfl (fun K hK => ?_) AllReadyH.nil
             with_reducible refine step_app' (some 49) rfl rfl (.tmp 45) (.tmp 48) 27 rfl 3 _ 1 8 infoInt Tryz.underlying27 rfl (by omega) rfl rfl hown6 (H2.out.below hb6).rdsI (icells_one _) (by omega) (by omega) hb6.size ?_
             intro A3 c3 w8 hown8 hg8 hat8
             have hb8 : Below w1.heap.size w1 w8 := Bel.grownOwn hb6 hg8 hown6 hb6.size
             have HO8 := Lib.hid (show Own w8 w.heap.size 3 1 A3 (k + 1 + (i - k)) c3 (icells (o.take k ++ [(i : Int)] ++ o.drop k)) from by
              have := hown8.mono hbw1.size
              rw [icells_app, icells_app]
              exact this)
             refine hK.out _ _ trivial (fun _ => ?_)
             clear hK K
             simp only [Act.put, List.setIfInBounds_toArray, List.set_cons_zero, List.set_cons_succ]
             refine tk 12 5 (h := ⟨_, tv, ?_⟩)
             simp only [pE, List.set]
             refine wpAnyH_done (by kernel_rfl) ?_ _
             have hbw8 : Below w.heap.size w w8 := Bel.step hbw1 hb8
             clear hown5 hown6 hown7 hown8 hg5 hg6 hg8 hri
             go_wp2_with fail
             go_roundw
             case rel => exact ⟨i + 1, k + 1 + (i - k), A3, c3, _, by omega, by go_num, rfl, by omega, HO8.out, HFIN.out, hbw8⟩
             case measure => simp [intOf]; omega
         · go_simp
           obtain ⟨W, hW⟩ : ∃ W, W = w1.alloc (.cells #[.int .i64 i] 3) := ⟨_, rfl⟩
           have hbW' : Below w1.heap.size w1 W := by rw [hW]; exact bELt
           have hBI' : Blk W w1.heap.size 3 #[.int .i64 i] := by rw [hW]; exact Blk.new w1 3 #[.int .i64 i]
           have hltW := hBI'.lt
           rw [← hW]
           refine hK.out _ _ trivial (fun _ => ?_)
           clear hK K hW
           refine wpAnyH_ready (rs := [0]) (by kernel_rfl) (by simp) ?_
           refine AllReadyH.cons (o := _) rfl (fun K hK => ?_) AllReadyH.nil
           go_simp
           obtain ⟨W2, hW2⟩ : ∃ W2, W2 = W.alloc (.cells #[] 3) := ⟨_, rfl⟩
           have hO : Own W2 w1.heap.size 3 1 (some ⟨W.heap.size, 0, none⟩) 0 0 [] := by rw [hW2]; exact E0.out W hbW'.size
           have hbW : Below w1.heap.size w1 W2 := by rw [hW2]; exact hbW'.alloc hbW'.size _
           have hBI : Blk W2 w1.heap.size 3 #[.int .i64 i] := by rw [hW2]; exact hBI'.alloc _
           rw [← hW2]
           refine hK.out _ _ trivial (fun _ => ?_)
           clear hK K hW2 hbW'
           refine wpAnyH_ready (rs := [4]) (by kernel_rfl) (by simp) ?_
           refine AllReadyH.cons (o := _) rfl (fun K hK => ?_) AllReadyH.nil
           with_reducible refine step_app' (some 42) rfl rfl (.tmp 38) (.tmp 41) 27 rfl 3 _ 1 8 infoInt Tryz.underlying27 rfl (by omega) rfl rfl hO (H1.out.below hbW).rdsI (icells_one _) (by omega) (by omega) hbW.size ?_
           intro A1 c1 w5 hown5 hg5 hat5
           have hb5 : Below w1.heap.size w1 w5 := Bel.grownOwn hbW hg5 hO hbW.size
           refine hK.out _ _ trivial (fun _ => ?_)
           clear hK K
           simp only [Act.put, List.setIfInBounds_toArray, List.set_cons_zero, List.set_cons_succ, Nat.zero_add]
           rw [Nat.zero_add] at hown5
           have hri : Rds w5 1 (some ⟨w1.heap.size, 0, none⟩) 1 (icells [(i : Int)]) := (hBI.grown hg5 (blk_ne (by omega))).rds rfl
           have hbW2 := hb5
           have hown7 := hown5
           refine wpAnyH_ready (rs := [7]) (by kernel_rfl) (by simp) ?_
           refine AllReadyH.cons (o := _) rfl (fun K hK => ?_) AllReadyH.nil
           with_reducible refine step_app' (some 45) rfl rfl (.tmp 42) (.tmp 44) 27 rfl 3 _ 1 8 infoInt Tryz.underlying27 rfl (by omega) rfl rfl hown7 hri (icells_one [(i : Int)]) (by omega) (by omega) hbW2.size ?_
           intro A2 c2 w6 hown6 hg6 hat6
           have hb6 : Below w1.heap.size w1 w6 := Bel.grownOwn hbW2 hg6 hown7 hbW2.size
           refine hK.out _ _ trivial (fun _ => ?_)
           clear hK K
           simp only [Act.put, List.setIfInBounds_toArray, List.set_cons_zero, List.set_cons_succ]
           refine wpAnyH_ready (rs := [11]) (by kernel_rfl) (by simp) ?_
           refine AllReadyH.cons (o := _) rfl (fun K hK => ?_) AllReadyH.nil
           with_reducible refine step_app' (some 49) rfl rfl (.tmp 45) (.tmp 48) 27 rfl 3 _ 1 8 infoInt Tryz.underlying27 rfl (by omega) rfl rfl hown6 (H2.out.below hb6).rdsI (icells_one _) (by omega) (by omega) hb6.size ?_
           intro A3 c3 w8 hown8 hg8 hat8
           have hb8 : Below w1.heap.size w1 w8 := Bel.grownOwn hb6 hg8 hown6 hb6.size
           have HO8 := Lib.hid (show Own w8 w.heap.size 3 1 A3 (k + 1 + (i - k)) c3 (icells (o.take k ++ [(i : Int)] ++ o.drop k)) from by
            have := hown8.mono hbw1.size
            rw [icells_app, icells_app]
            exact this)
           refine hK.out _ _ trivial (fun _ => ?_)
           clear hK K
           simp only [Act.put, List.setIfInBounds_toArray, List.set_cons_zero, List.set_cons_succ]
           refine tk 12 5 (h := ⟨_, tv, ?_⟩)
           simp only [pE, List.set]
           refine wpAnyH_done (by kernel_rfl) ?_ _
           have hbw8 : Below w.heap.size w w8 := Bel.step hbw1 hb8
           clear hown5 hown6 hown7 hown8 hg5 hg6 hg8 hri
           go_wp2_with fail
           go_roundw
           case rel => exact ⟨i + 1, k + 1 + (i - k), A3, c3, _, by omega, by go_num, rfl, by omega, HO8.out, HFIN.out, hbw8⟩
           case measure => simp [intOf]; omega
     · have HFIN := Lib.hid (ins_ord HORD.out hki HLE.out (.inl (by omega)))
       have i7 : ¬ (k : Int) < (i : Int) := by omega
       have hsl := fun W => run_cut_l (P := Tryz.prog) 27 3 1 Tryz.underlying27 (by kernel_rfl) (by kernel_rfl) A5 i c5 k (i - k) hki rfl .i64 (k : Int) rfl W
       clear hRI
       go_wp2_with fail
       refine wp_region_held_drew (S := fun _ => True) (by kernel_rfl) trivial (fun _ => ?_)
       refine tk 0 14 (h := ⟨_, tv, ?_⟩)
       simp only [pE, List.set]
       refine tk 1 15 (h := ⟨_, tv, ?_⟩)
       simp only [pE, List.set]
       refine tk 2 16 (h := ⟨_, tv, ?_⟩)
       simp only [pE, List.set]
       refine tk 3 17 (h := ⟨_, tv, ?_⟩)
       simp only [pE, List.set]
       refine tk 4 18 (h := ⟨_, tv, ?_⟩)
       simp only [pE, List.set]
       refine tu 5 19 (h := ?_)
       simp only [pE, List.set]
       refine tu 6 20 (h := ?_)
       simp only [pE, List.set]
       refine tu 7 21 (h := ?_)
       simp only [pE, List.set]
       refine tu 8 22 (h := ?_)
       simp only [pE, List.set]
       refine tu 9 23 (h := ?_)
       simp only [pE, List.set]
       refine tu 10 24 (h := ?_)
       simp only [pE, List.set]
       refine tu 11 25 (h := ?_)
       simp only [pE, List.set]
       refine tu 12 26 (h := ?_)
       simp only [pE, List.set]
       refine tu 13 27 (h := ?_)
       simp only [pE, List.set]
       refine tu 14 28 (h := ?_)
       simp only [pE, List.set]
       refine tu 15 29 (h := ?_)
       simp only [pE, List.set]
       refine tu 16 30 (h := ?_)
       simp only [pE, List.set]
       refine tu 17 31 (h := ?_)
       simp only [pE, List.set]
       refine tu 18 32 (h := ?_)
       simp only [pE, List.set]
       refine tu 19 33 (h := ?_)
       simp only [pE, List.set]
       refine tu 20 34 (h := ?_)
       simp only [pE, List.set]
       refine tk 21 35 (h := ⟨_, tv, ?_⟩)
       simp only [pE, List.set]
       refine wpAnyH_done (by kernel_rfl) ?_ _
       go_wp2_with fail
       (refine wp_named ?_; intro wv hwv)
       have hbrv : Below wr.heap.size wr wv := by rw [hwv]; exact (Below.refl _ _).drew
       have hblv : Below w.heap.size w wv := Bel.step hblr hbrv
       have HRIv := Lib.hid (HRI.out.below hbrv)
       clear hwv
       refine wp_region_held_drew (S := fun _ => True) (by kernel_rfl) trivial (fun _ => ?_)
       obtain ⟨w1, hw1⟩ : ∃ w1, w1 = wv.drew := ⟨_, rfl⟩
       rw [← hw1]
       have hbr1 : Below wv.heap.size wv w1 := by rw [hw1]; exact (Below.refl _ _).drew
       have hbw1 : Below w.heap.size w w1 := Bel.step hblv hbr1
       clear hw1
       have H1 := Lib.hid ((HRIv.out.below hbr1).take hki)
       have H2 := Lib.hid ((HRIv.out.below hbr1).cut (m := k) (r := i - k) hki rfl hcap)
       have E0 := Lib.hid (show ∀ W : World, w1.heap.size ≤ W.heap.size → Own (W.alloc (.cells #[] 3)) w1.heap.size 3 1 (some ⟨W.heap.size, 0, none⟩) 0 0 [] from fun W hW => lit0 hW)
       refine tk 1 39 (h := ⟨_, tv, ?_⟩)
       simp only [pE, List.set]
       refine tk 2 40 (h := ⟨_, tv, ?_⟩)
       simp only [pE, List.set]
       refine tk 3 41 (h := ⟨_, tv, ?_⟩)
       simp only [pE, List.set]
       refine tk 5 43 (h := ⟨_, tv, ?_⟩)
       simp only [pE, List.set]
       refine tk 8 46 (h := ⟨_, tv, ?_⟩)
       simp only [pE, List.set]
       refine tk 9 47 (h := ⟨_, tv, ?_⟩)
       simp only [pE, List.set]
       refine tk 10 48 (h := ⟨_, tv, ?_⟩)
       simp only [pE, List.set]
       refine wpAnyH_ready (rs := [0, 6]) (by kernel_rfl) (by simp) ?_
       refine AllReadyH.cons (o := _) rfl (fun K hK => ?_) (AllReadyH.cons (o := _) rfl (fun K hK => ?_) AllReadyH.nil)
       · go_simp
         obtain ⟨W, hW⟩ : ∃ W, W = w1.alloc (.cells #[] 3) := ⟨_, rfl⟩
         have hO : Own W w1.heap.size 3 1 (some ⟨w1.heap.size, 0, none⟩) 0 0 [] := by rw [hW]; exact E0.out w1 (Nat.le_refl _)
         have hbW : Below w1.heap.size w1 W := by rw [hW]; exact bELt
         rw [← hW]
         refine hK.out _ _ trivial (fun _ => ?_)
         clear hK K hW
         refine wpAnyH_ready (rs := [4, 6]) (by kernel_rfl) (by simp) ?_
         refine AllReadyH.cons (o := _) rfl (fun K hK => ?_) (AllReadyH.cons (o := _) rfl (fun K hK => ?_) AllReadyH.nil)
         ·
          with_reducible refine step_app' (some 42) rfl rfl (.tmp 38) (.tmp 41) 27 rfl 3 _ 1 8 infoInt Tryz.underlying27 rfl (by omega) rfl rfl hO (H1.out.below hbW).rdsI (icells_one _) (by omega) (by omega) hbW.size ?_
          intro A1 c1 w5 hown5 hg5 hat5
          have hb5 : Below w1.heap.size w1 w5 := Bel.grownOwn hbW hg5 hO hbW.size
          refine hK.out _ _ trivial (fun _ => ?_)
          clear hK K
          simp only [Act.put, List.setIfInBounds_toArray, List.set_cons_zero, List.set_cons_succ, Nat.zero_add]
          rw [Nat.zero_add] at hown5
          refine wpAnyH_ready (rs := [6]) (by kernel_rfl) (by simp) ?_
          refine AllReadyH.cons (o := _) rfl (fun K hK => ?_) AllReadyH.nil
          go_simp
          obtain ⟨W2, hW2⟩ : ∃ W2, W2 = w5.alloc (.cells #[.int .i64 i] 3) := ⟨_, rfl⟩
          have hbW2 : Below w1.heap.size w1 W2 := by rw [hW2]; exact hb5.alloc hb5.size _
          have hri : Rds W2 1 (some ⟨w5.heap.size, 0, none⟩) 1 (icells [(i : Int)]) := by rw [hW2]; exact (Blk.new w5 3 #[.int .i64 i]).rds rfl
          have hown7 : Own W2 w1.heap.size 3 1 A1 k c1 ([] ++ icells (o.take k)) := by rw [hW2]; exact hown5.alloc _
          rw [← hW2]
          refine hK.out _ _ trivial (fun _ => ?_)
          clear hK K hW2
          refine wpAnyH_ready (rs := [7]) (by kernel_rfl) (by simp) ?_
          refine AllReadyH.cons (o := _) rfl (fun K hK => ?_) AllReadyH.nil
          with_reducible refine step_app' (some 45) rfl rfl (.tmp 42) (.tmp 44) 27 rfl 3 _ 1 8 infoInt Tryz.underlying27 rfl (by omega) rfl rfl hown7 hri (icells_one [(i : Int)]) (by omega) (by omega) hbW2.size ?_
          intro A2 c2 w6 hown6 hg6 hat6
          have hb6 : Below w1.heap.size w1 w6 := Bel.grownOwn hbW2 hg6 hown7 hbW2.size
          refine hK.out _ _ trivial (fun _ => ?_)
          clear hK K
          simp only [Act.put, List.setIfInBounds_toArray, List.set_cons_zero, List.set_cons_succ]
          refine wpAnyH_ready (rs := [11]) (by kernel_rfl) (by simp) ?_
          refine AllReadyH.cons (o := _) rfl (fun K hK => ?_) AllReadyH.nil
          with_reducible refine step_app' (some 49) rfl rfl (.tmp 45) (.tmp 48) 27 rfl 3 _ 1 8 infoInt Tryz.underlying27 rfl (by omega) rfl rfl hown6 (H2.out.below hb6).rdsI (icells_one _) (by omega) (by omega) hb6.size ?_
          intro A3 c3 w8 hown8 hg8 hat8
          have hb8 : Below w1.heap.size w1 w8 := Bel.grownOwn hb6 hg8 hown6 hb6.size
          have HO8 := Lib.hid (show Own w8 w.heap.size 3 1 A3 (k + 1 + (i - k)) c3 (icells (o.take k ++ [(i : Int)] ++ o.drop k)) from by
           have := hown8.mono hbw1.size
           rw [icells_app, icells_app]
           exact this)
          refine hK.out _ _ trivial (fun _ => ?_)
          clear hK K
          simp only [Act.put, List.setIfInBounds_toArray, List.set_cons_zero, List.set_cons_succ]
          refine tk 12 5 (h := ⟨_, tv, ?_⟩)
          simp only [pE, List.set]
          refine wpAnyH_done (by kernel_rfl) ?_ _
          have hbw8 : Below w.heap.size w w8 := Bel.step hbw1 hb8
          clear hown5 hown6 hown7 hown8 hg5 hg6 hg8 hri
          go_wp2_with fail
          go_roundw
          case rel => exact ⟨i + 1, k + 1 + (i - k), A3, c3, _, by omega, by go_num, rfl, by omega, HO8.out, HFIN.out, hbw8⟩
          case measure => simp [intOf]; omega
         · go_simp
           obtain ⟨W2, hW2⟩ : ∃ W2, W2 = W.alloc (.cells #[.int .i64 i] 3) := ⟨_, rfl⟩
           have hbW' : Below w1.heap.size w1 W2 := by rw [hW2]; exact hbW.alloc hbW.size _
           have hO' : Own W2 w1.heap.size 3 1 (some ⟨w1.heap.size, 0, none⟩) 0 0 [] := by rw [hW2]; exact hO.alloc _
           have hBI : Blk W2 W.heap.size 3 #[.int .i64 i] := by rw [hW2]; exact Blk.new W 3 #[.int .i64 i]
           have hltW := hO.lt w1.heap.size rfl
           rw [← hW2]
           refine hK.out _ _ trivial (fun _ => ?_)
           clear hK K hW2 hO hbW
           have hO := hO'
           have hbW := hbW'
           clear hO' hbW'
           refine wpAnyH_ready (rs := [4]) (by kernel_rfl) (by simp) ?_
           refine AllReadyH.cons (o := _) rfl (fun K hK => ?_) AllReadyH.nil
           with_reducible refine step_app' (some 42) rfl rfl (.tmp 38) (.tmp 41) 27 rfl 3 _ 1 8 infoInt Tryz.underlying27 rfl (by omega) rfl rfl hO (H1.out.below hbW).rdsI (icells_one _) (by omega) (by omega) hbW.size ?_
           intro A1 c1 w5 hown5 hg5 hat5
           have hb5 : Below w1.heap.size w1 w5 := Bel.grownOwn hbW hg5 hO hbW.size
           refine hK.out _ _ trivial (fun _ => ?_)
           clear hK K
           simp only [Act.put, List.setIfInBounds_toArray, List.set_cons_zero, List.set_cons_succ, Nat.zero_add]
           rw [Nat.zero_add] at hown5
           have hri : Rds w5 1 (some ⟨W.heap.size, 0, none⟩) 1 (icells [(i : Int)]) := (hBI.grown hg5 (blk_ne (by omega))).rds rfl
           have hbW2 := hb5
           have hown7 := hown5
           refine wpAnyH_ready (rs := [7]) (by kernel_rfl) (by simp) ?_
           refine AllReadyH.cons (o := _) rfl (fun K hK => ?_) AllReadyH.nil
           with_reducible refine step_app' (some 45) rfl rfl (.tmp 42) (.tmp 44) 27 rfl 3 _ 1 8 infoInt Tryz.underlying27 rfl (by omega) rfl rfl hown7 hri (icells_one [(i : Int)]) (by omega) (by omega) hbW2.size ?_
           intro A2 c2 w6 hown6 hg6 hat6
           have hb6 : Below w1.heap.size w1 w6 := Bel.grownOwn hbW2 hg6 hown7 hbW2.size
           refine hK.out _ _ trivial (fun _ => ?_)
           clear hK K
           simp only [Act.put, List.setIfInBounds_toArray, List.set_cons_zero, List.set_cons_succ]
           refine wpAnyH_ready (rs := [11]) (by kernel_rfl) (by simp) ?_
           refine AllReadyH.cons (o := _) rfl (fun K hK => ?_) AllReadyH.nil
           with_reducible refine step_app' (some 49) rfl rfl (.tmp 45) (.tmp 48) 27 rfl 3 _ 1 8 infoInt Tryz.underlying27 rfl (by omega) rfl rfl hown6 (H2.out.below hb6).rdsI (icells_one _) (by omega) (by omega) hb6.size ?_
           intro A3 c3 w8 hown8 hg8 hat8
           have hb8 : Below w1.heap.size w1 w8 := Bel.grownOwn hb6 hg8 hown6 hb6.size
           have HO8 := Lib.hid (show Own w8 w.heap.size 3 1 A3 (k + 1 + (i - k)) c3 (icells (o.take k ++ [(i : Int)] ++ o.drop k)) from by
            have := hown8.mono hbw1.size
            rw [icells_app, icells_app]
            exact this)
           refine hK.out _ _ trivial (fun _ => ?_)
           clear hK K
           simp only [Act.put, List.setIfInBounds_toArray, List.set_cons_zero, List.set_cons_succ]
           refine tk 12 5 (h := ⟨_, tv, ?_⟩)
           simp only [pE, List.set]
           refine wpAnyH_done (by kernel_rfl) ?_ _
           have hbw8 : Below w.heap.size w w8 := Bel.step hbw1 hb8
           clear hown5 hown6 hown7 hown8 hg5 hg6 hg8 hri
           go_wp2_with fail
           go_roundw
           case rel => exact ⟨i + 1, k + 1 + (i - k), A3, c3, _, by omega, by go_num, rfl, by omega, HO8.out, HFIN.out, hbw8⟩
           case measure => simp [intOf]; omega
       · go_simp
         obtain ⟨W, hW⟩ : ∃ W, W = w1.alloc (.cells #[.int .i64 i] 3) := ⟨_, rfl⟩
         have hbW' : Below w1.heap.size w1 W := by rw [hW]; exact bELt
         have hBI' : Blk W w1.heap.size 3 #[.int .i64 i] := by rw [hW]; exact Blk.new w1 3 #[.int .i64 i]
         have hltW := hBI'.lt
         rw [← hW]
         refine hK.out _ _ trivial (fun _ => ?_)
         clear hK K hW
         refine wpAnyH_ready (rs := [0]) (by kernel_rfl) (by simp) ?_
         refine AllReadyH.cons (o := _) rfl (fun K hK => ?_) AllReadyH.nil
         go_simp
         obtain ⟨W2, hW2⟩ : ∃ W2, W2 = W.alloc (.cells #[] 3) := ⟨_, rfl⟩
         have hO : Own W2 w1.heap.size 3 1 (some ⟨W.heap.size, 0, none⟩) 0 0 [] := by rw [hW2]; exact E0.out W hbW'.size
         have hbW : Below w1.heap.size w1 W2 := by rw [hW2]; exact hbW'.alloc hbW'.size _
         have hBI : Blk W2 w1.heap.size 3 #[.int .i64 i] := by rw [hW2]; exact hBI'.alloc _
         rw [← hW2]
         refine hK.out _ _ trivial (fun _ => ?_)
         clear hK K hW2 hbW'
         refine wpAnyH_ready (rs := [4]) (by kernel_rfl) (by simp) ?_
         refine AllReadyH.cons (o := _) rfl (fun K hK => ?_) AllReadyH.nil
         with_reducible refine step_app' (some 42) rfl rfl (.tmp 38) (.tmp 41) 27 rfl 3 _ 1 8 infoInt Tryz.underlying27 rfl (by omega) rfl rfl hO (H1.out.below hbW).rdsI (icells_one _) (by omega) (by omega) hbW.size ?_
         intro A1 c1 w5 hown5 hg5 hat5
         have hb5 : Below w1.heap.size w1 w5 := Bel.grownOwn hbW hg5 hO hbW.size
         refine hK.out _ _ trivial (fun _ => ?_)
         clear hK K
         simp only [Act.put, List.setIfInBounds_toArray, List.set_cons_zero, List.set_cons_succ, Nat.zero_add]
         rw [Nat.zero_add] at hown5
         have hri : Rds w5 1 (some ⟨w1.heap.size, 0, none⟩) 1 (icells [(i : Int)]) := (hBI.grown hg5 (blk_ne (by omega))).rds rfl
         have hbW2 := hb5
         have hown7 := hown5
         refine wpAnyH_ready (rs := [7]) (by kernel_rfl) (by simp) ?_
         refine AllReadyH.cons (o := _) rfl (fun K hK => ?_) AllReadyH.nil
         with_reducible refine step_app' (some 45) rfl rfl (.tmp 42) (.tmp 44) 27 rfl 3 _ 1 8 infoInt Tryz.underlying27 rfl (by omega) rfl rfl hown7 hri (icells_one [(i : Int)]) (by omega) (by omega) hbW2.size ?_
         intro A2 c2 w6 hown6 hg6 hat6
         have hb6 : Below w1.heap.size w1 w6 := Bel.grownOwn hbW2 hg6 hown7 hbW2.size
         refine hK.out _ _ trivial (fun _ => ?_)
         clear hK K
         simp only [Act.put, List.setIfInBounds_toArray, List.set_cons_zero, List.set_cons_succ]
         refine wpAnyH_ready (rs := [11]) (by kernel_rfl) (by simp) ?_
         refine AllReadyH.cons (o := _) rfl (fun K hK => ?_) AllReadyH.nil
         with_reducible refine step_app' (some 49) rfl rfl (.tmp 45) (.tmp 48) 27 rfl 3 _ 1 8 infoInt Tryz.underlying27 rfl (by omega) rfl rfl hown6 (H2.out.below hb6).rdsI (icells_one _) (by omega) (by omega) hb6.size ?_
         intro A3 c3 w8 hown8 hg8 hat8
         have hb8 : Below w1.heap.size w1 w8 := Bel.grownOwn hb6 hg8 hown6 hb6.size
         have HO8 := Lib.hid (show Own w8 w.heap.size 3 1 A3 (k + 1 + (i - k)) c3 (icells (o.take k ++ [(i : Int)] ++ o.drop k)) from by
          have := hown8.mono hbw1.size
          rw [icells_app, icells_app]
          exact this)
         refine hK.out _ _ trivial (fun _ => ?_)
         clear hK K
         simp only [Act.put, List.setIfInBounds_toArray, List.set_cons_zero, List.set_cons_succ]
         refine tk 12 5 (h := ⟨_, tv, ?_⟩)
         simp only [pE, List.set]
         refine wpAnyH_done (by kernel_rfl) ?_ _
         have hbw8 : Below w.heap.size w w8 := Bel.step hbw1 hb8
         clear hown5 hown6 hown7 hown8 hg5 hg6 hg8 hri
         go_wp2_with fail
         go_roundw
         case rel => exact ⟨i + 1, k + 1 + (i - k), A3, c3, _, by omega, by go_num, rfl, by omega, HO8.out, HFIN.out, hbw8⟩
         case measure => simp [intOf]; omega
  · obtain rfl : i = n := by omega
    have hrd := Lib.hid (hown.rds.rdI)
    have HORD := Lib.hid (order_eq (l := l) (d := d) (o := o) (by rw [HL.out]; exact hord))
    clear hown hord
    go_wp2_with fail
    go_ret
    exact ⟨_, _, rfl, by rw [HORD.out]; exact hrd.out, hcap, hbl⟩
end Go.Proofs.YtpffhoefmcpniaaGreatDoor
