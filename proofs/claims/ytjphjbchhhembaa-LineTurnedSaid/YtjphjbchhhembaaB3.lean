/- LineTurned's walk. -/
import Derived.Test.YtjphjbchhhembaaA8
import Derived.Test.YtjphjbchhhembaaPl3
namespace Go.Proofs.Ytjphjbchhhembaa
open Go.RowKit

attribute [local go_sem ↓] Go.wp_at_zero Go.wp_at_succ

theorem swap_next {l : List (Int × Int)} {k : Nat} {x y : Int} (h : l[k]? = some (x, y)) : pcells ((swapP l).take (k + 1)) = pcells ((swapP l).take k) ++ [.int .i64 y, .int .i64 x] := by
  rw [take_next (x := (y, x)) (by simp [swapP, h]), pcells_app]; rfl
theorem neg_next {l : List (Int × Int)} {k : Nat} {x y : Int} (h : l[k]? = some (x, y)) : pcells ((negP l).take (k + 1)) = pcells ((negP l).take k) ++ [.int .i64 (0 - x), .int .i64 (0 - y)] := by
  rw [take_next (x := (0 - x, 0 - y)) (by simp [negP, h]), pcells_app]; rfl

set_option maxHeartbeats 4000000 in
set_option maxRecDepth 100000 in
theorem lineTurned_walk (A : Option Addr) (n c : Nat) (l : List (Int × Int)) (w : World) (h : RdP w A n l) (hn : n ≤ 4000000000000000000) :
    Calls Try.prog 5 #[.slice A n c] w fun e w' => e = .returned (.bool true) ∧ Below w.heap.size w w' := by
  cases hnr : nearB l
  · have hcon : ∀ W, Below w.heap.size w W → Calls Try.prog 7 #[.slice A n c] W fun e w' => e = .returned (.bool false) ∧ W = w' := fun W hb => by
      have := near_any A n c l W (h.below hb) hn
      rw [hnr] at this; exact this
    have HC := Lib.hid hcon; clear hcon
    have HN := Lib.hid hnr; clear hnr
    go_enter Try.func5, Try.ntmps5
    go_wp2_with fail
    with_reducible refine (known10_any _).mono ?_
    rintro e w1 ⟨rfl, b1⟩
    go_wp2_with fail
    with_reducible refine (HC.out _ b1).mono ?_
    rintro e w' ⟨rfl, rfl⟩
    go_wp2_with fail
    go_ret
    exact ⟨rfl, b1⟩
  · have hcon : ∀ W, Below w.heap.size w W → Calls Try.prog 7 #[.slice A n c] W fun e w' => e = .returned (.bool true) ∧ W = w' := fun W hb => by
      have := near_any A n c l W (h.below hb) hn
      rw [hnr] at this; exact this
    have HC := Lib.hid hcon; clear hcon
    have hlen : l.length = n := h.1
    have hn2 : n ≤ 120 := by
      unfold nearB at hnr
      simp only [Bool.and_eq_true, decide_eq_true_eq] at hnr
      omega
    have hbd : ∀ p ∈ l, -1048576 ≤ p.1 ∧ p.1 ≤ 1048576 ∧ -1048576 ≤ p.2 ∧ p.2 ≤ 1048576 := by
      intro p hp
      unfold nearB at hnr
      simp only [Bool.and_eq_true, List.all_eq_true] at hnr
      have := hnr.1 p hp
      simp [near1, coordB] at this
      omega
    have HB := Lib.hid hbd; clear hbd
    have HL := Lib.hid hlen; clear hlen hnr
    go_enter Try.func5, Try.ntmps5
    go_wp2_with fail
    with_reducible refine (known10_any _).mono ?_
    rintro e w1 ⟨rfl, b1⟩
    go_wp2_with fail
    with_reducible refine (HC.out _ b1).mono ?_
    rintro e w' ⟨rfl, rfl⟩
    have h1 := h.below b1
    clear h HC
    go_wp2_with fail
    go_loopw [3, 4, 5] (fun u v i W => ∃ (k : Nat) (A3 : Option Addr) (c3 : Nat) (A4 : Option Addr) (c4 : Nat), k ≤ n ∧ i = .int .i64 k ∧ u = .slice A3 k c3 ∧ v = .slice A4 k c4 ∧ Own W w1.heap.size 30 2 A3 k c3 (pcells ((swapP l).take k)) ∧
        Own W w1.heap.size 30 2 A4 k c4 (pcells ((negP l).take k)) ∧ Dj A3 A4 ∧ Below w1.heap.size w1 W) (fun _ _ i _ => n - (intOf i).toNat)
    case atStart => exact ⟨0, none, 0, none, 0, Nat.zero_le _, rfl, rfl, rfl, Own.nil _ _ _ _, Own.nil _ _ _ _, .inl rfl, Below.refl _ _⟩
    case round =>
      obtain ⟨k, A3, c3, A4, c4, hk, rfl, rfl, rfl, hown, hown', hdj, hbl⟩ := hrel
      by_cases hlt : k < n
      · obtain ⟨pb, po, x, y, rfl, hx, hcx, hcy⟩ := h1.at_ hlt
        have hxb := HB.out _ (List.mem_of_getElem? hx)
        have HS := Lib.hid (swap_next hx)
        have HG := Lib.hid (neg_next hx)
        clear hx
        have hz := hbl.size
        have i1 : (0 : Int) ≤ (k : Int) := by omega
        have i2 : (k : Int) < (n : Int) := by omega
        go_wp2
        (refine wp_named ?_; intro W hW)
        have hbW : Below w1.heap.size w1 W := by rw [hW]; exact (by repeat (first | exact Below.refl _ _ | assumption | apply Below.drew | apply below_drewN | apply Bel.alloc | (refine Bel.setCell_ ?_ ?_; rotate_left; omega) | (refine Bel.step ?_ (by assumption))))
        have o3 : Own W w1.heap.size 30 2 A3 k c3 (pcells ((swapP l).take k)) := by rw [hW]; exact (by repeat (first | assumption | apply Own.drewN | apply Own.drew | apply Own.alloc))
        have o4 : Own W w1.heap.size 30 2 A4 k c4 (pcells ((negP l).take k)) := by rw [hW]; exact (by repeat (first | assumption | apply Own.drewN | apply Own.drew | apply Own.alloc))
        have hzW := hbW.size
        have j3 : W.cell? ⟨pb, po + k * 2, none⟩ = some (.int .i64 x) := Below.cellOf hbW (Nat.le_refl _) hcx
        have j4 : W.cell? ⟨pb, po + k * 2 + 1, none⟩ = some (.int .i64 y) := Below.cellOf hbW (Nat.le_refl _) hcy
        clear hW hown hown' hbl hz
        go_region_held3 (fun V => V.cell? ⟨pb, po + k * 2, none⟩ = some (.int .i64 x) ∧ V.cell? ⟨pb, po + k * 2 + 1, none⟩ = some (.int .i64 y))
          (exact have hb : Below w1.heap.size w1 _ := (by repeat (first | exact Below.refl _ _ | assumption | apply Below.drew | apply below_drewN | apply Bel.alloc | (refine Bel.setCell_ ?_ ?_; rotate_left; omega) | (refine Bel.step ?_ (by assumption)))); ⟨Below.cellOf hb (Nat.le_refl _) hcx, Below.cellOf hb (Nat.le_refl _) hcy⟩)
          (first
            | (with_reducible refine step_app rfl (.tmp 21) (.tmp 33) 22 rfl 30 _ 2 16 Try.infoP Try.underlying22 rfl (by omega) rfl rfl (show Own _ w1.heap.size 30 2 A3 k c3 _ from (by repeat (first | assumption | apply Own.drewN | apply Own.drew | apply Own.alloc))) ((show Blk _ _ 30 #[.int .i64 y, .int .i64 x] from (by repeat (first | assumption | (refine Blk.new' _ _ _ ?_; first | with_unfolding_all rfl | (simp; done)) | apply Blk.drewN | apply Blk.drew | apply Blk.alloc | (refine Blk.far_ ?_ ?_ _; rotate_left; omega)))).rds rfl) (by simp [Value.oneCell']) (by omega) (by omega) (by simp; omega) ?_
               intro A5 c5 w5 o5 hg5 hat5
               have hb5 : Below w1.heap.size w1 w5 := Bel.grownOwn (B := w1.heap.size) (by repeat (first | exact Below.refl _ _ | assumption | apply Below.drew | apply below_drewN | apply Bel.alloc | (refine Bel.setCell_ ?_ ?_; rotate_left; omega) | (refine Bel.step ?_ (by assumption)))) hg5 (show Own _ w1.heap.size 30 2 A3 k c3 _ from (by repeat (first | assumption | apply Own.drewN | apply Own.drew | apply Own.alloc))) (by simp; omega)
               have o54 : Own w5 w1.heap.size 30 2 A4 k c4 (pcells ((negP l).take k)) := Own.far (show Own _ w1.heap.size 30 2 A4 k c4 _ from (by repeat (first | assumption | apply Own.drewN | apply Own.drew | apply Own.alloc))) hg5 hdj.far
               have hdj5 : Dj A5 A4 := Dj.next hdj (show Own _ w1.heap.size 30 2 A4 k c4 _ from (by repeat (first | assumption | apply Own.drewN | apply Own.drew | apply Own.alloc))) hat5))
        clear j3 j4 o3 o4 hzW hg5
        go_wp2
        (refine wp_named ?_; intro V hV)
        have hbV : Below w1.heap.size w1 V := by rw [hV]; exact (by repeat (first | exact Below.refl _ _ | assumption | apply Below.drew | apply below_drewN | apply Bel.alloc | (refine Bel.setCell_ ?_ ?_; rotate_left; omega) | (refine Bel.step ?_ (by assumption))))
        have o3 : Own V w1.heap.size 30 2 A5 (k + 1) c5 (pcells ((swapP l).take k) ++ [.int .i64 y, .int .i64 x]) := by rw [hV]; exact (by repeat (first | assumption | apply Own.drewN | apply Own.drew | apply Own.alloc))
        have o4 : Own V w1.heap.size 30 2 A4 k c4 (pcells ((negP l).take k)) := by rw [hV]; exact (by repeat (first | assumption | apply Own.drewN | apply Own.drew | apply Own.alloc))
        have hzV := hbV.size
        have j3 : V.cell? ⟨pb, po + k * 2, none⟩ = some (.int .i64 x) := Below.cellOf hbV (Nat.le_refl _) hcx
        have j4 : V.cell? ⟨pb, po + k * 2 + 1, none⟩ = some (.int .i64 y) := Below.cellOf hbV (Nat.le_refl _) hcy
        have j5 : IntKind.i64.wrap (0 - x) = 0 - x := IntWalk.i64_in _ (by omega)
        have j6 : IntKind.i64.wrap (0 - y) = 0 - y := IntWalk.i64_in _ (by omega)
        have j7 : IntKind.i64.wrap (-x) = -x := IntWalk.i64_in _ (by omega)
        have j8 : IntKind.i64.wrap (-y) = -y := IntWalk.i64_in _ (by omega)
        clear hV o5 o54 hbW hb5 hat5
        go_region_held3 (fun V => V.cell? ⟨pb, po + k * 2, none⟩ = some (.int .i64 x) ∧ V.cell? ⟨pb, po + k * 2 + 1, none⟩ = some (.int .i64 y))
          (exact have hb : Below w1.heap.size w1 _ := (by repeat (first | exact Below.refl _ _ | assumption | apply Below.drew | apply below_drewN | apply Bel.alloc | (refine Bel.setCell_ ?_ ?_; rotate_left; omega) | (refine Bel.step ?_ (by assumption)))); ⟨Below.cellOf hb (Nat.le_refl _) hcx, Below.cellOf hb (Nat.le_refl _) hcy⟩)
          (first
            | (with_reducible refine step_app rfl (.tmp 35) (.tmp 49) 22 rfl 30 _ 2 16 Try.infoP Try.underlying22 rfl (by omega) rfl rfl (show Own _ w1.heap.size 30 2 A4 k c4 _ from (by repeat (first | assumption | apply Own.drewN | apply Own.drew | apply Own.alloc))) ((show Blk _ _ 30 #[.int .i64 (-x), .int .i64 (-y)] from (by repeat (first | assumption | (refine Blk.new' _ _ _ ?_; first | with_unfolding_all rfl | (simp; done)) | apply Blk.drewN | apply Blk.drew | apply Blk.alloc | (refine Blk.far_ ?_ ?_ _; rotate_left; omega)))).rds rfl) (by simp [Value.oneCell']) (by omega) (by omega) (by simp; omega) ?_
               intro A6 c6 w6 o6 hg6 hat6
               have hb6 : Below w1.heap.size w1 w6 := Bel.grownOwn (B := w1.heap.size) (by repeat (first | exact Below.refl _ _ | assumption | apply Below.drew | apply below_drewN | apply Bel.alloc | (refine Bel.setCell_ ?_ ?_; rotate_left; omega) | (refine Bel.step ?_ (by assumption)))) hg6 (show Own _ w1.heap.size 30 2 A4 k c4 _ from (by repeat (first | assumption | apply Own.drewN | apply Own.drew | apply Own.alloc))) (by simp; omega)
               have o63 : Own w6 w1.heap.size 30 2 A5 (k + 1) c5 _ := Own.far (show Own _ w1.heap.size 30 2 A5 (k + 1) c5 _ from (by repeat (first | assumption | apply Own.drewN | apply Own.drew | apply Own.alloc))) hg6 hdj5.symm.far
               have hdj6 : Dj A5 A6 := Dj.symm (Dj.next hdj5.symm (show Own _ w1.heap.size 30 2 A5 (k + 1) c5 _ from (by repeat (first | assumption | apply Own.drewN | apply Own.drew | apply Own.alloc))) hat6)))
        go_wp2
        go_roundw
        case rel => exact ⟨k + 1, A5, c5, A6, c6, by omega, by go_num, rfl, rfl, by rw [HS.out]; exact o63, by rw [HG.out]; simpa using o6, hdj6, hb6⟩
        case measure => simp [intOf]; omega
      · obtain rfl : k = n := by omega
        have e1 : (swapP l).take k = swapP l := List.take_of_length_le (by simp [swapP, HL.out])
        have e2 : (negP l).take k = negP l := List.take_of_length_le (by simp [negP, HL.out])
        rw [e1] at hown
        rw [e2] at hown'
        have hsw : RdP wr A3 k (swapP l) := (Own.rds hown).rdP
        have hng : RdP wr A4 k (negP l) := (Own.rds hown').rdP
        have hpt := h1.below hbl
        have HBS : ∀ p ∈ swapP l, -1000000000000 ≤ p.1 ∧ p.1 ≤ 1000000000000 ∧ -1000000000000 ≤ p.2 ∧ p.2 ≤ 1000000000000 := by
          intro p hp
          obtain ⟨q, hq, rfl⟩ := List.mem_map.1 hp
          have := HB.out q hq
          simp only
          omega
        have HBN : ∀ p ∈ negP l, -1048576 ≤ p.1 ∧ p.1 ≤ 1048576 ∧ -1048576 ≤ p.2 ∧ p.2 ≤ 1048576 := by
          intro p hp
          obtain ⟨q, hq, rfl⟩ := List.mem_map.1 hp
          have := HB.out q hq
          simp only
          omega
        have HBS' := Lib.hid HBS; clear HBS
        have HBN' := Lib.hid HBN; clear HBN
        have hb0 : Below w.heap.size w wr := Bel.step b1 hbl
        clear e1 e2 hown hown' hdj hbl b1 h1
        go_wp2_with fail
        obtain ⟨wa, rfl⟩ : ∃ wo : World, wo = wr := ⟨_, rfl⟩
        go_loopw [6] (fun dv W => ∃ d : Nat, d ≤ 4 ∧ dv = .int .i64 d ∧ Below wa.heap.size wa W) (fun dv _ => 4 - (intOf dv).toNat)
        case atStart => exact ⟨0, by omega, rfl, Below.refl _ _⟩
        case round =>
          obtain ⟨d, hd, rfl, hbl⟩ := hrel
          by_cases hd4 : d < 4
          · go_wp2_with fail
            with_reducible refine (order_any _ k _ l d _ (hpt.below hbl) (by omega) (by omega) (by omega) (fun p hp => by have := HB.out p hp; omega)).mono ?_
            rintro e w2 ⟨A5, rfl, ha, b2⟩
            go_wp2_with fail
            with_reducible refine (order_any _ k _ (negP l) d _ ((hng.below hbl).below b2) (by omega) (by omega) (by omega) (fun p hp => by have := HBN'.out p hp; omega)).mono ?_
            rintro e w3 ⟨A6, rfl, hb, b3⟩
            have ha3 := ha.below b3
            have hb03 : Below wa.heap.size wa w3 := (by repeat (first | exact Below.refl _ _ | assumption | apply Below.drew | apply below_drewN | apply Bel.alloc | (refine Bel.setCell_ ?_ ?_; rotate_left; omega) | (refine Bel.step ?_ (by assumption))))
            have hp3 := hpt.below hb03
            have hn3 := hng.below hb03
            clear ha b2 b3 hbl
            obtain ⟨a, hae⟩ : ∃ a, a = order l d := ⟨_, rfl⟩
            obtain ⟨b, hbe⟩ : ∃ b, b = order (negP l) d := ⟨_, rfl⟩
            rw [← hae] at ha3
            rw [← hbe] at hb
            have HA := Lib.hid hae; clear hae
            have HBB := Lib.hid hbe; clear hbe
            go_wp2_with fail
            go_loopw [9] (fun iv V => ∃ i : Nat, i ≤ k ∧ iv = .int .i64 i ∧ Below w3.heap.size w3 V) (fun iv _ => k - (intOf iv).toNat)
            case atStart => exact ⟨0, Nat.zero_le _, rfl, Below.refl _ _⟩
            case round =>
              obtain ⟨i, hi, rfl, hbl⟩ := hrel
              by_cases hik : i < k
              · obtain ⟨ab, ao, u, rfl, hu, hcu⟩ := (ha3.below hbl).at_ hik
                obtain ⟨bb, bo, v, rfl, hv, hcv⟩ := (hb.below hbl).at_ (i := k - 1 - i) (by omega)
                have hum : 0 ≤ u ∧ u < k := by
                  have := order_mem (l := l) (d := d) (x := u) (by rw [← HA.out]; exact List.mem_of_getElem? hu)
                  have := HL.out
                  omega
                have hvm : 0 ≤ v ∧ v < k := by
                  have := order_mem (l := negP l) (d := d) (x := v) (by rw [← HBB.out]; exact List.mem_of_getElem? hv)
                  have h2 : (negP l).length = k := by simp [negP, HL.out]
                  omega
                obtain ⟨un, rfl⟩ : ∃ un : Nat, u = un := ⟨u.toNat, by omega⟩
                obtain ⟨vn, rfl⟩ : ∃ vn : Nat, v = vn := ⟨v.toNat, by omega⟩
                obtain ⟨pb, po, px, py, rfl, hp, hcx, hcy⟩ := (hp3.below hbl).at_ (i := un) (by omega)
                obtain ⟨qb, qo, qx, qy, rfl, hq, hdx, hdy⟩ := (hn3.below hbl).at_ (i := vn) (by omega)
                have hpxb := HB.out _ (List.mem_of_getElem? hp)
                have hqxb := HBN'.out _ (List.mem_of_getElem? hq)
                have hkm : key (px, py) d = 0 - key (qx, qy) d := keys_mirror (l := l) (i := i) (u := un) (v := vn) (by omega) (by omega) (by rw [HL.out]; exact hik) (by rw [← HA.out]; exact hu) (by rw [← HBB.out, HL.out]; exact hv) hp hq
                have hkb := key_bd (d := d) (by omega) (by omega) hqxb.1 hqxb.2.1 hqxb.2.2.1 hqxb.2.2.2
                have HKA : ∀ W, Calls Try.prog 10 #[.agg #[.int .i64 px, .int .i64 py], .int .i64 d] W fun e w' => e = .returned (.int .i64 (-(key (qx, qy) d))) ∧ ∃ q, w' = (W.alloc (.cells #[.int .i64 px, .int .i64 py] 30)).drewN q := fun W => by
                  have := key_any px py d W (by omega) (by omega) (by omega) (by omega) (by omega) (by omega)
                  rw [hkm, show (0 : Int) - key (qx, qy) d = -(key (qx, qy) d) by omega] at this
                  exact this
                have HKB : ∀ W, Calls Try.prog 10 #[.agg #[.int .i64 qx, .int .i64 qy], .int .i64 d] W fun e w' => e = .returned (.int .i64 (key (qx, qy) d)) ∧ ∃ q, w' = (W.alloc (.cells #[.int .i64 qx, .int .i64 qy] 30)).drewN q := fun W =>
                  key_any qx qy d W (by omega) (by omega) (by omega) (by omega) (by omega) (by omega)
                clear hkm hu hv hp hq
                generalize key (qx, qy) d = kb at hkb HKA HKB
                have HKA' := Lib.hid HKA; clear HKA
                have HKB' := Lib.hid HKB; clear HKB
                have i1 : (0 : Int) ≤ (i : Int) := by omega
                have i2 : (i : Int) < (k : Int) := by omega
                have i3 : (un : Int) < (k : Int) := by omega
                have i4 : (vn : Int) < (k : Int) := by omega
                have i5 : IntKind.i64.wrap ((k : Int) - 1) = (k : Int) - 1 := IntWalk.i64_in _ (by omega)
                have i6 : IntKind.i64.wrap ((k : Int) - 1 - (i : Int)) = (k : Int) - 1 - (i : Int) := IntWalk.i64_in _ (by omega)
                have i7 : ((k : Int) - 1 - (i : Int)).toNat = k - 1 - i := by omega
                have i8 : (0 : Int) ≤ (k : Int) - 1 - (i : Int) := by omega
                have i9 : (k : Int) - 1 - (i : Int) < (k : Int) := by omega
                have i10 : (i : Int) ≤ (k : Int) - 1 := by omega
                have i11 : IntKind.i64.wrap (0 - kb) = 0 - kb := IntWalk.i64_in _ (by omega)
                have i12 : IntKind.i64.wrap (-kb) = -kb := IntWalk.i64_in _ (by omega)
                go_wp2
                go_region_held3 (fun V => V.cell? ⟨ab, ao + i, none⟩ = some (.int .i64 un) ∧ V.cell? ⟨bb, bo + (k - 1 - i), none⟩ = some (.int .i64 vn) ∧ V.cell? ⟨pb, po + un * 2, none⟩ = some (.int .i64 px) ∧ V.cell? ⟨pb, po + un * 2 + 1, none⟩ = some (.int .i64 py) ∧
                    V.cell? ⟨qb, qo + vn * 2, none⟩ = some (.int .i64 qx) ∧ V.cell? ⟨qb, qo + vn * 2 + 1, none⟩ = some (.int .i64 qy))
                  (exact have hb : Below wr.heap.size wr _ := (by repeat (first | exact Below.refl _ _ | assumption | apply Below.drew | apply below_drewN | apply Bel.alloc | (refine Bel.setCell_ ?_ ?_; rotate_left; omega) | (refine Bel.step ?_ (by assumption)))); ⟨Below.cellOf hb (Nat.le_refl _) hcu, Below.cellOf hb (Nat.le_refl _) hcv, Below.cellOf hb (Nat.le_refl _) hcx, Below.cellOf hb (Nat.le_refl _) hcy, Below.cellOf hb (Nat.le_refl _) hdx, Below.cellOf hb (Nat.le_refl _) hdy⟩)
                  (first
                    | (go_at_call 10; (with_reducible refine (HKA'.out _).mono ?_); rintro e w' ⟨rfl, q1, rfl⟩)
                    | (go_at_call 10; (with_reducible refine (HKB'.out _).mono ?_); rintro e w' ⟨rfl, q2, rfl⟩))
                go_wp2
                go_roundw
                case rel => exact ⟨i + 1, by omega, by go_num, (by repeat (first | exact Below.refl _ _ | assumption | apply Below.drew | apply below_drewN | apply Bel.alloc | (refine Bel.setCell_ ?_ ?_; rotate_left; omega) | (refine Bel.step ?_ (by assumption))))⟩
                case measure => simp [intOf]; omega
              · obtain rfl : i = k := by omega
                go_wp2_with fail
                go_roundw
                case rel => exact ⟨d + 1, by omega, by go_num, (by repeat (first | exact Below.refl _ _ | assumption | apply Below.drew | apply below_drewN | apply Bel.alloc | (refine Bel.setCell_ ?_ ?_; rotate_left; omega) | (refine Bel.step ?_ (by assumption))))⟩
                case measure => simp [intOf]; omega
          · obtain rfl : d = 4 := by omega
            have hpt4 := hpt.below hbl
            have hsw4 := hsw.below hbl
            have hb4 := Bel.step hb0 hbl
            clear hpt hsw hng hbl hb0
            have HO1 := Lib.hid (order_swap1 l)
            have HO0 := Lib.hid (order_swap0 l)
            have HO2 := Lib.hid (order_swap2 l)
            go_wp2_with fail
            with_reducible refine (order_any _ k _ (swapP l) 1 _ hsw4 (by omega) (by omega) (by omega) HBS'.out).mono ?_
            rintro e w2 ⟨A5, rfl, r1, b2⟩
            rw [HO1.out] at r1
            go_wp2_with fail
            with_reducible refine (order_any _ k _ l 0 _ (hpt4.below b2) (by omega) (by omega) (by omega) (fun p hp => by have := HB.out p hp; omega)).mono ?_
            rintro e w3 ⟨A6, rfl, r2, b3⟩
            go_wp2_with fail
            with_reducible refine (sameInts_eq _ _ k k _ _ (order l 0) _ (r1.below b3) r2 (by omega)).mono ?_
            rintro e w' ⟨rfl, q1, rfl⟩
            go_wp2_with fail
            with_reducible refine (order_any _ k _ (swapP l) 0 _ (hsw4.below (by repeat (first | exact Below.refl _ _ | assumption | apply Below.drew | apply below_drewN | apply Bel.alloc | (refine Bel.setCell_ ?_ ?_; rotate_left; omega) | (refine Bel.step ?_ (by assumption))))) (by omega) (by omega) (by omega) HBS'.out).mono ?_
            rintro e w4 ⟨A7, rfl, r3, b4⟩
            rw [HO0.out] at r3
            go_wp2_with fail
            with_reducible refine (order_any _ k _ l 1 _ (hpt4.below (by repeat (first | exact Below.refl _ _ | assumption | apply Below.drew | apply below_drewN | apply Bel.alloc | (refine Bel.setCell_ ?_ ?_; rotate_left; omega) | (refine Bel.step ?_ (by assumption))))) (by omega) (by omega) (by omega) (fun p hp => by have := HB.out p hp; omega)).mono ?_
            rintro e w5 ⟨A8, rfl, r4, b5⟩
            go_wp2_with fail
            with_reducible refine (sameInts_eq _ _ k k _ _ (order l 1) _ (r3.below b5) r4 (by omega)).mono ?_
            rintro e w' ⟨rfl, q2, rfl⟩
            go_wp2_with fail
            with_reducible refine (order_any _ k _ (swapP l) 2 _ (hsw4.below (by repeat (first | exact Below.refl _ _ | assumption | apply Below.drew | apply below_drewN | apply Bel.alloc | (refine Bel.setCell_ ?_ ?_; rotate_left; omega) | (refine Bel.step ?_ (by assumption))))) (by omega) (by omega) (by omega) HBS'.out).mono ?_
            rintro e w6 ⟨A9, rfl, r5, b6⟩
            rw [HO2.out] at r5
            go_wp2_with fail
            with_reducible refine (order_any _ k _ l 2 _ (hpt4.below (by repeat (first | exact Below.refl _ _ | assumption | apply Below.drew | apply below_drewN | apply Bel.alloc | (refine Bel.setCell_ ?_ ?_; rotate_left; omega) | (refine Bel.step ?_ (by assumption))))) (by omega) (by omega) (by omega) (fun p hp => by have := HB.out p hp; omega)).mono ?_
            rintro e w7 ⟨A10, rfl, r6, b7⟩
            go_wp2_with fail
            with_reducible refine (sameInts_eq _ _ k k _ _ (order l 2) _ (r5.below b7) r6 (by omega)).mono ?_
            rintro e w' ⟨rfl, q3, rfl⟩
            go_wp2_with fail
            go_ret
            exact ⟨rfl, Bel.step hb4 (by repeat (first | exact Below.refl _ _ | assumption | apply Below.drew | apply below_drewN | apply Bel.alloc | (refine Bel.setCell_ ?_ ?_; rotate_left; omega) | (refine Bel.step ?_ (by assumption))))⟩
end Go.Proofs.Ytjphjbchhhembaa
