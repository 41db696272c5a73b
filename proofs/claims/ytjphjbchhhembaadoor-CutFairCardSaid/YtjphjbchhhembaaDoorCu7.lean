/- CutMoved, walked. -/
import Derived.Test.YtjphjbchhhembaaDoorCu6
import Derived.Deep.RegionHeld3
import Derived.Deep.DrawnRows
namespace Go.Proofs.YtjphjbchhhembaaDoor
open Go.RowKit

attribute [local go_sem ↓] Go.wp_at_zero Go.wp_at_succ

theorem infoPair : (Tryd.prog.info? 62).map (fun i => (i.zero, i.size, i.bytes)) = some (some (.agg #[.int .i64 0, .int .i64 0]), 2, 16) := by kernel_rfl
theorem near_good {l : List (Int × Int)} {E : List (Int × Int)} (h2 : 2 ≤ l.length) (hn : nearB l = true) (hE : Ends l.length E) : Good l E := by
  unfold nearB at hn
  rw [Bool.and_eq_true, List.all_eq_true] at hn
  exact ⟨h2, hn.1, hE⟩
theorem cr_turnE (n : Nat) (E : List Edg) (b : List Bool) : cr b (turnE n 0 E) = cr b E := cross_turnE _ n E 0

set_option maxHeartbeats 8000000 in
set_option maxRecDepth 100000 in
theorem cutMoved_walk (A B : Option Addr) (n m c d : Nat) (l E : List (Int × Int)) (dx dy : Int) (w : World) (h : RdP w A n l) (hE : RdP w B m E) (hdx : -32768 ≤ dx) (hdx' : dx ≤ 32767) (hdy : -32768 ≤ dy) (hdy' : dy ≤ 32767) (hg : w.cell? ⟨0, 0, none⟩ = some errT) :
    Calls Tryd.prog 5 #[.slice A n c, .slice B m d, .int .i16 dx, .int .i16 dy] w fun e w' => e = .returned (.bool true) ∧ Below w.heap.size w w' := by
  have HK := Lib.hid (known11_any w hg)
  clear hg
  by_cases hf : n ≤ 24 ∧ m ≤ 80
  · have HF := Lib.hid (show ∀ V, Calls Tryd.prog 14 #[.slice A n c, .slice B m d] V fun e w' => e = .returned (.bool true) ∧ V = w' from fun V => by
      have := few_any A B n c m d V
      rw [decide_eq_true hf.1, decide_eq_true hf.2] at this
      exact this)
    obtain ⟨hn, hm⟩ := hf
    have HC := Lib.hid (show ∀ V, Below w.heap.size w V → Calls Tryd.prog 15 #[.slice A n c, .slice B m d] V fun e w' => CkRes (Good l E) e ∧ Below V.heap.size V w' from fun V hV => checkCut_any A B n m c d l E V (h.below hV) (hE.below hV) hn hm)
    go_enter Tryd.func5, Tryd.ntmps5
    go_wp2_with fail
    with_reducible refine HK.out.mono ?_
    rintro e w1 ⟨rfl, hb1⟩
    go_wp2_with fail
    with_reducible refine (HF.out _).mono ?_
    rintro e w' ⟨rfl, rfl⟩
    go_wp2_with fail
    with_reducible refine (HC.out _ hb1).mono ?_
    rintro e w2 ⟨⟨A2, k2, c2, x, rfl, hx⟩, hb2⟩
    have hbw2 : Below w.heap.size w w2 := Bel.step hb1 hb2
    have hfld := field1 A2 k2 c2 x
    clear hb1 hb2 HC HK HF
    rcases hx with ⟨rfl, hG⟩ | hx
    · have HG := Lib.hid hG
      have HLN := Lib.hid (show l.length = n from h.1)
      have hn2 : 2 ≤ n := by have := hG.1; have := HLN.out; omega
      have HEM := Lib.hid (show E.length = m from hE.1)
      clear hG
      have hp2 := h.below hbw2
      have hq2 := hE.below hbw2
      go_wp2_with fail
      go_loopw [9, 11] (fun v i W => ∃ (k : Nat) (A3 : Option Addr) (c3 : Nat), k ≤ n ∧ i = .int .i64 k ∧ v = .slice A3 k c3 ∧ Own W w2.heap.size 62 2 A3 k c3 (pcells ((moveP dx dy l).take k)) ∧ Below w2.heap.size w2 W) (fun _ i _ => n - (intOf i).toNat)
      case atStart => exact ⟨0, none, 0, Nat.zero_le _, rfl, rfl, Own.nil _ _ _ _, Below.refl _ _⟩
      case round =>
        obtain ⟨k, A3, c3, hk, rfl, rfl, hown, hbl⟩ := hrel
        by_cases hlt : k < n
        · have hzW := hbl.size
          obtain ⟨pb, po, x, y, eA, hx, hdx1, hdy1⟩ := hp2.at_ (i := k) (by omega)
          subst eA
          have hxb := near1_bd (HG.out.2.1 _ (List.mem_of_getElem? hx))
          simp only at hxb
          have hap : pcells ((moveP dx dy l).take (k + 1)) = pcells ((moveP dx dy l).take k) ++ [.int .i64 (x + dx), .int .i64 (y + dy)] := by
            rw [List.take_add_one, pcells_app]
            simp [moveP, hx, pcells]
          have HAP := Lib.hid hap; clear hap hx
          have i1 : (0 : Int) ≤ (k : Int) := by omega
          have i2 : (k : Int) < (n : Int) := by omega
          have j0 : IntKind.i64.wrap dx = dx := IntWalk.i64_in _ (by omega)
          have j00 : IntKind.i64.wrap dy = dy := IntWalk.i64_in _ (by omega)
          have j1 : IntKind.i64.wrap (x + dx) = x + dx := IntWalk.i64_in _ (by omega)
          have j2 : IntKind.i64.wrap (y + dy) = y + dy := IntWalk.i64_in _ (by omega)
          have j3 : wr.cell? ⟨pb, po + k * 2, none⟩ = some (.int .i64 x) := Below.cellOf hbl (Nat.le_refl _) hdx1
          have j4 : wr.cell? ⟨pb, po + k * 2 + 1, none⟩ = some (.int .i64 y) := Below.cellOf hbl (Nat.le_refl _) hdy1
          go_wp2
          go_region_held3 (fun V => V.cell? ⟨pb, po + k * 2, none⟩ = some (.int .i64 x) ∧ V.cell? ⟨pb, po + k * 2 + 1, none⟩ = some (.int .i64 y))
            (exact have hb : Below w2.heap.size w2 _ := (by repeat (first | exact Below.refl _ _ | assumption | apply Below.drew | apply below_drewN | apply Bel.alloc | (refine Bel.setCell_ ?_ ?_; rotate_left; omega) | (refine Bel.step ?_ (by assumption)))); ⟨Below.cellOf hb (Nat.le_refl _) hdx1, Below.cellOf hb (Nat.le_refl _) hdy1⟩)
            (first
              | (with_reducible refine step_app rfl (.tmp 37) (.tmp 55) 45 rfl 62 _ 2 16 infoPair Tryd.underlying45 rfl (by omega) rfl rfl (by repeat (first | assumption | apply Own.drewN | apply Own.drew | apply Own.alloc)) ((show Blk _ _ 62 #[.int .i64 (x + dx), .int .i64 (y + dy)] from (by repeat (first | assumption | (refine Blk.new' _ _ _ ?_; first | with_unfolding_all rfl | (simp; done)) | apply Blk.drewN | apply Blk.drew | apply Blk.alloc | (refine Blk.far_ ?_ ?_ _; rotate_left; omega)))).rds rfl) (by simp [Value.oneCell']) (by omega) (by omega) (by simp; omega) ?_
                 intro A4 c4 w4 hown4 hg4 hat4
                 have hb4 : Below w2.heap.size w2 w4 := Bel.grownOwn (B := w2.heap.size) (by repeat (first | exact Below.refl _ _ | assumption | apply Below.drew | apply below_drewN | apply Bel.alloc | (refine Bel.setCell_ ?_ ?_; rotate_left; omega) | (refine Bel.step ?_ (by assumption)))) hg4 (by repeat (first | assumption | apply Own.drewN | apply Own.drew | apply Own.alloc)) (by simp; omega)))
          go_wp2
          go_roundw
          case rel => exact ⟨k + 1, A4, c4, by omega, by go_num, rfl, by rw [HAP.out]; exact hown4, hb4⟩
          case measure => simp [intOf]; omega
        · obtain rfl : k = n := by omega
          have hmt : (moveP dx dy l).take k = moveP dx dy l := List.take_of_length_le (by rw [moveP_len, HLN.out]; omega)
          rw [hmt] at hown
          have hrm : RdP wr A3 k (moveP dx dy l) := (Own.rds hown).rdP
          have hcap := hown.cap
          have hcm := hown.capMax
          have hNC := near_any A3 k c3 _ wr hrm (by omega)
          clear hmt hown
          cases hnm : nearB (moveP dx dy l)
          · rw [hnm] at hNC
            have HNC := Lib.hid hNC
            clear hNC hnm
            go_wp2_with fail
            with_reducible refine (HNC.out).mono ?_
            rintro e w' ⟨rfl, rfl⟩
            go_wp2_with fail
            go_ret
            exact ⟨rfl, Bel.step hbw2 hbl⟩
          · rw [hnm] at hNC
            have HNC := Lib.hid hNC
            have HNM := Lib.hid hnm
            clear hNC hnm
            go_wp2_with fail
            with_reducible refine (HNC.out).mono ?_
            rintro e w' ⟨rfl, rfl⟩
            obtain ⟨w3, hw3⟩ : ∃ w3, w3 = wr := ⟨_, rfl⟩
            subst hw3
            have hbw3 : Below w.heap.size w w3 := Bel.step hbw2 hbl
            have hq3 := hE.below hbw3
            clear HNC
            go_wp2_with fail
            have HRM := Lib.hid hrm
            clear hrm hp2 hq2
            go_loopw [10, 12] (fun v i W => ∃ (q r : Nat) (A4 : Option Addr) (c4 : Nat), q ≤ m ∧ i = .int .i64 q ∧ v = .slice A4 r c4 ∧ r = 2 * q ∧ Own W w3.heap.size 62 2 A4 r c4 (pcells (turnE k 0 (E.take q))) ∧ Below w3.heap.size w3 W) (fun _ i _ => m - (intOf i).toNat)
            case atStart => exact ⟨0, 0, none, 0, Nat.zero_le _, rfl, rfl, rfl, Own.nil _ _ _ _, Below.refl _ _⟩
            case round =>
              clear hbl
              obtain ⟨q, r, A4, c4, hq, rfl, rfl, hr2, hown, hbl⟩ := hrel
              have HR2 := Lib.hid hr2
              have hr3 : r ≤ 160 := by omega
              clear hr2
              by_cases hlt2 : q < m
              · have hzW := hbl.size
                obtain ⟨pb, po, x, y, eA, hx, hdx1, hdy1⟩ := hq3.at_ (i := q) (by omega)
                subst eA
                have hxb := HG.out.2.2 _ (List.mem_of_getElem? hx)
                simp only at hxb
                have hap : pcells (turnE k 0 (E.take (q + 1))) = pcells (turnE k 0 (E.take q)) ++ [.int .i64 ((q % k : Nat) : Int), .int .i64 ((q % k : Nat) : Int), .int .i64 y, .int .i64 x] := by
                  rw [turnE_next hx, pcells_app]
                  rfl
                have HAP := Lib.hid hap; clear hap hx
                obtain ⟨z, hz⟩ : ∃ z : Nat, z = q % k := ⟨_, rfl⟩
                have hzk : z < k := by rw [hz]; exact Nat.mod_lt _ (by omega)
                have e1 : Int.tmod (q : Int) (k : Int) = (z : Int) := by rw [hz]; exact (Int.ofNat_tmod q k).symm
                have e2 : (q : Int) % (k : Int) = (z : Int) := by rw [hz]; rfl
                have e3 : IntKind.i64.wrap (z : Int) = (z : Int) := IntWalk.i64_in _ (by omega)
                rw [← hz] at HAP
                clear hz
                have i1 : (0 : Int) ≤ (q : Int) := by omega
                have i2 : (q : Int) < (m : Int) := by omega
                have i3 : (1 : Int) ≤ (k : Int) := by omega
                have i4 : ¬ k = 0 := by omega
                have j3 : wr.cell? ⟨pb, po + q * 2, none⟩ = some (.int .i64 x) := Below.cellOf hbl (Nat.le_refl _) hdx1
                have j4 : wr.cell? ⟨pb, po + q * 2 + 1, none⟩ = some (.int .i64 y) := Below.cellOf hbl (Nat.le_refl _) hdy1
                go_wp2
                go_region_held3 (fun V => V.cell? ⟨pb, po + q * 2, none⟩ = some (.int .i64 x) ∧ V.cell? ⟨pb, po + q * 2 + 1, none⟩ = some (.int .i64 y))
                  (exact have hb : Below w3.heap.size w3 _ := (by repeat (first | exact Below.refl _ _ | assumption | apply Below.drew | apply below_drewN | apply Bel.alloc | (refine Bel.setCell_ ?_ ?_; rotate_left; omega) | (refine Bel.step ?_ (by assumption)))); ⟨Below.cellOf hb (Nat.le_refl _) hdx1, Below.cellOf hb (Nat.le_refl _) hdy1⟩)
                  (first
                    | (with_reducible refine step_app rfl (.tmp 66) (.tmp 87) 45 rfl 62 _ 2 16 infoPair Tryd.underlying45 rfl (by omega) rfl rfl (by repeat (first | assumption | apply Own.drewN | apply Own.drew | apply Own.alloc)) ((show Blk _ _ 62 #[.int .i64 z, .int .i64 z, .int .i64 y, .int .i64 x] from (by repeat (first | assumption | (refine Blk.new' _ _ _ ?_; first | with_unfolding_all rfl | (simp; done)) | apply Blk.drewN | apply Blk.drew | apply Blk.alloc | (refine Blk.far_ ?_ ?_ _; rotate_left; omega)))).rds rfl) (by simp [Value.oneCell']) (by omega) (by omega) (by simp; omega) ?_
                       intro A5 c5 w5 hown5 hg5 hat5
                       have hb5 : Below w3.heap.size w3 w5 := Bel.grownOwn (B := w3.heap.size) (by repeat (first | exact Below.refl _ _ | assumption | apply Below.drew | apply below_drewN | apply Bel.alloc | (refine Bel.setCell_ ?_ ?_; rotate_left; omega) | (refine Bel.step ?_ (by assumption)))) hg5 (by repeat (first | assumption | apply Own.drewN | apply Own.drew | apply Own.alloc)) (by simp; omega)))
                go_wp2
                go_roundw
                case rel => exact ⟨q + 1, r + 2, A5, c5, by omega, by go_num, rfl, (by have := HR2.out; omega), by rw [HAP.out]; exact hown5, hb5⟩
                case measure => simp [intOf]; omega
              · obtain rfl : q = m := by omega
                obtain ⟨w4, hw4⟩ : ∃ w4, w4 = wr := ⟨_, rfl⟩
                subst hw4
                have hmt : E.take q = E := List.take_of_length_le (by rw [HEM.out]; exact Nat.le_refl _)
                rw [hmt] at hown
                have hrt : RdP w4 A4 r (turnE k 0 E) := (Own.rds hown).rdP
                have hTL : (turnE k 0 E).length = r := hrt.1
                have hET := turnE_ends (n := k) (by omega) E 0 (by rw [← HLN.out]; exact HG.out.2.2)
                have HG2 := Lib.hid (near_good (l := moveP dx dy l) (E := turnE k 0 E) (by rw [moveP_len, HLN.out]; omega) HNM.out (by rw [moveP_len, HLN.out]; exact hET))
                have HRT := Lib.hid hrt
                have hbw4 : Below w.heap.size w w4 := Bel.step hbw3 hbl
                have HRM4 := Lib.hid (HRM.out.below hbl)
                clear hmt hown hrt hTL hET hbl HRM hq3
                go_wp2_with fail
                with_reducible refine (cutAll_any A B k q c d l E w4 (h.below hbw4) (hE.below hbw4) HG.out (by omega) (by omega)).mono ?_
                rintro e w5 ⟨A5, c5, L, rfl, hS, hall, hc12, hcm, hb5⟩
                have HS := Lib.hid hS
                have HALL := Lib.hid hall
                have hbw5 : Below w.heap.size w w5 := Bel.step hbw4 hb5
                have HRM5 := Lib.hid (HRM4.out.below hb5)
                have HRT5 := Lib.hid (HRT.out.below hb5)
                clear hS hall hb5 HRM4 HRT
                go_wp2_with fail
                with_reducible refine (cutAll_any A3 A4 k r c3 c4 (moveP dx dy l) (turnE k 0 E) w5 HRM5.out HRT5.out HG2.out (by omega) (by omega)).mono ?_
                rintro e w6 ⟨A6, c6, L', rfl, hS6, hall6, hc126, hcm6, hb6⟩
                obtain rfl := IsAll.unique (isAll_moved (cr_turnE k E) HALL.out) hall6
                have HS5 := Lib.hid (HS.out.below hb6)
                have HS6 := Lib.hid hS6
                have hbw6 : Below w.heap.size w w6 := Bel.step hbw5 hb6
                clear hS6 hall6 hb6 HS HRM5 HRT5
                go_wp2_with fail
                go_loopw [17] (fun i W => ∃ k : Nat, k ≤ 12 ∧ i = .int .i64 k ∧ ∃ j, W = w6.drewN j) (fun i _ => 12 - (intOf i).toNat)
                case atStart => exact ⟨0, by omega, rfl, 0, rfl⟩
                case round =>
                  obtain ⟨s, hs, rfl, j, hj⟩ := hrel
                  have hb6r : Below w6.heap.size w6 wr := by rw [hj]; exact below_drewN (Below.refl _ _) j
                  have HJ := Lib.hid hj
                  clear hj
                  by_cases hlt3 : s < 12
                  · obtain ⟨b, o, B5, n5, d5, t, e, ht, x0, x1, _, _, hr5, _⟩ := (HS5.out.below hb6r).at_ hlt3
                    subst e
                    obtain ⟨b', o', B6, n6, d6, t', e, ht', y0, y1, _, _, hr6, _⟩ := (HS6.out.below hb6r).at_ hlt3
                    subst e
                    obtain rfl : t = t' := by rw [ht] at ht'; exact Option.some.inj ht'
                    have hlen5 : n5 = k := by rw [← hr5.1, ((HALL.out.2 s t ht).sep HG.out.1).len, HLN.out]
                    have HSB := Lib.hid (show ∀ i, Calls Tryd.prog 19 #[.slice B5 n5 d5, .slice B6 n6 d6] (wr.drewN i) fun e w' => e = .returned (.bool true) ∧ ∃ q, w' = (wr.drewN i).drewN q from fun i => sameBools_any B5 B6 n5 n6 d5 d6 _ _ _ (hr5.below (below_drewN (Below.refl _ _) i)) (hr6.below (below_drewN (Below.refl _ _) i)) (by omega) rfl)
                    obtain ⟨td, tc, tdi, tk⟩ := t
                    simp only at x1 y1
                    have d2 : (tc != tc) = false := by simp
                    have i1 : (0 : Int) ≤ (s : Int) := by omega
                    have i2 : (s : Int) < 12 := by omega
                    clear ht ht' hr5 hr6 hlen5
                    go_wp2_with fail
                    go_quiet ((go_at_call 19; exact quiet_draws (HSB.out _)))
                    go_wp2_with fail
                    go_roundw
                    case rel => exact ⟨s + 1, by omega, by go_num, _, by rw [HJ.out, World.drewN_drewN]⟩
                    case measure => simp [intOf]; omega
                  · go_wp2_with fail
                    go_ret
                    exact ⟨rfl, Bel.step hbw6 hb6r⟩
    · have hx1 : (x != 0) = true := by simpa using hx
      have hx2 : (x == 0) = false := by simpa using hx
      clear hx
      go_wp2_with fail
      go_ret
      exact ⟨rfl, hbw2⟩
  · have HF := Lib.hid (show ∀ V, Calls Tryd.prog 14 #[.slice A n c, .slice B m d] V fun e w' => e = .returned (.bool false) ∧ V = w' from fun V => by
      have h1 := few_any A B n c m d V
      have h2 : (decide (n ≤ 24) && decide (m ≤ 80)) = false := by simp; omega
      rw [h2] at h1
      exact h1)
    clear h hE hf
    go_enter Tryd.func5, Tryd.ntmps5
    go_wp2_with fail
    with_reducible refine HK.out.mono ?_
    rintro e w1 ⟨rfl, hb1⟩
    go_wp2_with fail
    with_reducible refine (HF.out _).mono ?_
    rintro e w' ⟨rfl, rfl⟩
    go_wp2_with fail
    go_ret
    exact ⟨rfl, hb1⟩
end Go.Proofs.YtjphjbchhhembaaDoor
