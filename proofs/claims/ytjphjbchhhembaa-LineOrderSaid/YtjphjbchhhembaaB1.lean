/- LineOrder's walk. -/
import Derived.Test.YtjphjbchhhembaaA8
namespace Go.Proofs.Ytjphjbchhhembaa
open Go.RowKit

attribute [local go_sem ↓] Go.wp_at_zero Go.wp_at_succ

set_option maxHeartbeats 4000000 in
set_option maxRecDepth 100000 in
theorem lineOrder_walk (A : Option Addr) (n c : Nat) (l : List (Int × Int)) (dir dx dy : Int) (w : World) (h : RdP w A n l) (hn : n ≤ 4000000000000000000)
    (hdir : 0 ≤ dir) (hdir' : dir ≤ 255) (hdx : -32768 ≤ dx) (hdx' : dx ≤ 32767) (hdy : -32768 ≤ dy) (hdy' : dy ≤ 32767) :
    Calls Try.prog 3 #[.slice A n c, .int .u8 dir, .int .i16 dx, .int .i16 dy] w fun e w' => e = .returned (.bool true) ∧ Below w.heap.size w w' := by
  cases hnr : nearB l
  · have HN := Lib.hid hnr; clear hnr
    have hcon : ∀ W, Below w.heap.size w W → Calls Try.prog 7 #[.slice A n c] W fun e w' => e = .returned (.bool false) ∧ W = w' := fun W hb => by
      have := near_any A n c l W (h.below hb) hn
      rw [HN.out] at this; exact this
    have HC := Lib.hid hcon; clear hcon
    go_enter Try.func3, Try.ntmps3
    go_wp2_with fail
    with_reducible refine (known10_any _).mono ?_
    rintro e w1 ⟨rfl, b1⟩
    go_wp2_with fail
    with_reducible refine (HC.out _ b1).mono ?_
    rintro e w' ⟨rfl, rfl⟩
    go_wp2_with fail
    go_ret
    exact ⟨rfl, b1⟩
  · have hcon : ∀ W, Below w.heap.size w W → Calls Try.prog 7 #[.slice A n c] W fun e w' => e = .returned (.bool true) ∧ W = w' := fun W hb => by
      have := near_any A n c l W (h.below hb) hn
      rw [hnr] at this; exact this
    have HC := Lib.hid hcon; clear hcon
    have hlen : l.length = n := h.1
    have hn2 : n ≤ 120 := by
      unfold nearB at hnr
      simp only [Bool.and_eq_true, decide_eq_true_eq] at hnr
      omega
    have hbd : ∀ p ∈ l, -1048576 ≤ p.1 ∧ p.1 ≤ 1048576 ∧ -1048576 ≤ p.2 ∧ p.2 ≤ 1048576 := by
      intro p hp
      unfold nearB at hnr
      simp only [Bool.and_eq_true, List.all_eq_true] at hnr
      have := hnr.1 p hp
      simp [near1, coordB] at this
      omega
    have HB := Lib.hid hbd; clear hbd
    have HL := Lib.hid hlen; clear hlen
    have HN := Lib.hid hnr; clear hnr
    have m1 : (0 : Int) ≤ dir % 4 := by omega
    have m2 : dir % 4 ≤ 3 := by omega
    go_enter Try.func3, Try.ntmps3
    go_wp2_with fail
    with_reducible refine (known10_any _).mono ?_
    rintro e w1 ⟨rfl, b1⟩
    go_wp2_with fail
    with_reducible refine (HC.out _ b1).mono ?_
    rintro e w' ⟨rfl, rfl⟩
    go_wp2_with fail
    generalize dir % 4 = d at m1 m2 ⊢
    with_reducible refine (order_any _ n _ l d _ (h.below b1) (by omega) m1 m2 (fun p hp => by have := HB.out p hp; omega)).mono ?_
    rintro e w2 ⟨A2, rfl, ho, b2⟩
    have hp2 := (h.below b1).below b2
    have b02 := Bel.step b1 b2
    clear b1 b2 HC h
    have hol : (order l d).length = n := by rw [order_len, HL.out]
    have HO := Lib.hid hol; clear hol
    obtain ⟨o, hoo⟩ : ∃ o, o = order l d := ⟨_, rfl⟩
    rw [← hoo] at ho HO
    have HOO := Lib.hid hoo; clear hoo
    go_wp2_with fail
    go_loopw [11, 12] (fun v i W => ∃ (k : Nat) (A3 : Option Addr) (c3 : Nat), k ≤ n ∧ i = .int .i64 k ∧ v = .slice A3 k c3 ∧ Own W w2.heap.size 30 2 A3 k c3 (pcells ((moveP dx dy l).take k)) ∧ Below w2.heap.size w2 W) (fun _ i _ => n - (intOf i).toNat)
    case atStart => exact ⟨0, none, 0, Nat.zero_le _, rfl, rfl, Own.nil _ _ _ _, Below.refl _ _⟩
    case round =>
      obtain ⟨k, A3, c3, hk, rfl, rfl, hown, hbl⟩ := hrel
      by_cases hlt : k < n
      · obtain ⟨ob, oo, v, rfl, hv, hcv⟩ := (ho.below hbl).at_ hlt
        have hvm : 0 ≤ v ∧ v < n := by
          have := order_mem (l := l) (d := d) (x := v) (by rw [← HOO.out]; exact List.mem_of_getElem? hv)
          have := HL.out
          omega
        obtain ⟨vn, rfl⟩ : ∃ vn : Nat, v = vn := ⟨v.toNat, by omega⟩
        have hpl : place (o.take k) vn = -1 := place_miss (fun j hj hx => by
          rw [List.getElem?_take] at hx
          split at hx
          · rename_i hjk
            have hnd := order_nodup l d
            rw [← HOO.out] at hnd
            exact nodup_at hnd hjk hx hv
          · cases hx)
        have hPC : ∀ W, Below w2.heap.size w2 W → Calls Try.prog 9 #[.slice (some ⟨ob, oo, none⟩) k n, .int .i64 vn] W fun e w' => e = .returned (.int .i64 (-1)) ∧ W = w' := fun W hb => by
          have := place_any (some ⟨ob, oo, none⟩) k n (o.take k) vn W ((ho.below hb).take (by omega)) (by omega)
          rw [hpl] at this
          exact this
        have HPC := Lib.hid hPC; clear hPC hpl
        have HV := Lib.hid hv; clear hv
        have i1 : (0 : Int) ≤ (k : Int) := by omega
        have i2 : (k : Int) < (n : Int) := by omega
        have i3 : (k : Int) ≤ (n : Int) := by omega
        have t1 : decide ((vn : Int) < 0) = false := decide_eq_false (by omega)
        have t2 : decide (n ≤ vn) = false := decide_eq_false (by omega)
        go_wp2
        go_quiet ((go_at_call 9; exact quiet_left (HPC.out _ (by repeat (first | exact Below.refl _ _ | assumption | apply Below.drew | apply below_drewN | apply Bel.alloc | (refine Bel.setCell_ ?_ ?_; rotate_left; omega) | (refine Bel.step ?_ (by assumption)))))))
        clear t1 t2 HPC
        obtain ⟨pb, po, px, py, rfl, hpx, hcx, hcy⟩ := (hp2.below hbl).at_ (i := vn) (by omega)
        have hpxb := HB.out _ (List.mem_of_getElem? hpx)
        by_cases h0 : 0 < k
        · obtain ⟨_, _, u, eA, hu, hcu⟩ := (ho.below hbl).at_ (i := k - 1) (by omega)
          cases eA
          have hum : 0 ≤ u ∧ u < n := by
            have := order_mem (l := l) (d := d) (x := u) (by rw [← HOO.out]; exact List.mem_of_getElem? hu)
            have := HL.out
            omega
          obtain ⟨un, rfl⟩ : ∃ un : Nat, u = un := ⟨u.toNat, by omega⟩
          obtain ⟨_, _, qx, qy, eA, hqx, hdx, hdy⟩ := (hp2.below hbl).at_ (i := un) (by omega)
          cases eA
          have hqxb := HB.out _ (List.mem_of_getElem? hqx)
          have hkl : key (qx, qy) d < key (px, py) d ∨ (key (qx, qy) d = key (px, py) d ∧ un < vn) := by
            have hpw := (order_ord l d).2
            rw [← HOO.out] at hpw
            obtain ⟨h1, e1⟩ := List.getElem?_eq_some_iff.1 hu
            obtain ⟨h2, e2⟩ := List.getElem?_eq_some_iff.1 HV.out
            have := List.pairwise_iff_getElem.1 hpw (k - 1) k h1 h2 (by omega)
            rw [e1, e2] at this
            unfold klt keysOf at this
            simp only [Int.toNat_natCast, List.getD_eq_getElem?_getD, List.getElem?_map, hqx, hpx, Option.map_some, Option.getD_some] at this
            omega
          have HKA : ∀ W, Calls Try.prog 10 #[.agg #[.int .i64 qx, .int .i64 qy], .int .i64 d] W fun e w' => e = .returned (.int .i64 (key (qx, qy) d)) ∧ ∃ q, w' = (W.alloc (.cells #[.int .i64 qx, .int .i64 qy] 30)).drewN q := fun W =>
            key_any qx qy d W (by omega) (by omega) (by omega) (by omega) m1 m2
          have HKB : ∀ W, Calls Try.prog 10 #[.agg #[.int .i64 px, .int .i64 py], .int .i64 d] W fun e w' => e = .returned (.int .i64 (key (px, py) d)) ∧ ∃ q, w' = (W.alloc (.cells #[.int .i64 px, .int .i64 py] 30)).drewN q := fun W =>
            key_any px py d W (by omega) (by omega) (by omega) (by omega) m1 m2
          have HKA' := Lib.hid HKA
          have HKB' := Lib.hid HKB
          clear HKA HKB hu hqx hpx
          generalize key (qx, qy) d = ka at hkl HKA'
          generalize key (px, py) d = kb at hkl HKB'
          have i4 : (0 : Int) < (k : Int) := by omega
          have i5 : IntKind.i64.wrap ((k : Int) - 1) = (k : Int) - 1 := IntWalk.i64_in _ (by omega)
          have i6 : (0 : Int) ≤ (k : Int) - 1 := by omega
          have i7 : ((k : Int) - 1).toNat = k - 1 := by omega
          have i8 : (k : Int) - 1 < (n : Int) := by omega
          have i9 : (un : Int) < (n : Int) := by omega
          have i11 : (1 : Int) ≤ (k : Int) := by omega
          have i10 : (vn : Int) < (n : Int) := by omega
          go_wp2
          go_region_held3 (fun V => V.cell? ⟨ob, oo + (k - 1), none⟩ = some (.int .i64 un) ∧ V.cell? ⟨ob, oo + k, none⟩ = some (.int .i64 vn) ∧ V.cell? ⟨pb, po + un * 2, none⟩ = some (.int .i64 qx) ∧ V.cell? ⟨pb, po + un * 2 + 1, none⟩ = some (.int .i64 qy) ∧
              V.cell? ⟨pb, po + vn * 2, none⟩ = some (.int .i64 px) ∧ V.cell? ⟨pb, po + vn * 2 + 1, none⟩ = some (.int .i64 py))
            (exact have hb : Below wr.heap.size wr _ := (by repeat (first | exact Below.refl _ _ | assumption | apply Below.drew | apply below_drewN | apply Bel.alloc | (refine Bel.setCell_ ?_ ?_; rotate_left; omega) | (refine Bel.step ?_ (by assumption)))); ⟨Below.cellOf hb (Nat.le_refl _) hcu, Below.cellOf hb (Nat.le_refl _) hcv, Below.cellOf hb (Nat.le_refl _) hdx, Below.cellOf hb (Nat.le_refl _) hdy, Below.cellOf hb (Nat.le_refl _) hcx, Below.cellOf hb (Nat.le_refl _) hcy⟩)
            (first
              | (go_at_call 10; (with_reducible refine (HKA'.out _).mono ?_); rintro e w' ⟨rfl, q1, rfl⟩)
              | (go_at_call 10; (with_reducible refine (HKB'.out _).mono ?_); rintro e w' ⟨rfl, q2, rfl⟩))
          go_wp2
          (refine wp_named ?_; intro V hV)
          have hbV : Below wr.heap.size wr V := by rw [hV]; exact (by repeat (first | exact Below.refl _ _ | assumption | apply Below.drew | apply below_drewN | apply Bel.alloc | (refine Bel.setCell_ ?_ ?_; rotate_left; omega) | (refine Bel.step ?_ (by assumption))))
          have hbl' : Below w2.heap.size w2 V := Bel.step hbl hbV
          have hownV : Own V w2.heap.size 30 2 A3 k c3 (pcells ((moveP dx dy l).take k)) := hown.below hbV
          replace hcu := Below.cellOf hbV (Nat.le_refl _) hcu
          replace hcv := Below.cellOf hbV (Nat.le_refl _) hcv
          clear hV hbl hown hcx hcy hdx hdy
          rcases hkl with hkl | ⟨hkl, huv⟩
          all_goals
            first
              | (have s1 : decide (kb < ka) = false := decide_eq_false (by omega)
                 have s4 : (ka == kb) = false := by simp; omega
                 go_quiet (fail)
                 clear s1 s4 HKA' HKB')
              | (subst hkl
                 have s1 : decide (ka < ka) = false := decide_eq_false (by omega)
                 have s4 : (ka == ka) = true := by simp
                 have s5 : decide (vn ≤ un) = false := decide_eq_false (by omega)
                 go_quiet (fail)
                 clear s1 s4 s5 HKA' HKB')
            -- the append
            go_wp2
            (refine wp_named ?_; intro W hW)
            have hbW : Below w2.heap.size w2 W := by rw [hW]; exact (by repeat (first | exact Below.refl _ _ | assumption | apply Below.drew | apply below_drewN | apply Bel.alloc | (refine Bel.setCell_ ?_ ?_; rotate_left; omega) | (refine Bel.step ?_ (by assumption))))
            have hownW : Own W w2.heap.size 30 2 A3 k c3 (pcells ((moveP dx dy l).take k)) := by rw [hW]; exact (by repeat (first | assumption | apply Own.drewN | apply Own.drew | apply Own.alloc))
            have hzW := hbW.size
            clear hW
            obtain ⟨_, _, x, y, eA, hx, hdx1, hdy1⟩ := hp2.at_ (i := k) (by omega)
            cases eA
            have hxb := HB.out _ (List.mem_of_getElem? hx)
            have hap : pcells ((moveP dx dy l).take (k + 1)) = pcells ((moveP dx dy l).take k) ++ [.int .i64 (x + dx), .int .i64 (y + dy)] := by
              rw [List.take_add_one, pcells_app]
              simp [moveP, hx, pcells]
            have HAP := Lib.hid hap; clear hap hx
            have j0 : IntKind.i64.wrap dx = dx := IntWalk.i64_in _ (by omega)
            have j00 : IntKind.i64.wrap dy = dy := IntWalk.i64_in _ (by omega)
            have j1 : IntKind.i64.wrap (x + dx) = x + dx := IntWalk.i64_in _ (by omega)
            have j2 : IntKind.i64.wrap (y + dy) = y + dy := IntWalk.i64_in _ (by omega)
            have j3 : W.cell? ⟨pb, po + k * 2, none⟩ = some (.int .i64 x) := Below.cellOf hbW (Nat.le_refl _) hdx1
            have j4 : W.cell? ⟨pb, po + k * 2 + 1, none⟩ = some (.int .i64 y) := Below.cellOf hbW (Nat.le_refl _) hdy1
            go_region_held3 (fun V => V.cell? ⟨pb, po + k * 2, none⟩ = some (.int .i64 x) ∧ V.cell? ⟨pb, po + k * 2 + 1, none⟩ = some (.int .i64 y))
              (exact have hb : Below w2.heap.size w2 _ := (by repeat (first | exact Below.refl _ _ | assumption | apply Below.drew | apply below_drewN | apply Bel.alloc | (refine Bel.setCell_ ?_ ?_; rotate_left; omega) | (refine Bel.step ?_ (by assumption)))); ⟨Below.cellOf hb (Nat.le_refl _) hdx1, Below.cellOf hb (Nat.le_refl _) hdy1⟩)
              (first
                | (with_reducible refine step_app rfl (.tmp 103) (.tmp 121) 22 rfl 30 _ 2 16 Try.infoP Try.underlying22 rfl (by omega) rfl rfl (by repeat (first | assumption | apply Own.drewN | apply Own.drew | apply Own.alloc)) ((show Blk _ _ 30 #[.int .i64 (x + dx), .int .i64 (y + dy)] from (by repeat (first | assumption | (refine Blk.new' _ _ _ ?_; first | with_unfolding_all rfl | (simp; done)) | apply Blk.drewN | apply Blk.drew | apply Blk.alloc | (refine Blk.far_ ?_ ?_ _; rotate_left; omega)))).rds rfl) (by simp [Value.oneCell']) (by omega) (by omega) (by simp; omega) ?_
                   intro A4 c4 w4 hown4 hg4 hat4
                   have hb4 : Below w2.heap.size w2 w4 := Bel.grownOwn (B := w2.heap.size) (by repeat (first | exact Below.refl _ _ | assumption | apply Below.drew | apply below_drewN | apply Bel.alloc | (refine Bel.setCell_ ?_ ?_; rotate_left; omega) | (refine Bel.step ?_ (by assumption)))) hg4 (by repeat (first | assumption | apply Own.drewN | apply Own.drew | apply Own.alloc)) (by simp; omega)))
            go_wp2
            go_roundw
            case rel => exact ⟨k + 1, A4, c4, by omega, by go_num, rfl, by rw [HAP.out]; exact hown4, hb4⟩
            case measure => simp [intOf]; omega
        · have i4 : ¬ (0 : Int) < (k : Int) := by omega
          -- the append
          go_wp2
          (refine wp_named ?_; intro W hW)
          have hbW : Below w2.heap.size w2 W := by rw [hW]; exact (by repeat (first | exact Below.refl _ _ | assumption | apply Below.drew | apply below_drewN | apply Bel.alloc | (refine Bel.setCell_ ?_ ?_; rotate_left; omega) | (refine Bel.step ?_ (by assumption))))
          have hownW : Own W w2.heap.size 30 2 A3 k c3 (pcells ((moveP dx dy l).take k)) := by rw [hW]; exact (by repeat (first | assumption | apply Own.drewN | apply Own.drew | apply Own.alloc))
          have hzW := hbW.size
          clear hW
          obtain ⟨_, _, x, y, eA, hx, hdx1, hdy1⟩ := hp2.at_ (i := k) (by omega)
          cases eA
          have hxb := HB.out _ (List.mem_of_getElem? hx)
          have hap : pcells ((moveP dx dy l).take (k + 1)) = pcells ((moveP dx dy l).take k) ++ [.int .i64 (x + dx), .int .i64 (y + dy)] := by
            rw [List.take_add_one, pcells_app]
            simp [moveP, hx, pcells]
          have HAP := Lib.hid hap; clear hap hx
          have j0 : IntKind.i64.wrap dx = dx := IntWalk.i64_in _ (by omega)
          have j00 : IntKind.i64.wrap dy = dy := IntWalk.i64_in _ (by omega)
          have j1 : IntKind.i64.wrap (x + dx) = x + dx := IntWalk.i64_in _ (by omega)
          have j2 : IntKind.i64.wrap (y + dy) = y + dy := IntWalk.i64_in _ (by omega)
          have j3 : W.cell? ⟨pb, po + k * 2, none⟩ = some (.int .i64 x) := Below.cellOf hbW (Nat.le_refl _) hdx1
          have j4 : W.cell? ⟨pb, po + k * 2 + 1, none⟩ = some (.int .i64 y) := Below.cellOf hbW (Nat.le_refl _) hdy1
          go_region_held3 (fun V => V.cell? ⟨pb, po + k * 2, none⟩ = some (.int .i64 x) ∧ V.cell? ⟨pb, po + k * 2 + 1, none⟩ = some (.int .i64 y))
            (exact have hb : Below w2.heap.size w2 _ := (by repeat (first | exact Below.refl _ _ | assumption | apply Below.drew | apply below_drewN | apply Bel.alloc | (refine Bel.setCell_ ?_ ?_; rotate_left; omega) | (refine Bel.step ?_ (by assumption)))); ⟨Below.cellOf hb (Nat.le_refl _) hdx1, Below.cellOf hb (Nat.le_refl _) hdy1⟩)
            (first
              | (with_reducible refine step_app rfl (.tmp 103) (.tmp 121) 22 rfl 30 _ 2 16 Try.infoP Try.underlying22 rfl (by omega) rfl rfl (by repeat (first | assumption | apply Own.drewN | apply Own.drew | apply Own.alloc)) ((show Blk _ _ 30 #[.int .i64 (x + dx), .int .i64 (y + dy)] from (by repeat (first | assumption | (refine Blk.new' _ _ _ ?_; first | with_unfolding_all rfl | (simp; done)) | apply Blk.drewN | apply Blk.drew | apply Blk.alloc | (refine Blk.far_ ?_ ?_ _; rotate_left; omega)))).rds rfl) (by simp [Value.oneCell']) (by omega) (by omega) (by simp; omega) ?_
                 intro A4 c4 w4 hown4 hg4 hat4
                 have hb4 : Below w2.heap.size w2 w4 := Bel.grownOwn (B := w2.heap.size) (by repeat (first | exact Below.refl _ _ | assumption | apply Below.drew | apply below_drewN | apply Bel.alloc | (refine Bel.setCell_ ?_ ?_; rotate_left; omega) | (refine Bel.step ?_ (by assumption)))) hg4 (by repeat (first | assumption | apply Own.drewN | apply Own.drew | apply Own.alloc)) (by simp; omega)))
          go_wp2
          go_roundw
          case rel => exact ⟨k + 1, A4, c4, by omega, by go_num, rfl, by rw [HAP.out]; exact hown4, hb4⟩
          case measure => simp [intOf]; omega
      · obtain rfl : k = n := by omega
        have hml : (moveP dx dy l).length = k := by simp [moveP, HL.out]
        have hmt : (moveP dx dy l).take k = moveP dx dy l := List.take_of_length_le (by omega)
        rw [hmt] at hown
        have hrm : RdP wr A3 k (moveP dx dy l) := (Own.rds hown).rdP
        have HMB : ∀ p ∈ moveP dx dy l, -1000000000000 ≤ p.1 ∧ p.1 ≤ 1000000000000 ∧ -1000000000000 ≤ p.2 ∧ p.2 ≤ 1000000000000 := by
          intro p hp
          obtain ⟨q, hq, rfl⟩ := List.mem_map.1 hp
          have := HB.out q hq
          simp only
          omega
        have HMB' := Lib.hid HMB; clear HMB
        have HOM := Lib.hid (order_move l dx dy d m1 m2)
        clear hmt hml
        have hNC := near_any A3 k c3 _ wr hrm (by omega)
        cases hnm : nearB (moveP dx dy l)
        · rw [hnm] at hNC
          have HNC := Lib.hid hNC; clear hNC
          have HNM := Lib.hid hnm; clear hnm
          go_wp2_with (go_at_call 7; (with_reducible refine (HNC.out).mono ?_); rintro e w' ⟨rfl, rfl⟩)
          go_ret
          exact ⟨rfl, (by repeat (first | exact Below.refl _ _ | assumption | apply Below.drew | apply below_drewN | apply Bel.alloc | (refine Bel.setCell_ ?_ ?_; rotate_left; omega) | (refine Bel.step ?_ (by assumption))))⟩
        · rw [hnm] at hNC
          have HNC := Lib.hid hNC; clear hNC
          have HNM := Lib.hid hnm; clear hnm
          go_wp2_with (go_at_call 7; (with_reducible refine (HNC.out).mono ?_); rintro e w' ⟨rfl, rfl⟩)
          with_reducible refine (order_any _ k _ (moveP dx dy l) d _ hrm (by omega) m1 m2 HMB'.out).mono ?_
          rintro e w5 ⟨A5, rfl, h5, b5⟩
          rw [HOM.out, ← HOO.out] at h5
          go_wp2_with fail
          with_reducible refine (sameInts_eq _ _ k k _ _ o _ h5 ((ho.below hbl).below b5) (by omega)).mono ?_
          rintro e w' ⟨rfl, q, rfl⟩
          go_wp2_with fail
          go_ret
          exact ⟨rfl, (by repeat (first | exact Below.refl _ _ | assumption | apply Below.drew | apply below_drewN | apply Bel.alloc | (refine Bel.setCell_ ?_ ?_; rotate_left; omega) | (refine Bel.step ?_ (by assumption))))⟩
end Go.Proofs.Ytjphjbchhhembaa
