/- CutBridge, walked. -/
import Derived.Test.YtjphjbchhhembaaDoorCu7
import Derived.Test.YtjphjbchhhembaaDoorCuR
namespace Go.Proofs.YtjphjbchhhembaaDoor
open Go.RowKit

attribute [local go_sem ↓] Go.wp_at_zero Go.wp_at_succ

theorem two_ints (x y : Int) : ∀ u ∈ [Value.int .i64 x, Value.int .i64 y], u.oneCell' = true := by
  intro u hu
  simp only [List.mem_cons, List.not_mem_nil, or_false] at hu
  rcases hu with rfl | rfl <;> rfl

set_option maxHeartbeats 8000000 in
set_option maxRecDepth 100000 in
theorem cutBridge_walk (n k : Int) (w : World) (hn0 : 0 ≤ n) (hn1 : n ≤ 255) (hk0 : 0 ≤ k) (hk1 : k ≤ 255) (hg : w.cell? ⟨0, 0, none⟩ = some errT) :
    Calls Tryd.prog 6 #[.int .u8 n, .int .u8 k] w fun e w' => e = .returned (.bool true) ∧ Below w.heap.size w w' := by
  have HK := Lib.hid (known11_any w hg)
  clear hg
  obtain ⟨m, hm⟩ : ∃ m : Nat, (3 : Int) + n % 6 = m := ⟨(3 + n % 6).toNat, by omega⟩
  obtain ⟨bt, hbt⟩ : ∃ bt : Nat, k % 3 = (bt : Int) := ⟨(k % 3).toNat, by omega⟩
  have m3 : 3 ≤ m := by omega
  have m8 : m ≤ 8 := by omega
  have b2 : bt ≤ 2 := by omega
  go_enter Tryd.func6, Tryd.ntmps6
  go_wp2_with fail
  with_reducible refine HK.out.mono ?_
  rintro e w1 ⟨rfl, hb1⟩
  go_wp2_with fail
  rw [hbt]
  clear hm hbt HK
  go_loopw [7, 8, 9] (fun pv ev iv W => ∃ (i r : Nat) (A7 : Option Addr) (c7 : Nat) (A8 : Option Addr) (c8 : Nat), i ≤ 2 * m ∧ iv = .int .i64 i ∧ pv = .slice A7 i c7 ∧ ev = .slice A8 r c8 ∧ Own W w1.heap.size 62 2 A7 i c7 (pcells (pairP m i)) ∧ Own W w1.heap.size 62 2 A8 r c8 (pcells (edgesTo m i)) ∧ Dj A7 A8 ∧ Below w1.heap.size w1 W) (fun _ _ iv _ => 2 * m - (intOf iv).toNat)
  case atStart => exact ⟨0, 0, none, 0, none, 0, Nat.zero_le _, rfl, rfl, rfl, Own.nil _ _ _ _, by rw [edgesTo_zero]; exact Own.nil _ _ _ _, .inl rfl, Below.refl _ _⟩
  case round =>
    obtain ⟨i, r, A7, c7, A8, c8, hi, rfl, rfl, rfl, hp, he, hdj, hbl⟩ := hrel
    have hz := hbl.size
    by_cases hlt : i < 2 * m
    · have hdt := div_two (m := m) (by omega) hlt
      obtain ⟨a, ha⟩ : ∃ a : Nat, a = i / m := ⟨_, rfl⟩
      obtain ⟨b, hb⟩ : ∃ b : Nat, b = i % m := ⟨_, rfl⟩
      obtain ⟨base, hbase⟩ : ∃ base : Nat, base = i / m * m := ⟨_, rfl⟩
      have e1 : Int.tdiv (i : Int) (m : Int) = (a : Int) := by rw [ha]; exact (Int.ofNat_tdiv i m).symm
      have e2 : (i : Int) / (m : Int) = (a : Int) := by rw [ha]; rfl
      have e3 : Int.tmod (i : Int) (m : Int) = (b : Int) := by rw [hb]; exact (Int.ofNat_tmod i m).symm
      have e4 : (i : Int) % (m : Int) = (b : Int) := by rw [hb]; rfl
      have hNX := Lib.hid (show edgesTo m (i + 1) = edgesTo m i ++ backE i base (i - base) from by rw [hbase]; exact edgesTo_next (by omega) hlt)
      have hPX := Lib.hid (show pcells (pairP m (i + 1)) = pcells (pairP m i) ++ [.int .i64 ((a : Int) * 100000 + (b : Int)), .int .i64 ((b : Int) * 7)] from by
        rw [pairP_next, pcells_app, ha, hb]
        simp [pcells, pairPt])
      have e5 : (a : Int) * (m : Int) = (base : Int) := by rw [ha, hbase]; simp
      rw [← ha, ← hb] at hdt
      rw [← ha] at hbase
      clear ha hb
      have a1 : a ≤ 1 := by omega
      have b1 : b ≤ 8 := by omega
      have hbi : base ≤ i := by rcases hdt with ⟨_, h2, _⟩ | ⟨_, h2, _⟩ <;> (rw [hbase, h2]; omega)
      clear hbase hdt
      have i1 : (i : Int) < 2 * (m : Int) := by omega
      have i2 : ¬ m = 0 := by omega
      have j1 : IntKind.i64.wrap (a : Int) = a := IntWalk.i64_in _ (by omega)
      have j2 : IntKind.i64.wrap (b : Int) = b := IntWalk.i64_in _ (by omega)
      have j3 : IntKind.i64.wrap ((a : Int) * 100000) = (a : Int) * 100000 := IntWalk.i64_in _ (by omega)
      have j4 : IntKind.i64.wrap ((a : Int) * 100000 + (b : Int)) = (a : Int) * 100000 + (b : Int) := IntWalk.i64_in _ (by omega)
      have j5 : IntKind.i64.wrap ((b : Int) * 7) = (b : Int) * 7 := IntWalk.i64_in _ (by omega)
      have j6 : IntKind.i64.wrap (base : Int) = base := IntWalk.i64_in _ (by omega)
      have HP := Lib.hid hp
      have HE := Lib.hid he
      clear he
      go_wp2_with fail
      go_region_held3 (fun _ => True) (trivial)
        (first
          | (with_reducible refine step_app rfl (.tmp 30) (.tmp 44) 45 rfl 62 _ 2 16 infoPair Tryd.underlying45 rfl (by omega) rfl rfl (by repeat (first | assumption | apply Own.drewN | apply Own.drew | apply Own.alloc)) ((show Blk _ _ 62 #[.int .i64 ((a : Int) * 100000 + (b : Int)), .int .i64 ((b : Int) * 7)] from (by repeat (first | assumption | (refine Blk.new' _ _ _ ?_; first | with_unfolding_all rfl | (simp; done)) | apply Blk.drewN | apply Blk.drew | apply Blk.alloc | (refine Blk.far_ ?_ ?_ _; rotate_left; omega)))).rds rfl) (two_ints _ _) (by omega) (by omega) (by simp; omega) ?_
             intro A9 c9 w4 hown4 hg4 hat4
             have hb4 : Below w1.heap.size w1 w4 := Bel.grownOwn (B := w1.heap.size) (by repeat (first | exact Below.refl _ _ | assumption | apply Below.drew | apply below_drewN | apply Bel.alloc | (refine Bel.setCell_ ?_ ?_; rotate_left; omega) | (refine Bel.step ?_ (by assumption)))) hg4 (by repeat (first | assumption | apply Own.drewN | apply Own.drew | apply Own.alloc)) (by simp; omega)))
      have hE4 := ((HE.out.alloc (.cells #[.int .i64 ((a : Int) * 100000 + (b : Int)), .int .i64 ((b : Int) * 7)] 62)).drew).far hg4 hdj.far
      have hdj4 : Dj A9 A8 := hdj.next ((HE.out.alloc (.cells #[.int .i64 ((a : Int) * 100000 + (b : Int)), .int .i64 ((b : Int) * 7)] 62)).drew) hat4
      have HP4 := Lib.hid (show Own w4 w1.heap.size 62 2 A9 (i + 1) c9 (pcells (pairP m (i + 1))) from by rw [hPX.out]; exact hown4)
      have HE4 := Lib.hid hE4
      clear hown4 hg4 hat4 hE4 HP HE hp hdj hbl e3 e4 j2 j3 j4 j5
      go_wp2_with fail
      go_loopw [8, 10] (fun ev jv W => ∃ (j r : Nat) (A8 : Option Addr) (c8 : Nat), base ≤ j ∧ j ≤ i ∧ jv = .int .i64 j ∧ ev = .slice A8 r c8 ∧ Own W w1.heap.size 62 2 A9 (i + 1) c9 (pcells (pairP m (i + 1))) ∧ Own W w1.heap.size 62 2 A8 r c8 (pcells (edgesTo m i ++ backE i base (j - base))) ∧ Dj A9 A8 ∧ Below w1.heap.size w1 W) (fun _ jv _ => i - (intOf jv).toNat)
      case atStart => exact ⟨base, r, A8, c8, Nat.le_refl _, hbi, rfl, rfl, HP4.out, by rw [Nat.sub_self]; simpa [backE] using HE4.out, hdj4, hb4⟩
      case round =>
        clear hb4 hdj4
        obtain ⟨j, r2, A3, c3, hj1, hj2, rfl, rfl, hp, he, hdj, hbl⟩ := hrel
        by_cases hlt2 : j < i
        · have hr : r2 ≤ 200 := by
            have h1 := he.1
            rw [pcells_len, List.length_append, backE_len] at h1
            have h2 := edgesTo_len (m := m) (i := i) m8 hi
            omega
          have hz2 := hbl.size
          have HX := Lib.hid (show pcells (edgesTo m i ++ backE i base (j + 1 - base)) = pcells (edgesTo m i ++ backE i base (j - base)) ++ [.int .i64 (i : Int), .int .i64 (j : Int)] from by
            rw [show j + 1 - base = (j - base) + 1 by omega]
            simp only [backE]
            rw [← List.append_assoc, pcells_app, show base + (j - base) = j by omega]
            rfl)
          have hown1 := he.alloc (.cells #[.int .i64 (i : Int), .int .i64 (j : Int)] 62)
          have hp1 := hp.alloc (.cells #[.int .i64 (i : Int), .int .i64 (j : Int)] 62)
          have hb1' : Blk (wr.alloc (.cells #[.int .i64 (i : Int), .int .i64 (j : Int)] 62)) wr.heap.size 62 #[.int .i64 (i : Int), .int .i64 (j : Int)] := Blk.new _ _ _
          have hrd := hb1'.rds (s := 2) (m := 1) rfl
          have hbel : Below w1.heap.size w1 (wr.alloc (.cells #[.int .i64 (i : Int), .int .i64 (j : Int)] 62)) := hbl.alloc hz2 _
          have HP1 := Lib.hid hp1
          clear he hp hb1' hp1
          go_wp2_with (at_builtin; with_reducible refine wpList_app rfl (.tmp 56) (.tmp 60) 45 rfl 62 _ 2 16 infoPair Tryd.underlying45 rfl (by omega) rfl rfl hown1 hrd (two_ints _ _) (by omega) (by omega) (by simp; omega) ?_)
          intro A5 c5 w5 hown5 hg5 hat5
          have hb5 : Below w1.heap.size w1 w5 := Bel.grownOwn hbel hg5 hown1 (by simp; omega)
          have hdj5 : Dj A9 A5 := (hdj.symm.next HP1.out (by simpa using hat5)).symm
          have HP5 := Lib.hid (HP1.out.far hg5 hdj.symm.far)
          have HE5 := Lib.hid (show Own w5 w1.heap.size 62 2 A5 (r2 + 1) c5 (pcells (edgesTo m i ++ backE i base (j + 1 - base))) from by rw [HX.out]; exact hown5)
          clear hown1 hrd hbel hown5 hg5 hat5 HP1 hbl hdj
          go_wp2_with fail
          go_roundw
          case rel => exact ⟨j + 1, r2 + 1, A5, c5, by omega, by omega, by go_num, rfl, HP5.out, HE5.out, hdj5, hb5⟩
          case measure => simp [intOf]; omega
        · obtain rfl : j = i := by omega
          have HE5 := Lib.hid (show Own wr w1.heap.size 62 2 A3 r2 c3 (pcells (edgesTo m (j + 1))) from by rw [hNX.out]; exact he)
          have HP5 := Lib.hid hp
          clear he hp
          go_wp2_with fail
          go_roundw
          case rel => exact ⟨j + 1, r2, A9, c9, A3, c3, by omega, by go_num, rfl, rfl, HP5.out, HE5.out, hdj, hbl⟩
          case measure => simp [intOf]; omega
    · have HI := Lib.hid (show i = 2 * m from by omega)
      have i1 : ¬ (i : Int) < 2 * (m : Int) := by omega
      have i16 : i ≤ 16 := by omega
      obtain ⟨w2, hw2⟩ : ∃ w2, w2 = wr := ⟨_, rfl⟩
      subst hw2
      have HP := Lib.hid hp
      have HE := Lib.hid (show Own w2 w1.heap.size 62 2 A8 r c8 (pcells (pairE m 0)) from by
        have := he
        rw [HI.out, edgesTo_all] at this
        simpa [pairE, betwE] using this)
      have HLEN := Lib.hid (show (heapE 0 m ++ heapE m m).length ≤ 128 from by rw [← edgesTo_all]; exact edgesTo_len m8 (Nat.le_refl _))
      clear hp he hlt
      go_wp2_with fail
      go_loopw [8, 11] (fun ev qv W => ∃ (q r : Nat) (A8 : Option Addr) (c8 : Nat), q ≤ bt ∧ qv = .int .i64 q ∧ ev = .slice A8 r c8 ∧ Own W w1.heap.size 62 2 A7 i c7 (pcells (pairP m i)) ∧ Own W w1.heap.size 62 2 A8 r c8 (pcells (pairE m q)) ∧ Dj A7 A8 ∧ Below w1.heap.size w1 W) (fun _ qv _ => bt - (intOf qv).toNat)
      case atStart => exact ⟨0, r, A8, c8, Nat.zero_le _, rfl, rfl, HP.out, HE.out, hdj, hbl⟩
      case round =>
        clear hbl hdj
        obtain ⟨q, r2, A3, c3, hq, rfl, rfl, hp, he, hdj, hbl⟩ := hrel
        have hr : r2 ≤ 200 := by
          have h1 := he.1
          have h2 := HLEN.out
          unfold pairE at h1
          rw [pcells_len, List.length_append, betwE_len] at h1
          omega
        by_cases hlt2 : q < bt
        · have hz2 := hbl.size
          have HX := Lib.hid (show pcells (pairE m (q + 1)) = pcells (pairE m q) ++ [.int .i64 (q : Int), .int .i64 ((m : Int) + (q : Int))] from by
            rw [show pairE m (q + 1) = pairE m q ++ [((q : Int), ((m + q : Nat) : Int))] from by unfold pairE; simp only [betwE, List.append_assoc], pcells_app]
            simp [pcells])
          have hown1 := he.alloc (.cells #[.int .i64 (q : Int), .int .i64 ((m : Int) + (q : Int))] 62)
          have hp1 := hp.alloc (.cells #[.int .i64 (q : Int), .int .i64 ((m : Int) + (q : Int))] 62)
          have hb1' : Blk (wr.alloc (.cells #[.int .i64 (q : Int), .int .i64 ((m : Int) + (q : Int))] 62)) wr.heap.size 62 #[.int .i64 (q : Int), .int .i64 ((m : Int) + (q : Int))] := Blk.new _ _ _
          have hrd := hb1'.rds (s := 2) (m := 1) rfl
          have hbel : Below w1.heap.size w1 (wr.alloc (.cells #[.int .i64 (q : Int), .int .i64 ((m : Int) + (q : Int))] 62)) := hbl.alloc hz2 _
          have HP1 := Lib.hid hp1
          clear he hp hb1' hp1
          go_wp2_with (at_builtin; with_reducible refine wpList_app rfl (.tmp 67) (.tmp 73) 45 rfl 62 _ 2 16 infoPair Tryd.underlying45 rfl (by omega) rfl rfl hown1 hrd (two_ints _ _) (by omega) (by omega) (by simp; omega) ?_)
          intro A5 c5 w5 hown5 hg5 hat5
          have hb5 : Below w1.heap.size w1 w5 := Bel.grownOwn hbel hg5 hown1 (by simp; omega)
          have hdj5 : Dj A7 A5 := (hdj.symm.next HP1.out (by simpa using hat5)).symm
          have HP5 := Lib.hid (HP1.out.far hg5 hdj.symm.far)
          have HE5 := Lib.hid (show Own w5 w1.heap.size 62 2 A5 (r2 + 1) c5 (pcells (pairE m (q + 1))) from by rw [HX.out]; exact hown5)
          clear hown1 hrd hbel hown5 hg5 hat5 HP1 hbl hdj
          go_wp2_with fail
          go_roundw
          case rel => exact ⟨q + 1, r2 + 1, A5, c5, by omega, by go_num, rfl, HP5.out, HE5.out, hdj5, hb5⟩
          case measure => simp [intOf]; omega
        · obtain rfl : q = bt := by omega
          obtain ⟨w3, hw3⟩ : ∃ w3, w3 = wr := ⟨_, rfl⟩
          subst hw3
          have hrp : RdP w3 A7 i (pairP m (2 * m)) := by
            have := (Own.rds hp).rdP
            rw [HI.out] at this ⊢
            exact this
          have hre : RdP w3 A3 r2 (pairE m q) := (Own.rds he).rdP
          have hbw3 : Below w.heap.size w w3 := Bel.step hb1 hbl
          have HB := Lib.hid (cutBest_any A7 A3 i r2 c7 c3 (pairP m (2 * m)) (pairE m q) w3 hrp hre (pair_good m3 m8 b2) (by omega) (by omega))
          clear hp he hdj hbl hrp hre
          go_wp2_with fail
          with_reducible refine HB.out.mono ?_
          rintro e w4 ⟨A5, n5, c5, s, L, rfl, hr5, hnc5, hall, hopt, hb4⟩
          obtain ⟨s1, s2, s3⟩ := pair_best m3 m8 b2 hall hopt
          obtain ⟨sd, sc, sdi, sk⟩ := s
          simp only at s1 s2 s3 hr5
          subst s1; subst s2; subst s3
          have HN5 := Lib.hid (show n5 = 2 * m from by rw [← hr5.1, heapB_len])
          have d1 : ((n5 : Int) != 2 * (m : Int)) = false := by have := HN5.out; simp; omega
          have HR5 := Lib.hid hr5
          have hbw4 : Below w.heap.size w w4 := Bel.step hbw3 hb4
          clear hall hopt hr5 hb4 HB
          go_wp2_with fail
          (refine wp_named ?_; intro w5 hw5)
          have hb45 : Below w4.heap.size w4 w5 := by rw [hw5]; exact (by repeat (first | exact Below.refl _ _ | assumption | apply Below.drew | apply below_drewN | apply Bel.alloc | (refine Bel.setCell_ ?_ ?_; rotate_left; omega) | (refine Bel.step ?_ (by assumption))))
          have hB5 : Blk w5 w4.heap.size 56 #[.slice A5 n5 c5, .int .i64 q, .int .i64 0, .int .i64 sk] := by rw [hw5]; exact Blk.new _ _ _
          have hr6 := HR5.out.below hb45
          have hbw5 : Below w.heap.size w w5 := Bel.step hbw4 hb45
          obtain ⟨c0, _, _, _⟩ := hB5.four
          clear hw5 hb45 hB5 d1
          go_loop [14] (fun iv => ∃ t : Nat, t ≤ 2 * m ∧ iv = .int .i64 t) (fun iv => 2 * m - (intOf iv).toNat)
          case atStart => exact ⟨0, Nat.zero_le _, rfl⟩
          case round =>
            obtain ⟨t, ht, rfl⟩ := hrel
            by_cases hlt3 : t < 2 * m
            · obtain ⟨g, o, x, e, hx, hc⟩ := hr6.at_ (i := t) (by have := HN5.out; omega)
              subst e
              rw [heapB_get hlt3] at hx
              obtain rfl := Option.some.inj hx
              have k1 : (0 : Int) ≤ (t : Int) := by omega
              have k2 : (t : Int) < (n5 : Int) := by have := HN5.out; omega
              have k3 : (t : Int) < 2 * (m : Int) := by omega
              clear hx
              by_cases hm' : t < m
              · rw [decide_eq_true hm'] at hc
                go_wp2_with fail
                go_round
                case rel => exact ⟨t + 1, by omega, by go_num⟩
                case measure => simp [intOf]; omega
              · rw [decide_eq_false hm'] at hc
                go_wp2_with fail
                go_round
                case rel => exact ⟨t + 1, by omega, by go_num⟩
                case measure => simp [intOf]; omega
            · have k3 : ¬ (t : Int) < 2 * (m : Int) := by omega
              go_wp2_with fail
              go_ret
              exact ⟨rfl, hbw5⟩
end Go.Proofs.YtjphjbchhhembaaDoor
