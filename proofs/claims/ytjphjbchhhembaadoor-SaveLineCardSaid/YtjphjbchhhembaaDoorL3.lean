/- SaveLine, walked. -/
import Derived.Test.YtjphjbchhhembaaDoorKnown
import Derived.Test.YtjphjbchhhembaaDoorRwO
import Derived.Test.YtjphjbchhhembaaDoorPlC
namespace Go.Proofs.YtjphjbchhhembaaDoor
open Go.RowKit

attribute [local go_sem ↓] Go.wp_at_zero Go.wp_at_succ

theorem infoI64 : (Tryd.prog.info? 2).map (fun i => (i.zero, i.size, i.bytes)) = some (some (.int .i64 0), 1, 8) := by kernel_rfl
theorem infoRow64 : (Tryd.prog.info? 24).map (fun i => (i.zero, i.size, i.bytes)) = some (some (.slice none 0 0), 1, 24) := by kernel_rfl
theorem infoStopR : (Tryd.prog.info? 30).map (fun i => (i.zero, i.size, i.bytes)) = some (some (.agg #[.int .i64 0, .int .i64 0]), 2, 16) := by kernel_rfl
theorem int_one (x : Int) : ∀ u ∈ [Value.int .i64 x], u.oneCell' = true := icells_one [x]
theorem ones_next (k : Nat) : pcells (List.replicate (k + 1) ((0 : Int), (1 : Int))) = pcells (List.replicate k (0, 1)) ++ [.int .i64 0, .int .i64 1] := by
  rw [List.replicate_succ', pcells_app]
  rfl

set_option maxHeartbeats 4000000 in
theorem saveLine_walk (A : Option Addr) (n c : Nat) (us : List Int) (w : World) (h : RdK .u16 w A n us) (hs : Small us) (hg : w.cell? ⟨0, 0, none⟩ = some errT) (hn : n ≤ 4000000000000000000) :
    Calls Tryd.prog 3 #[.slice A n c] w fun e w' => e = .returned (.bool true) ∧ Below w.heap.size w w' := by
  have HK := Lib.hid (show ∀ V, Below w.heap.size w V → Calls Tryd.prog 8 #[] V fun e w' => e = .returned (.bool true) ∧ Below V.heap.size V w' from fun V hV => known_any V (Below.cellOf hV (Nat.le_refl _) hg))
  have HS := Lib.hid hs
  have HL := Lib.hid h.1
  clear hs hg
  by_cases g1 : n < 1
  · have g2 : (n : Int) < 1 := by omega
    clear h
    go_enter Tryd.func3, Tryd.ntmps3
    go_wp2_with fail
    with_reducible refine (HK.out _ (Below.refl _ _)).mono ?_
    rintro e w2 ⟨rfl, hb⟩
    go_wp2_with fail
    go_ret
    exact ⟨rfl, hb⟩
  by_cases g3 : n > 9
  · have g2 : ¬ (n : Int) < 1 := by omega
    have g4 : (n : Int) > 9 := by omega
    clear h
    go_enter Tryd.func3, Tryd.ntmps3
    go_wp2_with fail
    with_reducible refine (HK.out _ (Below.refl _ _)).mono ?_
    rintro e w2 ⟨rfl, hb⟩
    go_wp2_with fail
    go_ret
    exact ⟨rfl, hb⟩
  have g2 : ¬ (n : Int) < 1 := by omega
  have g4 : ¬ (n : Int) > 9 := by omega
  go_enter Tryd.func3, Tryd.ntmps3
  go_wp2_with fail
  with_reducible refine (HK.out _ (Below.refl _ _)).mono ?_
  rintro e w2 ⟨rfl, hb2⟩
  clear HK
  have hr2 := h.below hb2
  have hown0 : Own (w2.alloc (.cells #[.int .i64 0] 2)) w2.heap.size 2 1 none 0 0 [] := Own.nil _ _ _ _
  have hblk0 : Blk (w2.alloc (.cells #[.int .i64 0] 2)) w2.heap.size 2 #[.int .i64 0] := Blk.new _ _ _
  have hrd0 := hblk0.rds (s := 1) (m := 1) rfl
  have hbel0 : Below w2.heap.size w2 (w2.alloc (.cells #[.int .i64 0] 2)) := (by repeat (first | exact Below.refl _ _ | assumption | apply Below.drew | apply below_drewN | apply Bel.alloc | (refine Bel.setCell_ ?_ ?_; rotate_left; omega) | (refine Bel.step ?_ (by assumption))))
  clear hblk0
  go_wp2_with (at_builtin; with_reducible refine wpList_app rfl (.tmp 23) (.tmp 24) 24 rfl 2 _ 1 8 infoI64 Tryd.underlying24 rfl (by omega) rfl rfl hown0 hrd0 (int_one _) (by omega) (by omega) (by simp) ?_)
  intro A3 c3 w3 hown3 hg3 _
  have hb3 : Below w2.heap.size w2 w3 := Bel.grownOwn hbel0 hg3 hown0 (by simp)
  clear hown0 hrd0 hbel0 hg3
  have HO3 := Lib.hid hown3
  have hlt3 := hown3.lt
  clear hown3
  go_wp2_with fail
  (refine wp_named ?_; intro w4 hw4)
  have hb4 : Below w2.heap.size w2 w4 := by rw [hw4]; exact hb3.alloc hb3.size _
  have hown4 : Own w4 w2.heap.size 2 1 A3 (0 + 1) c3 (icells (ptsTo us (0 + 1))) := by rw [hw4]; exact HO3.out.alloc _
  have hJ4 : Blk w4 w3.heap.size 27 #[.int .i64 0, .int .i64 100, .int .i64 1152921504606846976, .slice none 0 0] := by rw [hw4]; exact Blk.new _ _ _
  have hne4 : blkOf A3 ≠ some w3.heap.size := fun e => by have := (hlt3 _ e).2; omega
  have hz4 : w2.heap.size ≤ w3.heap.size := hb3.size
  clear hw4 HO3 hlt3 hb3
  go_loopw [3, 4, 6] (fun a x i W => Below w2.heap.size w2 W ∧ ∃ (k : Nat) (A3 : Option Addr) (c3 : Nat) (A4 : Option Addr) (c4 : Nat), k ≤ n ∧ i = .int .i64 k ∧ x = .int .i64 (posn us k) ∧ a = .slice A3 (k + 1) c3 ∧ Own W w2.heap.size 2 1 A3 (k + 1) c3 (icells (ptsTo us (k + 1))) ∧ Blk W w3.heap.size 27 #[.int .i64 0, .int .i64 100, .int .i64 1152921504606846976, .slice A4 k c4] ∧
    Own W w2.heap.size 30 2 A4 k c4 (pcells (List.replicate k (0, 1))) ∧ Dj A3 A4 ∧ blkOf A3 ≠ some w3.heap.size ∧ blkOf A4 ≠ some w3.heap.size) (fun _ _ i _ => n - (intOf i).toNat)
  case atStart => exact ⟨hb4, 0, A3, c3, none, 0, Nat.zero_le _, rfl, rfl, rfl, hown4, hJ4, Own.nil _ _ _ _, .inr (.inl rfl), hne4, fun e => by cases e⟩
  case round =>
    clear hown4 hJ4 hne4 hb4
    obtain ⟨hbl, k, A3, c3, A4, c4, hk, rfl, rfl, rfl, hown, hJ, hst, hdj, hne3, hne4⟩ := hrel
    by_cases hlt : k < n
    · obtain ⟨b, o, u, rfl, hu, hc⟩ := hr2.at_ hlt
      have hu2 := HS.out u (List.mem_of_getElem? hu)
      have hp := posn_bd HS.out k
      have HP := Lib.hid (show posn us (k + 1) = posn us k + 1 + u by
        show posn us k + 1 + us.getD k 0 = _
        rw [List.getD_eq_getElem?_getD, hu]; rfl)
      have HN1 := Lib.hid (ptsTo_next us (k + 1))
      have HN2 := Lib.hid (ones_next k)
      have j1 := Below.cellOf hbl (Nat.le_refl _) hc
      have i1 : (0 : Int) ≤ (k : Int) := by omega
      have i2 : (k : Int) < (n : Int) := by omega
      generalize posn us k = x at *
      have e1 : IntKind.i64.wrap (x + 1) = x + 1 := IntWalk.i64_in _ (by omega)
      have e2 : IntKind.i64.wrap u = u := IntWalk.i64_in _ (by omega)
      have e3 : IntKind.i64.wrap (x + 1 + u) = x + 1 + u := IntWalk.i64_in _ (by omega)
      have hown1 := hown.alloc (.cells #[.int .i64 (x + 1 + u)] 2)
      have hb1 : Blk (wr.alloc (.cells #[.int .i64 (x + 1 + u)] 2)) wr.heap.size 2 #[.int .i64 (x + 1 + u)] := Blk.new _ _ _
      have hJ1 := hJ.alloc (.cells #[.int .i64 (x + 1 + u)] 2)
      have hst1 := hst.alloc (.cells #[.int .i64 (x + 1 + u)] 2)
      have hrd := hb1.rds (s := 1) (m := 1) rfl
      have hbel : Below w2.heap.size w2 (wr.alloc (.cells #[.int .i64 (x + 1 + u)] 2)) := hbl.alloc hbl.size _
      have hsz := hbl.size
      have hJlt := hJ.lt
      clear hu hc hown hJ hst hb1 hbl
      go_wp2_with (at_builtin; with_reducible refine wpList_app rfl (.tmp 41) (.tmp 43) 24 rfl 2 _ 1 8 infoI64 Tryd.underlying24 rfl (by omega) rfl rfl hown1 hrd (int_one _) (by omega) (by omega) (by simp; omega) ?_)
      intro A5 c5 w5 hown5 hg5 hat5
      have hb5 : Below w2.heap.size w2 w5 := Bel.grownOwn hbel hg5 hown1 (by simp; omega)
      have hJ5 := hJ1.grown hg5 hne3
      have hst5 := hst1.far hg5 hdj.far
      have hdj5 : Dj A5 A4 := hdj.next hst1 (by simpa using hat5)
      have hne5 : blkOf A5 ≠ some w3.heap.size := by
        rcases hat5 with h | h
        · rw [h]; exact hne3
        · rw [h]; intro e; injection e with e; omega
      have HO5 := Lib.hid hown5
      clear hown1 hrd hbel hJ1 hst1 hg5 hat5 hdj hne3 hown5
      obtain ⟨q0, q1, q2, q3⟩ := hJ5.four
      have hsz5 := hb5.size
      have hJlt5 := hJ5.lt
      have hst6 := hst5.alloc (.cells #[.int .i64 0, .int .i64 1] 30)
      have hb6 : Blk (w5.alloc (.cells #[.int .i64 0, .int .i64 1] 30)) w5.heap.size 30 #[.int .i64 0, .int .i64 1] := Blk.new _ _ _
      have hrd := hb6.rds (s := 2) (m := 1) rfl
      have hbel : Below w2.heap.size w2 (w5.alloc (.cells #[.int .i64 0, .int .i64 1] 30)) := hb5.alloc hsz5 _
      clear hb6
      go_wp2_with (at_builtin; with_reducible refine wpList_app rfl (.tmp 46) (.tmp 48) 25 rfl 30 _ 2 16 infoStopR Tryd.underlying25 rfl (by omega) rfl rfl hst6 hrd (two_one _ _) (by omega) (by omega) (by simp; omega) ?_)
      intro A7 c7 w7 hst7 hg7 hat7
      have hb7 : Below w2.heap.size w2 w7 := Bel.grownOwn hbel hg7 hst6 (by simp; omega)
      have hJ7 := (hJ5.alloc (.cells #[.int .i64 0, .int .i64 1] 30)).grown hg7 hne4
      have hown7 := (HO5.out.alloc (.cells #[.int .i64 0, .int .i64 1] 30)).far hg7 hdj5.symm.far
      have hdj7 : Dj A7 A5 := hdj5.symm.next (HO5.out.alloc (.cells #[.int .i64 0, .int .i64 1] 30)) (by simpa using hat7)
      have hne7 : blkOf A7 ≠ some w3.heap.size := by
        rcases hat7 with h | h
        · rw [h]; exact hne4
        · rw [h]; intro e; injection e with e; omega
      have q3' := hJ7.four.2.2.2
      have qf' := hJ7.frozen 3
      have HO7 := Lib.hid (hown7.far (grownBy_set w7 w3.heap.size 3 (.slice A7 (k + 1) c7)) (.inr hne5))
      have HST := Lib.hid (hst7.far (grownBy_set w7 w3.heap.size 3 (.slice A7 (k + 1) c7)) (.inr hne7))
      have HJ7 := Lib.hid (hJ7.set_ 3 (.slice A7 (k + 1) c7))
      have hbn : Below w2.heap.size w2 (w7.setCell ⟨w3.heap.size, 3, none⟩ (.slice A7 (k + 1) c7)) := hb7.setCell hz4 _
      clear hst6 hrd hbel hg7 hat7 hJ5 hst5 hst7 hJ7 hown7 HO5 q0 q1 q2 q3
      go_wp2_with fail
      go_roundw
      case rel => exact ⟨hbn, k + 1, A5, c5, A7, c7, by omega, by go_num, by rw [HP.out], rfl, by rw [HN1.out, icells_app, HP.out]; exact HO7.out, HJ7.out, by rw [HN2.out]; exact HST.out, hdj7.symm, hne5, hne7⟩
      case measure => simp [intOf]; omega
    · obtain rfl : k = n := by omega
      have hp := posn_bd HS.out k
      have HP := Lib.hid (show RdI wr A3 (k + 1) (ptsTo us (k + 1)) from hown.rds.rdI)
      have HST := Lib.hid hst.rds.rdP
      have hbw : Below w.heap.size w wr := (hb2.trans (hbl.mono hb2.size))
      clear hown hst hdj hne3 hne4 hbl
      go_wp2_with fail
      (refine wp_named ?_; intro w9 hw9)
      subst hw9
      go_loopw [7, 8] (fun a i W => Below w9.heap.size w9 W ∧ ∃ (q : Nat) (A7 : Option Addr) (c7 : Nat) (xs : List Value), q ≤ k + 1 ∧ i = .int .i64 q ∧ a = .slice A7 q c7 ∧ RwO W w9.heap.size 24 A7 q c7 xs (tabTo us (k + 1) q)) (fun _ i _ => k + 1 - (intOf i).toNat)
      case atStart => exact ⟨Below.refl _ _, 0, none, 0, [], Nat.zero_le _, rfl, rfl, RwO.nil _ _ _⟩
      case round =>
        obtain ⟨hbl, q, A7, c7, xs, hq, rfl, rfl, hrw⟩ := hrel
        by_cases hlt2 : q < k + 1
        · have i6 : (q : Int) < (k : Int) + 1 := by omega
          have i5 : (0 : Int) ≤ (q : Int) := by omega
          have HRW := Lib.hid hrw
          clear hrw
          go_wp2_with fail
          (refine wp_named ?_; intro w10 hw10)
          subst hw10
          have hz10 := hbl.size
          go_loopw [9, 10] (fun a i W => Below w10.heap.size w10 W ∧ ∃ (m : Nat) (A9 : Option Addr) (c9 : Nat), m ≤ k + 1 ∧ i = .int .i64 m ∧ a = .slice A9 m c9 ∧ Own W w10.heap.size 2 1 A9 m c9 (icells (rowTo us q m))) (fun _ i _ => k + 1 - (intOf i).toNat)
          case atStart => exact ⟨Below.refl _ _, 0, none, 0, Nat.zero_le _, rfl, rfl, Own.nil _ _ _ _⟩
          case round =>
            obtain ⟨hbm, m, A9, c9, hm, rfl, rfl, hown⟩ := hrel
            by_cases hlt3 : m < k + 1
            · obtain ⟨b, o, x, rfl, hx, hcx⟩ := HP.out.at_ hlt2
              obtain ⟨b', o', y, e, hy, hcy⟩ := HP.out.at_ hlt3
              cases e
              obtain rfl : posn us q = x := by rw [ptsTo_get hlt2] at hx; exact Option.some.inj hx
              obtain rfl : posn us m = y := by rw [ptsTo_get hlt3] at hy; exact Option.some.inj hy
              have hp1 := posn_bd HS.out q
              have hp2 := posn_bd HS.out m
              have HN := Lib.hid (rowTo_next us q m)
              have HSX := Lib.hid (show ∀ V, Below w9.heap.size w9 V → V.cell? ⟨b, o + q, none⟩ = some (.int .i64 (posn us q)) ∧ V.cell? ⟨b, o + m, none⟩ = some (.int .i64 (posn us m)) from
                fun V hb => ⟨Below.cellOf hb (Nat.le_refl _) hcx, Below.cellOf hb (Nat.le_refl _) hcy⟩)
              have i7 : (m : Int) < (k : Int) + 1 := by omega
              have i8 : (0 : Int) ≤ (m : Int) := by omega
              have hbw9 : Below w9.heap.size w9 wr := hbl.trans (hbm.mono hz10)
              have hz11 := hbm.size
              clear hx hy hcx hcy
              generalize posn us q = x at *
              generalize posn us m = y at *
              have e4 : IntKind.i64.wrap (max x y - min x y) = max x y - min x y := IntWalk.i64_in _ (by omega)
              generalize hmm : max x y - min x y = z at *
              go_wp2_with fail
              refine wp_region_held_drew (S := fun V => Below w9.heap.size w9 V) (by kernel_rfl) hbw9.drew (fun _ => ?_)
              refine take_ (i := 0) (d := some 63) (v := ?_) rfl rfl (by kernel_rfl) (by kernel_rfl) (by kernel_rfl) (fun _ _ _ h => h) (by rfl) ?_ (by first | rfl | trivial | assumption) ?_
              rotate_left
              · (intro V hSw; (try (have hF := HSX.out V hSw)); (try (cases hSw)); (try go_split_ands); go_simp; try with_reducible rfl)
              simp only [Act.put, List.setIfInBounds_toArray, List.set_cons_zero, List.set_cons_succ]
              refine take_ (i := 1) (d := some 64) (v := ?_) rfl rfl (by kernel_rfl) (by kernel_rfl) (by kernel_rfl) (fun _ _ _ h => h) (by rfl) ?_ (by first | rfl | trivial | assumption) ?_
              rotate_left
              · (intro V hSw; (try (have hF := HSX.out V hSw)); (try (cases hSw)); (try go_split_ands); go_simp; try with_reducible rfl)
              simp only [Act.put, List.setIfInBounds_toArray, List.set_cons_zero, List.set_cons_succ]
              refine take_ (i := 2) (d := some 65) (v := ?_) rfl rfl (by kernel_rfl) (by kernel_rfl) (by kernel_rfl) (fun _ _ _ h => h) (by rfl) ?_ (by first | rfl | trivial | assumption) ?_
              rotate_left
              · (intro V hSw; (try (have hF := HSX.out V hSw)); (try (cases hSw)); (try go_split_ands); go_simp; try with_reducible rfl)
              simp only [Act.put, List.setIfInBounds_toArray, List.set_cons_zero, List.set_cons_succ]
              refine take_ (i := 3) (d := some 66) (v := ?_) rfl rfl (by kernel_rfl) (by kernel_rfl) (by kernel_rfl) (fun _ _ _ h => h) (by rfl) ?_ (by first | rfl | trivial | assumption) ?_
              rotate_left
              · (intro V hSw; (try (have hF := HSX.out V hSw)); (try (cases hSw)); (try go_split_ands); go_simp; try with_reducible rfl)
              simp only [Act.put, List.setIfInBounds_toArray, List.set_cons_zero, List.set_cons_succ]
              refine take_ (i := 4) (d := some 67) (v := ?_) rfl rfl (by kernel_rfl) (by kernel_rfl) (by kernel_rfl) (fun _ _ _ h => h) (by rfl) ?_ (by first | rfl | trivial | assumption) ?_
              rotate_left
              · (intro V hSw; (try (have hF := HSX.out V hSw)); (try (cases hSw)); (try go_split_ands); go_simp; try with_reducible rfl)
              simp only [Act.put, List.setIfInBounds_toArray, List.set_cons_zero, List.set_cons_succ]
              refine take_ (i := 5) (d := some 68) (v := ?_) rfl rfl (by kernel_rfl) (by kernel_rfl) (by kernel_rfl) (fun _ _ _ h => h) (by rfl) ?_ (by first | rfl | trivial | assumption) ?_
              rotate_left
              · (intro V hSw; (try (have hF := HSX.out V hSw)); (try (cases hSw)); (try go_split_ands); go_simp; try with_reducible rfl)
              simp only [Act.put, List.setIfInBounds_toArray, List.set_cons_zero, List.set_cons_succ]
              refine take_ (i := 6) (d := some 69) (v := ?_) rfl rfl (by kernel_rfl) (by kernel_rfl) (by kernel_rfl) (fun _ _ _ h => h) (by rfl) ?_ (by first | rfl | trivial | assumption) ?_
              rotate_left
              · (intro V hSw; (try (have hF := HSX.out V hSw)); (try (cases hSw)); (try go_split_ands); go_simp; try with_reducible rfl)
              simp only [Act.put, List.setIfInBounds_toArray, List.set_cons_zero, List.set_cons_succ]
              refine take_ (i := 7) (d := some 70) (v := ?_) rfl rfl (by kernel_rfl) (by kernel_rfl) (by kernel_rfl) (fun _ _ _ h => h) (by rfl) ?_ (by first | rfl | trivial | assumption) ?_
              rotate_left
              · (intro V hSw; (try (have hF := HSX.out V hSw)); (try (cases hSw)); (try go_split_ands); go_simp; try with_reducible rfl)
              simp only [Act.put, List.setIfInBounds_toArray, List.set_cons_zero, List.set_cons_succ]
              refine take_ (i := 8) (d := some 71) (v := ?_) rfl rfl (by kernel_rfl) (by kernel_rfl) (by kernel_rfl) (fun _ _ _ h => h) (by rfl) ?_ (by first | rfl | trivial | assumption) ?_
              rotate_left
              · (intro V hSw; (try (have hF := HSX.out V hSw)); (try (cases hSw)); (try go_split_ands); go_simp; try with_reducible rfl)
              simp only [Act.put, List.setIfInBounds_toArray, List.set_cons_zero, List.set_cons_succ]
              refine take_ (i := 10) (d := some 73) (v := ?_) rfl rfl (by kernel_rfl) (by kernel_rfl) (by kernel_rfl) (fun _ _ _ h => h) (by rfl) ?_ (by first | rfl | trivial | assumption) ?_
              rotate_left
              · (intro V hSw; (try (have hF := HSX.out V hSw)); (try (cases hSw)); (try go_split_ands); go_simp; try with_reducible rfl)
              simp only [Act.put, List.setIfInBounds_toArray, List.set_cons_zero, List.set_cons_succ]
              refine take_ (i := 11) (d := some 74) (v := ?_) rfl rfl (by kernel_rfl) (by kernel_rfl) (by kernel_rfl) (fun _ _ _ h => h) (by rfl) ?_ (by first | rfl | trivial | assumption) ?_
              rotate_left
              · (intro V hSw; (try (have hF := HSX.out V hSw)); (try (cases hSw)); (try go_split_ands); go_simp; try with_reducible rfl)
              simp only [Act.put, List.setIfInBounds_toArray, List.set_cons_zero, List.set_cons_succ]
              refine take_ (i := 12) (d := some 75) (v := ?_) rfl rfl (by kernel_rfl) (by kernel_rfl) (by kernel_rfl) (fun _ _ _ h => h) (by rfl) ?_ (by first | rfl | trivial | assumption) ?_
              rotate_left
              · (intro V hSw; (try (have hF := HSX.out V hSw)); (try (cases hSw)); (try go_split_ands); go_simp; try with_reducible rfl)
              simp only [Act.put, List.setIfInBounds_toArray, List.set_cons_zero, List.set_cons_succ]
              refine take_ (i := 13) (d := some 76) (v := ?_) rfl rfl (by kernel_rfl) (by kernel_rfl) (by kernel_rfl) (fun _ _ _ h => h) (by rfl) ?_ (by first | rfl | trivial | assumption) ?_
              rotate_left
              · (intro V hSw; (try (have hF := HSX.out V hSw)); (try (cases hSw)); (try go_split_ands); go_simp; try with_reducible rfl)
              simp only [Act.put, List.setIfInBounds_toArray, List.set_cons_zero, List.set_cons_succ]
              refine take_ (i := 14) (d := some 77) (v := ?_) rfl rfl (by kernel_rfl) (by kernel_rfl) (by kernel_rfl) (fun _ _ _ h => h) (by rfl) ?_ (by first | rfl | trivial | assumption) ?_
              rotate_left
              · (intro V hSw; (try (have hF := HSX.out V hSw)); (try (cases hSw)); (try go_split_ands); go_simp; try with_reducible rfl)
              simp only [Act.put, List.setIfInBounds_toArray, List.set_cons_zero, List.set_cons_succ]
              refine take_ (i := 15) (d := some 78) (v := ?_) rfl rfl (by kernel_rfl) (by kernel_rfl) (by kernel_rfl) (fun _ _ _ h => h) (by rfl) ?_ (by first | rfl | trivial | assumption) ?_
              rotate_left
              · (intro V hSw; (try (have hF := HSX.out V hSw)); (try (cases hSw)); (try go_split_ands); go_simp; try with_reducible rfl)
              simp only [Act.put, List.setIfInBounds_toArray, List.set_cons_zero, List.set_cons_succ]
              refine take_ (i := 16) (d := some 79) (v := ?_) rfl rfl (by kernel_rfl) (by kernel_rfl) (by kernel_rfl) (fun _ _ _ h => h) (by rfl) ?_ (by first | rfl | trivial | assumption) ?_
              rotate_left
              · (intro V hSw; (try (have hF := HSX.out V hSw)); (try (cases hSw)); (try go_split_ands); go_simp; try with_reducible rfl)
              simp only [Act.put, List.setIfInBounds_toArray, List.set_cons_zero, List.set_cons_succ]
              refine take_ (i := 17) (d := some 80) (v := ?_) rfl rfl (by kernel_rfl) (by kernel_rfl) (by kernel_rfl) (fun _ _ _ h => h) (by rfl) ?_ (by first | rfl | trivial | assumption) ?_
              rotate_left
              · (intro V hSw; (try (have hF := HSX.out V hSw)); (try (cases hSw)); (try go_split_ands); go_simp; try with_reducible rfl)
              simp only [Act.put, List.setIfInBounds_toArray, List.set_cons_zero, List.set_cons_succ]
              refine wpAnyH_ready (rs := [9, 18]) (by kernel_rfl) (by simp) ?_
              refine AllReadyH.cons (o := _) rfl (fun K hK => ?_) (AllReadyH.cons (o := _) rfl (fun K hK => ?_) AllReadyH.nil)
              · go_simp
                refine hK.out _ _ hbw9.drew (fun _ => ?_)
                clear hK K
                refine wpAnyH_ready (rs := [18]) (by kernel_rfl) (by simp) ?_
                refine AllReadyH.cons (o := _) rfl (fun K hK => ?_) AllReadyH.nil
                go_simp
                refine hK.out _ _ hbw9.drew (fun _ => ?_)
                clear hK K
                refine take_ (i := 19) (d := some 82) (v := ?_) rfl rfl (by kernel_rfl) (by kernel_rfl) (by kernel_rfl) (fun _ _ _ h => h) (by rfl) ?_ (by first | rfl | trivial | assumption) ?_
                rotate_left
                · (intro V hSw; (try (have hF := HSX.out V hSw)); (try (cases hSw)); (try go_split_ands); go_simp; try with_reducible rfl)
                simp only [Act.put, List.setIfInBounds_toArray, List.set_cons_zero, List.set_cons_succ]
                refine wpAnyH_ready (rs := [20]) (by kernel_rfl) (by simp) ?_
                refine AllReadyH.cons (o := _) rfl (fun K hK => ?_) AllReadyH.nil
                go_simp
                have hW : ∃ W, W = (wr.alloc (.cells #[.int .i64 z] 2)).drew := ⟨_, rfl⟩
                obtain ⟨W, hW⟩ := hW
                rw [← hW]
                have hownW : Own W w10.heap.size 2 1 A9 m c9 (icells (rowTo us q m)) := by rw [hW]; exact (by repeat (first | assumption | apply Own.drewN | apply Own.drew | apply Own.alloc))
                have hrdW : Rds W 1 (some ⟨wr.heap.size, 0, none⟩) 1 [.int .i64 z] := by rw [hW]; exact (Blk.new wr 2 #[.int .i64 z]).rds rfl
                have hbW : Below w10.heap.size w10 W := by rw [hW]; exact (hbm.alloc hz11 _).drew
                have hWsz : w10.heap.size ≤ W.heap.size := hbW.size
                clear hW
                refine hK.out _ _ (hbl.trans (hbW.mono hz10)) (fun _ => ?_)
                clear hK K
                refine wpAnyH_ready (rs := [21]) (by kernel_rfl) (by simp) ?_
                refine AllReadyH.cons (o := _) rfl (fun K hK => ?_) AllReadyH.nil
                with_reducible refine step_app' (some 84) rfl rfl (.tmp 63) (.tmp 83) 24 rfl 2 _ 1 8 infoI64 Tryd.underlying24 rfl (by omega) rfl rfl hownW hrdW (int_one _) (by omega) (by omega) hWsz ?_
                intro A' c' w' hown' hg _
                have hb5 : Below w10.heap.size w10 w' := Bel.grownOwn hbW hg hownW hWsz
                clear hownW hrdW hbW hg
                refine hK.out _ _ (hbl.trans (hb5.mono hz10)) (fun _ => ?_)
                clear hK K
                simp only [Act.put, List.setIfInBounds_toArray, List.set_cons_zero, List.set_cons_succ]
                refine take_ (i := 22) (d := some 9) (v := ?_) rfl rfl (by kernel_rfl) (by kernel_rfl) (by kernel_rfl) (fun _ _ _ h => h) (by rfl) ?_ (by first | rfl | trivial | assumption) ?_
                rotate_left
                · (intro V hSw; (try (have hF := HSX.out V hSw)); (try (cases hSw)); (try go_split_ands); go_simp; try with_reducible rfl)
                simp only [Act.put, List.setIfInBounds_toArray, List.set_cons_zero, List.set_cons_succ]
                refine wpAnyH_done (by kernel_rfl) ?_ _
                have HO := Lib.hid hown'
                clear hown'
                go_wp2_with fail
                go_roundw
                case rel => exact ⟨hb5, m + 1, A', c', by omega, by go_num, rfl, by rw [HN.out, icells_app]; exact HO.out⟩
                case measure => simp [intOf]; omega
              · go_simp
                refine hK.out _ _ hbw9.drew (fun _ => ?_)
                clear hK K
                refine wpAnyH_ready (rs := [9]) (by kernel_rfl) (by simp) ?_
                refine AllReadyH.cons (o := _) rfl (fun K hK => ?_) AllReadyH.nil
                go_simp
                refine hK.out _ _ hbw9.drew (fun _ => ?_)
                clear hK K
                refine take_ (i := 19) (d := some 82) (v := ?_) rfl rfl (by kernel_rfl) (by kernel_rfl) (by kernel_rfl) (fun _ _ _ h => h) (by rfl) ?_ (by first | rfl | trivial | assumption) ?_
                rotate_left
                · (intro V hSw; (try (have hF := HSX.out V hSw)); (try (cases hSw)); (try go_split_ands); go_simp; try with_reducible rfl)
                simp only [Act.put, List.setIfInBounds_toArray, List.set_cons_zero, List.set_cons_succ]
                refine wpAnyH_ready (rs := [20]) (by kernel_rfl) (by simp) ?_
                refine AllReadyH.cons (o := _) rfl (fun K hK => ?_) AllReadyH.nil
                go_simp
                have hW : ∃ W, W = (wr.alloc (.cells #[.int .i64 z] 2)).drew := ⟨_, rfl⟩
                obtain ⟨W, hW⟩ := hW
                rw [← hW]
                have hownW : Own W w10.heap.size 2 1 A9 m c9 (icells (rowTo us q m)) := by rw [hW]; exact (by repeat (first | assumption | apply Own.drewN | apply Own.drew | apply Own.alloc))
                have hrdW : Rds W 1 (some ⟨wr.heap.size, 0, none⟩) 1 [.int .i64 z] := by rw [hW]; exact (Blk.new wr 2 #[.int .i64 z]).rds rfl
                have hbW : Below w10.heap.size w10 W := by rw [hW]; exact (hbm.alloc hz11 _).drew
                have hWsz : w10.heap.size ≤ W.heap.size := hbW.size
                clear hW
                refine hK.out _ _ (hbl.trans (hbW.mono hz10)) (fun _ => ?_)
                clear hK K
                refine wpAnyH_ready (rs := [21]) (by kernel_rfl) (by simp) ?_
                refine AllReadyH.cons (o := _) rfl (fun K hK => ?_) AllReadyH.nil
                with_reducible refine step_app' (some 84) rfl rfl (.tmp 63) (.tmp 83) 24 rfl 2 _ 1 8 infoI64 Tryd.underlying24 rfl (by omega) rfl rfl hownW hrdW (int_one _) (by omega) (by omega) hWsz ?_
                intro A' c' w' hown' hg _
                have hb5 : Below w10.heap.size w10 w' := Bel.grownOwn hbW hg hownW hWsz
                clear hownW hrdW hbW hg
                refine hK.out _ _ (hbl.trans (hb5.mono hz10)) (fun _ => ?_)
                clear hK K
                simp only [Act.put, List.setIfInBounds_toArray, List.set_cons_zero, List.set_cons_succ]
                refine take_ (i := 22) (d := some 9) (v := ?_) rfl rfl (by kernel_rfl) (by kernel_rfl) (by kernel_rfl) (fun _ _ _ h => h) (by rfl) ?_ (by first | rfl | trivial | assumption) ?_
                rotate_left
                · (intro V hSw; (try (have hF := HSX.out V hSw)); (try (cases hSw)); (try go_split_ands); go_simp; try with_reducible rfl)
                simp only [Act.put, List.setIfInBounds_toArray, List.set_cons_zero, List.set_cons_succ]
                refine wpAnyH_done (by kernel_rfl) ?_ _
                have HO := Lib.hid hown'
                clear hown'
                go_wp2_with fail
                go_roundw
                case rel => exact ⟨hb5, m + 1, A', c', by omega, by go_num, rfl, by rw [HN.out, icells_app]; exact HO.out⟩
                case measure => simp [intOf]; omega
            · obtain rfl : m = k + 1 := by omega
              have hR0 := hown.rds.rdI
              have HRI := Lib.hid hR0
              have hcap := hown.cap
              have hcm := hown.capMax
              have hrw1 := (HRW.out.below hbm).below ((Below.refl _ _).alloc (Nat.le_refl _) (.cells #[.slice A9 (k + 1) c9] 24))
              have hb1 : Blk (wr.alloc (.cells #[.slice A9 (k + 1) c9] 24)) wr.heap.size 24 #[.slice A9 (k + 1) c9] := Blk.new _ _ _
              have hrd := hb1.rds (s := 1) (m := 1) rfl
              have hown1 := hrw1.1
              have hbel : Below w9.heap.size w9 (wr.alloc (.cells #[.slice A9 (k + 1) c9] 24)) := (hbl.trans (hbm.mono hz10)).alloc (Nat.le_trans hz10 hbm.size) _
              have hri1 := hR0.below ((Below.refl _ _).alloc (Nat.le_refl _) (.cells #[.slice A9 (k + 1) c9] 24))
              have hne : ∀ g, blkOf A9 = some g → g < (wr.alloc (.cells #[.slice A9 (k + 1) c9] 24)).heap.size ∧ blkOf A7 ≠ some g := fun g e => by
                have h1 := hown.lt g e
                refine ⟨by simp; omega, fun e2 => ?_⟩
                have h2 := HRW.out.1.lt g e2
                omega
              have hz11 : w9.heap.size ≤ wr.heap.size := Nat.le_trans hz10 hbm.size
              have HN := Lib.hid (tabTo_next us (k + 1) q)
              clear hb1 hR0 hown hbm
              go_wp2_with (at_builtin; with_reducible refine wpList_app rfl (.tmp 85) (.tmp 87) 31 rfl 24 _ 1 24 infoRow64 Tryd.underlying31 rfl (by omega) rfl rfl hown1 hrd (slice_one _ _ _) (by omega) (by omega) (by simp; omega) ?_)
              intro A' c' w' hown' hg' hat
              have hPU := Lib.hid (hrw1.push hown' hg' (by simpa using hat) hri1 hne hcap hcm)
              have hbn : Below w9.heap.size w9 w' := Bel.grownOwn hbel hg' hown1 (by simp; omega)
              clear hown' hg' hat hown1 hrd hrw1 hri1 hne hbel
              go_wp2
              go_roundw
              case rel => exact ⟨hbn, q + 1, A', c', _, by omega, by go_num, rfl, by rw [HN.out]; exact hPU.out⟩
              case measure => simp [intOf]; omega
        · obtain rfl : q = k + 1 := by omega
          have hT := hrw.rdT
          have hJr := hJ.below hbl hJ.lt
          obtain ⟨j0, j1, j2, j3⟩ := hJr.four
          have hsq := tab_sq HS.out (N := k + 1) (by omega)
          have hlT := tab_lineT us k
          have hpl : ∀ i j, i < j → j ≤ k → posn us i < posn us j := fun i j h1 _ => posn_lt HS.out i j h1
          have hpb : 2 * posn us k < INF := by unfold INF; omega
          have hst1 : (List.replicate k ((0 : Int), (1 : Int))).length = k := by simp
          have hst2 : ∀ p ∈ List.replicate k ((0 : Int), (1 : Int)), p.2 = 1 := fun p hp => by rw [(List.mem_replicate.1 hp).2]
          have hld : LdOk (List.replicate k ((0 : Int), (1 : Int))) := fun p hp => by rw [hst2 p hp]; omega
          have HLD := Lib.hid hld
          have HSQ := Lib.hid hsq
          have HFP := Lib.hid (show FitsP 100 1152921504606846976 (tabTo us (k + 1) (k + 1)) (List.replicate k (0, 1)) from line_fits hst1 hst2 hlT rfl hpl hpb)
          have HLAW := Lib.hid (show ∀ (L : List Sv) (R : List (List Int)), L.Perm (allSv (tabTo us (k + 1) (k + 1))) → L.Pairwise svLt → R.Perm (L.foldl (joinStep 100 1152921504606846976 (tabTo us (k + 1) (k + 1)) (List.replicate k (0, 1))) (singles k)) → R = [stopsTo k] ∧ lenR (tabTo us (k + 1) (k + 1)) (stopsTo k) = 2 * posn us k ∧ RightP k 100 1152921504606846976 (tabTo us (k + 1) (k + 1)) (List.replicate k (0, 1)) [stopsTo k] from
            fun L R h1 h2 h3 => (saveLine_law (by omega) (by omega) hsq hst1 hst2 hlT rfl hpl hpb h1 h2 h3).2)
          have hbw2 : Below w.heap.size w wr := hbw.trans (hbl.mono hbw.size)
          have hSTr := HST.out.below hbl
          have HTT := Lib.hid hT
          clear hrw hsq hlT hpl hst1 hst2 hld hJ hT
          generalize List.replicate k ((0 : Int), (1 : Int)) = st at *
          generalize tabTo us (k + 1) (k + 1) = ls at *
          go_wp2_with fail
          with_reducible refine (to_any 0 100 1152921504606846976 A4 k c4 st wr hSTr (by omega)).mono ?_
          rintro e w11 ⟨A11, c11, rfl, hp11, hb11⟩
          have hJ11 := hJr.below hb11 hJr.lt
          have hbw11 : Below w.heap.size w w11 := Bel.step hbw2 hb11
          have HP11 := Lib.hid hp11
          have HT11 := Lib.hid (HTT.out.below hb11)
          have HST11 := Lib.hid (hSTr.below hb11)
          clear hp11 hb11 hJr j0 j1 j2 j3 hbw2 hSTr HTT
          go_wp2_with fail
          with_reducible refine (saveJoin_any 0 100 1152921504606846976 A11 A7 k c11 c7 st ls w11 HP11.out HLD.out HT11.out HSQ.out HFP.out (by omega)).mono ?_
          rintro e w12 ⟨A12, m12, c12, L, R, rfl, hR, hp, hs', hRp, hRd, hb12⟩
          obtain ⟨rfl, hlen, hright⟩ := HLAW.out L R hp hs' hRp
          obtain rfl : m12 = 1 := hR.1.symm
          obtain ⟨rb, ro, A13, n13, c13, rfl, hcell, hrow, _, _⟩ := hR.2 0 _ rfl
          obtain rfl : n13 = k := by have := hrow.1; simpa [stopsTo] using this.symm
          have HR := Lib.hid hR
          have HRW2 := Lib.hid hrow
          have HLEN := Lib.hid hlen
          have HRG := Lib.hid hright
          have hbw12 : Below w.heap.size w w12 := Bel.step hbw11 hb12
          have hJ12 := hJ11.below hb12 hJ11.lt
          have HT12 := Lib.hid (HT11.out.below hb12)
          have HST12 := Lib.hid (HST11.out.below hb12)
          clear hR hp hs' hRp hRd hb12 hrow hlen hright hJ11 hbw11 HP11 HT11 HST11 HLAW
          rw [Nat.add_zero] at hcell
          have hp9 := posn_bd HS.out n13
          have e5 : IntKind.i64.wrap (2 * posn us n13) = 2 * posn us n13 := IntWalk.i64_in _ (by omega)
          obtain ⟨j0, j1, j2, j3⟩ := hJ12.four
          go_wp2_with fail
          with_reducible refine (refLength_any A7 A13 (n13 + 1) c7 n13 c13 ls (stopsTo n13) w12 HT12.out (sq_of HSQ.out) (by omega) HRW2.out (by omega)).mono ?_
          rintro e w13 ⟨rfl, hb13⟩
          rw [HLEN.out]
          have hbw13 : Below w.heap.size w w13 := Bel.step hbw12 hb13
          have hJ13 := hJ12.below hb13 hJ12.lt
          have HT13 := Lib.hid (HT12.out.below hb13)
          have HST13 := Lib.hid (HST12.out.below hb13)
          have HR13 := Lib.hid (HR.out.below hb13)
          clear hb13 hJ12 j0 j1 j2 j3 HR
          obtain ⟨j0, j1, j2, j3⟩ := hJ13.four
          go_wp2_with fail
          with_reducible refine (refRight_any 0 100 1152921504606846976 A4 (some ⟨rb, ro, none⟩) A7 n13 c4 1 c12 (n13 + 1) c7 st ls [stopsTo n13] w13 HST13.out HLD.out HR13.out HT13.out (sq_of HSQ.out) (by omega) (by omega) (by omega) HRG.out).mono ?_
          rintro e w14 ⟨rfl, hb14⟩
          have hbw14 : Below w.heap.size w w14 := Bel.step hbw13 hb14
          go_wp2_with fail
          go_ret
          exact ⟨rfl, hbw14⟩
end Go.Proofs.YtjphjbchhhembaaDoor
