/- save.Join, walked. -/
import Derived.Test.YtjphjbchhhembaaGreatDoorJnQ
namespace Go.Proofs.YtjphjbchhhembaaGreatDoor
open Go.RowKit

attribute [local go_sem ↓] Go.wp_at_zero Go.wp_at_succ

theorem run_makeRows (n : Nat) (hn : n ≤ 1000000000) (W : World) : (Instr.makeSlice 28 (.int .i64 (n : Int)) (.int .i64 (n : Int))).run Tryz.prog W = .ok (.slice (some ⟨W.heap.size, 0, none⟩) n n) (W.alloc (.cells (zeros (.slice none 0 0) n) 38)) :=
  run_make1 (P := Tryz.prog) 28 38 (.slice none 0 0) 24 infoR Tryz.underlying28 rfl n (by omega) (by omega) .i64 .i64 W

theorem Rts.push {W : World} {g N : Nat} {rs : List (List Int)} {l : List Int} {A : Option Addr} {n c k : Nat} (h : Rts W g N rs) (hk : rs.length = k) (hi : k < N) (hA : RdI W A n l) (hne : blkOf A ≠ some g) (h4 : n ≤ c) (h5 : c ≤ 9223372036854775807) :
    Rts (W.setCell ⟨g, k, none⟩ (.slice A n c)) g N (rs ++ [l]) := by
  subst hk
  obtain ⟨h0, cs, h1, h2, hr⟩ := h
  have hgb := grownBy_set W g rs.length (.slice A n c)
  refine ⟨by simp; omega, _, h1.set_ rs.length (.slice A n c), by simpa using h2, fun j l' hl => ?_⟩
  by_cases e : rs.length = j
  · subst e
    rw [List.getElem?_append_right (Nat.le_refl _), Nat.sub_self] at hl
    cases hl
    exact ⟨A, n, c, by rw [Array.getElem?_setIfInBounds_self_of_lt (by omega)], hA.grown hgb hne, hne, h4, h5⟩
  · have hj : j < rs.length := by
      have := (List.getElem?_eq_some_iff.1 hl).1
      simp at this
      omega
    rw [List.getElem?_append_left hj] at hl
    obtain ⟨A', n', c', g1, g2, g3, g4, g5⟩ := hr j l' hl
    exact ⟨A', n', c', by rw [Array.getElem?_setIfInBounds_ne e]; exact g1, g2.grown hgb g3, g3, g4, g5⟩
theorem Rts.cellAt {W : World} {g N k : Nat} {rs : List (List Int)} (h : Rts W g N rs) (hk : k < N) : ∃ v, ∀ o, (W.alloc o).cell? ⟨g, k, none⟩ = some v ∧ (W.alloc o).frozen? ⟨g, k, none⟩ = false := by
  obtain ⟨h0, cs, h1, h2, hr⟩ := h
  refine ⟨cs[k]'(by omega), fun o => ⟨?_, (h1.alloc o).frozen k⟩⟩
  rw [(h1.alloc o).cell]
  exact Array.getElem?_eq_getElem (by omega)
theorem RdS.grown {w w' : World} {A : Option Addr} {n g : Nat} {L : List Sv} (h : RdS w A n L) (hg : w.grownBy w' (some g)) (hne : blkOf A ≠ some g) : RdS w' A n L :=
  ⟨h.1, fun i x hx => by
    obtain ⟨b, o, e, h1, h2, h3⟩ := h.2 i x hx
    subst e
    have hbne : (some b : Option Nat) ≠ some g := hne
    have hb := lt_of_cell h1
    have hk := hg.block b hb (fun e => hbne e)
    refine ⟨b, o, rfl, ?_, ?_, ?_⟩
    all_goals
      unfold World.cell? at h1 h2 h3 ⊢
      rw [hk]
      assumption⟩
theorem singles_next {n k : Nat} (hk : k < n) : (singles n).take (k + 1) = (singles n).take k ++ [[(k : Int) + 1]] := by
  have hl : k < (singles n).length := by simp [singles]; exact hk
  rw [List.take_succ_eq_append_getElem hl]
  simp [singles]

set_option maxHeartbeats 4000000 in
theorem saveJoin_any (dep cap lim : Int) (A T : Option Addr) (n c tc : Nat) (st : List (Int × Int)) (ls : List (List Int)) (w : World) (h : RdP w A n st) (hL : LdOk st) (ht : RdT w T (n + 1) ls) (hs : sqB (n + 1) ls = true) (hf : FitsP cap lim ls st) (hn : n ≤ 900) :
    Calls Tryz.prog 7 #[jobV dep cap lim A n c, .slice T (n + 1) tc] w fun e w' => ∃ (A' : Option Addr) (m c' : Nat) (L : List Sv) (R : List (List Int)), e = .returned (.tuple #[.slice A' m c', .nilIface]) ∧ RdT w' A' m R ∧ L.Perm (allSv ls) ∧ L.Pairwise svLt ∧ R.Perm (L.foldl (joinStep cap lim ls st) (singles n)) ∧ R.Pairwise (fun a b => headI a < headI b) ∧ Below w.heap.size w w' := by
  have HFi := Lib.hid (show ∀ V, Below w.heap.size w V → Calls Tryz.prog 20 #[jobV dep cap lim A n c, .slice T (n + 1) tc] V fun e w' => e = .returned .nilIface ∧ Below V.heap.size V w' from fun V hV => jobFits_ok dep cap lim A T n c tc st ls V (h.below hV) (ht.below hV) hs hf (by omega))
  have HLi := Lib.hid (show ∀ V, Below w.heap.size w V → Calls Tryz.prog 13 #[.slice T (n + 1) tc] V fun e w' => ∃ A' m c' L, e = .returned (.slice A' m c') ∧ RdS w' A' m L ∧ L.Perm (allSv ls) ∧ L.Pairwise svLt ∧ (∀ g, g < V.heap.size → blkOf A' ≠ some g) ∧ Below V.heap.size V w' from fun V hV => list_any T (n + 1) tc ls V (ht.below hV) hs (by omega) (by omega))
  have HGo := Lib.hid (show ∀ V, Below w.heap.size w V → ∀ R m d r, RdI V R m r → m ≤ 1000000000 → Calls Tryz.prog 25 #[jobV dep cap lim A n c, .slice T (n + 1) tc, .slice R m d] V fun e w' => e = .returned (.bool (goesB cap lim ls st r)) ∧ Below V.heap.size V w' from fun V hV R m d r hr hm => saveGoes_any dep cap lim A R T n c m d (n + 1) tc st r ls V (h.below hV) hL hr (ht.below hV) (sq_of hs) (by omega) (by omega) hm)
  have hmk := run_makeRows n (by omega)
  have HLN := Lib.hid (sqB_size hs)
  clear h hL ht hs hf
  go_enter Tryz.func7, Tryz.ntmps7
  go_wp2_with fail
  (refine calls_named ?_; intro w1 hw1)
  have hb1 : Below w.heap.size w w1 := by rw [hw1]; exact (by repeat (first | exact Below.refl _ _ | assumption | apply Below.drew | apply below_drewN | apply Bel.alloc | (refine Bel.setCell_ ?_ ?_; rotate_left; omega) | (refine Bel.step ?_ (by assumption))))
  have hB : Blk w1 w.heap.size 35 #[.int .i64 dep, .int .i64 cap, .int .i64 lim, .slice A n c] := by rw [hw1]; exact Blk.new _ _ _
  clear hw1
  with_reducible refine (HFi.out _ hb1).mono ?_
  rintro e w2 ⟨rfl, hb2⟩
  have hB2 := hB.below hb2 hB.lt
  obtain ⟨b0, b1, b2, b3⟩ := hB2.four
  have hb3 : Below w.heap.size w w2 := (by repeat (first | exact Below.refl _ _ | assumption | apply Below.drew | apply below_drewN | apply Bel.alloc | (refine Bel.setCell_ ?_ ?_; rotate_left; omega) | (refine Bel.step ?_ (by assumption))))
  clear HFi hB hb1 hb2
  go_wp2_with fail
  obtain ⟨w3, hw3⟩ : ∃ w3, w3 = w2.alloc (.cells (zeros (.slice none 0 0) n) 38) := ⟨_, rfl⟩
  rw [← hw3]
  have hb4 : Below w.heap.size w w3 := by rw [hw3]; exact (by repeat (first | exact Below.refl _ _ | assumption | apply Below.drew | apply below_drewN | apply Bel.alloc | (refine Bel.setCell_ ?_ ?_; rotate_left; omega) | (refine Bel.step ?_ (by assumption))))
  have hX3 : Blk w3 w.heap.size 35 #[.int .i64 dep, .int .i64 cap, .int .i64 lim, .slice A n c] := by rw [hw3]; exact hB2.alloc _
  have hR3 : Rts w3 w2.heap.size n [] := ⟨Nat.zero_le _, zeros (.slice none 0 0) n, by rw [hw3]; exact Blk.new _ _ _, by simp [zeros], fun j l hl => by simp at hl⟩
  have hz2 := hb3.size
  have hz3 : w.heap.size < w2.heap.size := hB2.lt
  clear hw3 b0 b1 b2 b3 hB2 hmk
  go_loopw [26] (fun i W => Below w.heap.size w W ∧ Blk W w.heap.size 35 #[.int .i64 dep, .int .i64 cap, .int .i64 lim, .slice A n c] ∧ ∃ k : Nat, k ≤ n ∧ i = .int .i64 k ∧ Rts W w2.heap.size n ((singles n).take k)) (fun i _ => n - (intOf i).toNat)
  case atStart => exact ⟨hb4, hX3, 0, Nat.zero_le _, rfl, hR3⟩
  case round =>
    clear hb4 hX3 hR3
    obtain ⟨hbl, hX, k, hk, rfl, hR⟩ := hrel
    by_cases hlt : k < n
    · obtain ⟨v, hv⟩ := hR.cellAt hlt
      have hv1 := fun o => (hv o).1
      have hv2 := fun o => (hv o).2
      have HN := Lib.hid (singles_next hlt)
      have hlen : ((singles n).take k).length = k := by simp [singles]; omega
      have hz4 := hR.lt
      have i1 : (0 : Int) ≤ (k : Int) := by omega
      have i2 : (k : Int) < (n : Int) := by omega
      clear hv
      go_wp2_with fail
      have e0 : (wr.setCell ⟨w2.heap.size, k, none⟩ (.slice (some ⟨wr.heap.size, 0, none⟩) 1 1)).alloc (.cells #[.int .i64 ((k : Int) + 1)] 3) = (wr.alloc (.cells #[.int .i64 ((k : Int) + 1)] 3)).setCell ⟨w2.heap.size, k, none⟩ (.slice (some ⟨wr.heap.size, 0, none⟩) 1 1) :=
        (World.setCell_alloc_past _ _ _ _ hz4).symm
      rw [e0]
      have hb5 : Blk (wr.alloc (.cells #[.int .i64 ((k : Int) + 1)] 3)) wr.heap.size 3 (ints [(k : Int) + 1]) := Blk.new _ _ _
      have hP := Rts.push (n := 1) (c := 1) (hR.below (Below.alloc (Below.refl _ _) (Nat.le_refl _) (.cells #[.int .i64 ((k : Int) + 1)] 3))) hlen hlt (hb5.rdI rfl) (by simp [blkOf]; omega) (Nat.le_refl _) (by omega)
      exact ⟨⟨(by repeat (first | exact Below.refl _ _ | assumption | apply Below.drew | apply below_drewN | apply Bel.alloc | (refine Bel.setCell_ ?_ ?_; rotate_left; omega) | (refine Bel.step ?_ (by assumption)))), (by repeat (first | assumption | apply Blk.drewN | apply Blk.drew | apply Blk.alloc | (refine Blk.far_ ?_ ?_ _; rotate_left; omega))), k + 1, by omega, by go_num, by rw [HN.out]; exact hP⟩, by simp [intOf]; omega⟩
    · obtain rfl : k = n := by omega
      rw [List.take_of_length_le (by simp [singles])] at hR
      have HS := Lib.hid (singles_parts k)
      go_wp2_with fail
      with_reducible refine (HLi.out _ hbl).mono ?_
      rintro e w5 ⟨A5, m5, c5, L, rfl, hLr, hLp, hLs, hLf, hb5⟩
      have hLf5 := hLf w2.heap.size hR.lt
      have hR5 := hR.below hb5
      have hX5 := hX.below hb5 hX.lt
      have hbl5 : Below w.heap.size w w5 := (by repeat (first | exact Below.refl _ _ | assumption | apply Below.drew | apply below_drewN | apply Bel.alloc | (refine Bel.setCell_ ?_ ?_; rotate_left; omega) | (refine Bel.step ?_ (by assumption))))
      have HLP := Lib.hid hLp
      have HLS := Lib.hid hLs
      have hm5 : m5 ≤ 810000 := by
        have h1 := hLr.1
        have h2 := hLp.length_eq
        have h3 := rawSv_len ls (ls.length - 1) (ls.length - 1)
        have h4 := HLN.out
        unfold allSv at h2
        have h5 : (ls.length - 1) * (ls.length - 1) ≤ 900 * 900 := Nat.mul_le_mul (by omega) (by omega)
        omega
      have HLL := Lib.hid hLr.1
      clear hLp hLs hR hX hbl hb5 HLi
      go_wp2_with fail
      go_loopw [7, 39] (fun a i W => Below w.heap.size w W ∧ Blk W w.heap.size 35 #[.int .i64 dep, .int .i64 cap, .int .i64 lim, .slice A k c] ∧ ∃ (q : Nat) (rs : List (List Int)), q ≤ m5 ∧ i = .int .i64 q ∧ a = .slice (some ⟨w2.heap.size, 0, none⟩) rs.length k ∧ Rts W w2.heap.size k rs ∧ Parts k rs ∧ rs = (L.take q).foldl (joinStep cap lim ls st) (singles k) ∧ RdS W A5 m5 L) (fun _ i _ => m5 - (intOf i).toNat)
      case atStart => exact ⟨hbl5, hX5, 0, singles k, Nat.zero_le _, rfl, by simp [singles], hR5, HS.out, by simp, hLr⟩
      case round =>
        have hw5 := hbl5.size
        clear hbl5 hX5 hR5 hLr
        obtain ⟨hbl, hX, q, rs, hq, rfl, rfl, hR, hP, hrs, hSv⟩ := hrel
        have HRS := Lib.hid hrs
        have HPP := Lib.hid hP
        have hrl := hR.1
        clear hrs
        by_cases hlt2 : q < m5
        · obtain ⟨sb, so, I, J, S, rfl, hx, c0, c1, c2⟩ := hSv.at_ hlt2
          have HN := Lib.hid (fold_next (joinStep cap lim ls st) (singles k) hx)
          have i1 : (0 : Int) ≤ (q : Int) := by omega
          have i2 : (q : Int) < (m5 : Int) := by omega
          clear hx hP
          go_wp2_with fail
          (refine calls_named ?_; intro w6 hw6)
          have hbr : Below wr.heap.size wr w6 := by rw [hw6]; exact (by repeat (first | exact Below.refl _ _ | assumption | apply Below.drew | apply below_drewN | apply Bel.alloc | (refine Bel.setCell_ ?_ ?_; rotate_left; omega) | (refine Bel.step ?_ (by assumption))))
          have hbox : Blk w6 wr.heap.size 50 #[.int .i64 I, .int .i64 J, .int .i64 S] := by rw [hw6]; exact Blk.new _ _ _
          have hb6 : Below w.heap.size w w6 := Bel.step hbl hbr
          have hR6 := hR.below hbr
          have hX6 := hX.below hbr hX.lt
          have hSv6 := hSv.below hbr
          have p0 : w6.cell? ⟨wr.heap.size, 0, none⟩ = some (.int .i64 I) := by rw [hbox.cell]; rfl
          have p1 : w6.cell? ⟨wr.heap.size, 1, none⟩ = some (.int .i64 J) := by rw [hbox.cell]; rfl
          clear hw6 hR hX hSv hbl hbox c0 c1 c2
          have HNX := Lib.hid (show (L.take (q + 1)).foldl (joinStep cap lim ls st) (singles k) = joinStep cap lim ls st rs (I, J, S) by rw [HN.out, ← HRS.out])
          clear HN HRS
          with_reducible refine (first_any w2.heap.size k k wr.heap.size k I rs w6 hR6 HPP.out (by omega) (by omega) p0).mono ?_
          rintro e w7 ⟨rfl, hb67⟩
          have hb7 : Below w.heap.size w w7 := Bel.step hb6 hb67
          have hR7 := hR6.below hb67
          have hX7 := hX6.below hb67 hX6.lt
          have hSv7 := hSv6.below hb67
          have p1' := Below.cellOf hb67 (Nat.le_refl _) p1
          have hsz7 : wr.heap.size ≤ w7.heap.size := Nat.le_trans hbr.size hb67.size
          clear hR6 hX6 hSv6 p0 p1 hb6 hb67 hbr
          have hfc := firstOf_cases rs I
          generalize hfi : firstOf rs I = fi at *
          have HFI := Lib.hid hfi
          clear hfi
          go_wp2_with fail
          with_reducible refine (then_any w2.heap.size k k wr.heap.size k J rs w7 hR7 HPP.out (by omega) (by omega) p1').mono ?_
          rintro e w8 ⟨rfl, hb78⟩
          have hb8 : Below w.heap.size w w8 := Bel.step hb7 hb78
          have hR8 := hR7.below hb78
          have hX8 := hX7.below hb78 hX7.lt
          have hSv8 := hSv7.below hb78
          clear hR7 hX7 hSv7 p1' hb7 hb78 hsz7
          have htc := thenOf_cases rs J
          generalize hti : thenOf rs J = ti at *
          have HTI := Lib.hid hti
          clear hti
          rcases hfc with hneg | ⟨f, hf, rfl⟩
          · have HJ := Lib.hid (joinStep_skip (cap := cap) (lim := lim) (ls := ls) (st := st) (rs := rs) (s := (I, J, S)) (Or.inl (by simp only; rw [HFI.out]; exact hneg)))
            clear htc
            go_wp2_with fail
            go_roundw
            case rel => exact ⟨hb8, hX8, q + 1, rs, by omega, by go_num, rfl, hR8, HPP.out, by rw [HNX.out, HJ.out], hSv8⟩
            case measure => simp [intOf]; omega
          have f0 : ¬ (f : Int) < 0 := by omega
          rcases htc with hneg | ⟨t, ht, rfl⟩
          · have HJ := Lib.hid (joinStep_skip (cap := cap) (lim := lim) (ls := ls) (st := st) (rs := rs) (s := (I, J, S)) (Or.inr (Or.inl (by simp only; rw [HTI.out]; exact hneg))))
            go_wp2_with fail
            go_roundw
            case rel => exact ⟨hb8, hX8, q + 1, rs, by omega, by go_num, rfl, hR8, HPP.out, by rw [HNX.out, HJ.out], hSv8⟩
            case measure => simp [intOf]; omega
          have t0 : ¬ (t : Int) < 0 := by omega
          by_cases hft : f = t
          · subst hft
            have HJ := Lib.hid (joinStep_skip (cap := cap) (lim := lim) (ls := ls) (st := st) (rs := rs) (s := (I, J, S)) (Or.inr (Or.inr (by simp only; rw [HTI.out, HFI.out]))))
            go_wp2_with fail
            go_roundw
            case rel => exact ⟨hb8, hX8, q + 1, rs, by omega, by go_num, rfl, hR8, HPP.out, by rw [HNX.out, HJ.out], hSv8⟩
            case measure => simp [intOf]; omega
          have HJ := Lib.hid (joinStep_go (cap := cap) (lim := lim) (ls := ls) (st := st) (rs := rs) (s := (I, J, S)) (f := f) (t := t) HFI.out HTI.out hft)
          have ft0 : ((f : Int) == (t : Int)) = false := by simp only [beq_eq_false_iff_ne]; omega
          clear HFI HTI
          obtain ⟨A1, n1, c1, d1, _, r1, e1, b1, m1⟩ := hR8.row hf
          obtain ⟨A2, n2, c2, d2, _, r2, e2, b2, m2⟩ := hR8.row ht
          obtain ⟨bd1, bd2⟩ := HPP.out.bd hf
          obtain ⟨bd3, bd4⟩ := HPP.out.bd ht
          have l1 := r1.1
          have l2 := r2.1
          have HSX := Lib.hid (show ∀ V, Below w8.heap.size w8 V → V.cell? ⟨w2.heap.size, f, none⟩ = some (.slice A1 n1 c1) ∧ V.cell? ⟨w2.heap.size, t, none⟩ = some (.slice A2 n2 c2) from
            fun V hb => ⟨Below.cellOf hb (Nat.le_refl _) d1, Below.cellOf hb (Nat.le_refl _) d2⟩)
          generalize hl1 : rs.getD f [] = row1 at *
          generalize hl2 : rs.getD t [] = row2 at *
          clear hl1 hl2 d1 d2
          have i3 : (0 : Int) ≤ (f : Int) := by omega
          have i4 : (f : Int) < (rs.length : Int) := by omega
          have i5 : (0 : Int) ≤ (t : Int) := by omega
          have i6 : (t : Int) < (rs.length : Int) := by omega
          go_wp2_with fail
          refine wp_region_held_drew (S := fun V => Below w8.heap.size w8 V) (by kernel_rfl) (by repeat (first | exact Below.refl _ _ | assumption | apply Below.drew | apply below_drewN | apply Bel.alloc | (refine Bel.setCell_ ?_ ?_; rotate_left; omega) | (refine Bel.step ?_ (by assumption)))) (fun _ => ?_)
          refine take_ (i := 0) (d := some 60) (v := ?_) rfl rfl (by kernel_rfl) (by kernel_rfl) (by kernel_rfl) (fun _ _ _ h => h) (by rfl) ?_ (by first | rfl | trivial | assumption) ?_
          rotate_left
          · (intro V hSw; (try (have hF := HSX.out V hSw)); (try (cases hSw)); (try go_split_ands); go_simp; try with_reducible rfl)
          simp only [Act.put, List.setIfInBounds_toArray, List.set_cons_zero, List.set_cons_succ]
          refine take_ (i := 1) (d := some 61) (v := ?_) rfl rfl (by kernel_rfl) (by kernel_rfl) (by kernel_rfl) (fun _ _ _ h => h) (by rfl) ?_ (by first | rfl | trivial | assumption) ?_
          rotate_left
          · (intro V hSw; (try (have hF := HSX.out V hSw)); (try (cases hSw)); (try go_split_ands); go_simp; try with_reducible rfl)
          simp only [Act.put, List.setIfInBounds_toArray, List.set_cons_zero, List.set_cons_succ]
          refine take_ (i := 2) (d := some 62) (v := ?_) rfl rfl (by kernel_rfl) (by kernel_rfl) (by kernel_rfl) (fun _ _ _ h => h) (by rfl) ?_ (by first | rfl | trivial | assumption) ?_
          rotate_left
          · (intro V hSw; (try (have hF := HSX.out V hSw)); (try (cases hSw)); (try go_split_ands); go_simp; try with_reducible rfl)
          simp only [Act.put, List.setIfInBounds_toArray, List.set_cons_zero, List.set_cons_succ]
          refine take_ (i := 3) (d := some 63) (v := ?_) rfl rfl (by kernel_rfl) (by kernel_rfl) (by kernel_rfl) (fun _ _ _ h => h) (by rfl) ?_ (by first | rfl | trivial | assumption) ?_
          rotate_left
          · (intro V hSw; (try (have hF := HSX.out V hSw)); (try (cases hSw)); (try go_split_ands); go_simp; try with_reducible rfl)
          simp only [Act.put, List.setIfInBounds_toArray, List.set_cons_zero, List.set_cons_succ]
          refine take_ (i := 4) (d := some 64) (v := ?_) rfl rfl (by kernel_rfl) (by kernel_rfl) (by kernel_rfl) (fun _ _ _ h => h) (by rfl) ?_ (by first | rfl | trivial | assumption) ?_
          rotate_left
          · (intro V hSw; (try (have hF := HSX.out V hSw)); (try (cases hSw)); (try go_split_ands); go_simp; try with_reducible rfl)
          simp only [Act.put, List.setIfInBounds_toArray, List.set_cons_zero, List.set_cons_succ]
          refine take_ (i := 5) (d := some 65) (v := ?_) rfl rfl (by kernel_rfl) (by kernel_rfl) (by kernel_rfl) (fun _ _ _ h => h) (by rfl) ?_ (by first | rfl | trivial | assumption) ?_
          rotate_left
          · (intro V hSw; (try (have hF := HSX.out V hSw)); (try (cases hSw)); (try go_split_ands); go_simp; try with_reducible rfl)
          simp only [Act.put, List.setIfInBounds_toArray, List.set_cons_zero, List.set_cons_succ]
          refine take_ (i := 6) (d := some 66) (v := ?_) rfl rfl (by kernel_rfl) (by kernel_rfl) (by kernel_rfl) (fun _ _ _ h => h) (by rfl) ?_ (by first | rfl | trivial | assumption) ?_
          rotate_left
          · (intro V hSw; (try (have hF := HSX.out V hSw)); (try (cases hSw)); (try go_split_ands); go_simp; try with_reducible rfl)
          simp only [Act.put, List.setIfInBounds_toArray, List.set_cons_zero, List.set_cons_succ]
          refine take_ (i := 7) (d := some 67) (v := ?_) rfl rfl (by kernel_rfl) (by kernel_rfl) (by kernel_rfl) (fun _ _ _ h => h) (by rfl) ?_ (by first | rfl | trivial | assumption) ?_
          rotate_left
          · (intro V hSw; (try (have hF := HSX.out V hSw)); (try (cases hSw)); (try go_split_ands); go_simp; try with_reducible rfl)
          simp only [Act.put, List.setIfInBounds_toArray, List.set_cons_zero, List.set_cons_succ]
          refine wpAnyH_ready (rs := [8]) (by kernel_rfl) (by simp) ?_
          refine AllReadyH.cons (o := _) rfl (fun K hK => ?_) AllReadyH.nil
          go_simp
          refine hK.out _ _ (by repeat (first | exact Below.refl _ _ | assumption | apply Below.drew | apply below_drewN | apply Bel.alloc | (refine Bel.setCell_ ?_ ?_; rotate_left; omega) | (refine Bel.step ?_ (by assumption)))) (fun _ => ?_)
          clear hK K
          refine wpAnyH_ready (rs := [9]) (by kernel_rfl) (by simp) ?_
          refine AllReadyH.cons (o := _) rfl (fun K hK => ?_) AllReadyH.nil
          go_simp
          (refine calls_named ?_; intro w9 hw9)
          have hB9 : Blk w9 w8.heap.size 38 #[.slice A1 n1 c1, .slice A2 n2 c2] := by rw [hw9]; exact (by repeat (first | assumption | (refine Blk.new' _ _ _ ?_; first | with_unfolding_all rfl | (simp; done)) | apply Blk.drewN | apply Blk.drew | apply Blk.alloc | (refine Blk.far_ ?_ ?_ _; rotate_left; omega)))
          have hb89 : Below w8.heap.size w8 w9 := by rw [hw9]; exact (by repeat (first | exact Below.refl _ _ | assumption | apply Below.drew | apply below_drewN | apply Bel.alloc | (refine Bel.setCell_ ?_ ?_; rotate_left; omega) | (refine Bel.step ?_ (by assumption))))
          clear hw9
          have hgl : w2.heap.size < w9.heap.size := Nat.lt_of_lt_of_le hR8.lt hb89.size
          with_reducible refine (concat2_any A1 A2 n1 c1 n2 c2 w8.heap.size 2 row1 row2 w9 hB9 (r1.below hb89) (r2.below hb89) b1 b2 m1 m2 (by omega) (by omega)).mono ?_
          rintro e w10 ⟨A3, m3, c3, rfl, hm3, r3, b3, mx3, hne3, hb910⟩
          have hb10 : Below w8.heap.size w8 w10 := Bel.step hb89 hb910
          have hne := hne3 _ hgl
          clear hB9 hb89 hb910 hne3 r1 r2 hgl
          go_wp2_with fail
          refine hK.out _ _ (by repeat (first | exact Below.refl _ _ | assumption | apply Below.drew | apply below_drewN | apply Bel.alloc | (refine Bel.setCell_ ?_ ?_; rotate_left; omega) | (refine Bel.step ?_ (by assumption)))) (fun _ => ?_)
          clear hK K
          refine take_ (i := 10) (d := some 13) (v := ?_) rfl rfl (by kernel_rfl) (by kernel_rfl) (by kernel_rfl) (fun _ _ _ h => h) (by rfl) ?_ (by first | rfl | trivial | assumption) ?_
          rotate_left
          · (intro V hSw; (try (have hF := HSX.out V hSw)); (try (cases hSw)); (try go_split_ands); go_simp; try with_reducible rfl)
          simp only [Act.put, List.setIfInBounds_toArray, List.set_cons_zero, List.set_cons_succ]
          refine wpAnyH_done (by kernel_rfl) ?_ _
          have hX10 := hX8.below hb10 hX8.lt
          obtain ⟨x0, x1, x2, x3⟩ := hX10.four
          go_wp2_with fail
          (refine calls_named ?_; intro w11 hw11)
          have hb11 : Below w8.heap.size w8 w11 := by rw [hw11]; exact (by repeat (first | exact Below.refl _ _ | assumption | apply Below.drew | apply below_drewN | apply Bel.alloc | (refine Bel.setCell_ ?_ ?_; rotate_left; omega) | (refine Bel.step ?_ (by assumption))))
          have r4 : RdI w11 A3 m3 (row1 ++ row2) := by rw [hw11]; exact r3
          clear hw11 x0 x1 x2 x3 hX10 r3 HSX
          with_reducible refine (HGo.out _ (Bel.step hb8 hb11) A3 m3 c3 (row1 ++ row2) r4 hm3).mono ?_
          rintro e w12 ⟨rfl, hb1112⟩
          have hb12 : Below w8.heap.size w8 w12 := Bel.step hb11 hb1112
          have r5 := r4.below hb1112
          have hR12 := hR8.below hb12
          have hX12 := hX8.below hb12 hX8.lt
          have hSv12 := hSv8.below hb12
          have hbw12 : Below w.heap.size w w12 := Bel.step hb8 hb12
          clear hR8 hX8 hSv8 hb8 hb11 hb1112 hb12 r4 hb10
          have hj := HJ.out
          cases hg : goesB cap lim ls st (row1 ++ row2)
          · have HJJ := Lib.hid (show joinStep cap lim ls st rs (I, J, S) = rs by rw [hj, hg]; rfl)
            clear hj hg
            go_wp2_with fail
            go_roundw
            case rel => exact ⟨hbw12, hX12, q + 1, rs, by omega, by go_num, rfl, hR12, HPP.out, by rw [HNX.out, HJJ.out], hSv12⟩
            case measure => simp [intOf]; omega
          · have HJJ := Lib.hid (show joinStep cap lim ls st rs (I, J, S) = (rs.set f (row1 ++ row2)).eraseIdx t by rw [hj, hg]; rfl)
            clear hj hg
            obtain ⟨_, _, _, d1, d2, _⟩ := hR12.row hf
            go_wp2_with fail
            (refine calls_named ?_; intro w13 hw13)
            have hR13 : Rts w13 w2.heap.size k (rs.set f (row1 ++ row2)) := by rw [hw13]; exact hR12.set hf r5 hne b3 mx3
            have hgb13 : w12.grownBy w13 (some w2.heap.size) := by rw [hw13]; exact grownBy_set _ _ _ _
            have hX13 : Blk w13 w.heap.size 35 #[.int .i64 dep, .int .i64 cap, .int .i64 lim, .slice A k c] := by rw [hw13]; exact (by repeat (first | assumption | apply Blk.drewN | apply Blk.drew | apply Blk.alloc | (refine Blk.far_ ?_ ?_ _; rotate_left; omega)))
            have hSv13 := hSv12.grown hgb13 hLf5
            have hb13 : Below w.heap.size w w13 := by rw [hw13]; exact (by repeat (first | exact Below.refl _ _ | assumption | apply Below.drew | apply below_drewN | apply Bel.alloc | (refine Bel.setCell_ ?_ ?_; rotate_left; omega) | (refine Bel.step ?_ (by assumption))))
            clear hw13 hR12 hX12 hSv12 hbw12 d1 d2
            have hdel := delete_any w2.heap.size k w2.heap.size t (rs.set f (row1 ++ row2)) w13 hR13 (by rw [List.length_set]; exact ht) (by omega) (Nat.le_refl _)
            rw [List.length_set] at hdel
            with_reducible refine hdel.mono ?_
            rintro e w14 ⟨rfl, hR14, hgb14, hb14⟩
            have hX14 := hX13.below hb14 hz3
            have hSv14 := hSv13.grown hgb14 hLf5
            have hbw14 : Below w.heap.size w w14 := hb13.trans (hb14.mono hz2)
            have hlen : ((rs.set f (row1 ++ row2)).eraseIdx t).length = rs.length - 1 := by rw [List.length_eraseIdx, List.length_set, if_pos ht]
            have HPA := Lib.hid (HJJ.out ▸ joinStep_parts (cap := cap) (lim := lim) (ls := ls) (st := st) (I, J, S) HPP.out)
            clear hdel hR13 hX13 hSv13 hb13 hgb13 hgb14 hb14
            have HLE := Lib.hid hlen
            clear hlen
            go_wp2_with fail
            go_roundw
            case rel => exact ⟨hbw14, hX14, q + 1, (rs.set f (row1 ++ row2)).eraseIdx t, by omega, by go_num, by rw [HLE.out], hR14, HPA.out, by rw [HNX.out, HJJ.out], hSv14⟩
            case measure => simp [intOf]; omega
        · obtain rfl : q = m5 := by omega
          have hrs := HRS.out
          rw [List.take_of_length_le (by rw [HLL.out]; exact Nat.le_refl _)] at hrs
          have HRS2 := Lib.hid hrs
          have HD := Lib.hid (HPP.out.heads)
          clear hrs HRS hSv hX hP
          go_wp2_with fail
          with_reducible refine (sortRows w2.heap.size k k w.heap.size rs wr hR HPP.out.ne HD.out (by omega) hz2).mono ?_
          rintro e w20 ⟨rfl, ⟨rs', hp', hs', hR'⟩, hb20⟩
          have HP1 := Lib.hid hp'
          have HP2 := Lib.hid hs'
          have hT := hR'.rdT
          rw [hp'.length_eq] at hT
          have hbw20 : Below w.heap.size w w20 := hbl.trans hb20
          clear hp' hs' hR hR' hb20 hbl
          go_wp2_with fail
          with_reducible refine (cloneRows_any ⟨w2.heap.size, 0, none⟩ rs.length k rs' w20 hT (by omega)).mono ?_
          rintro e w21 ⟨A9, c9, rfl, hT9, hb21⟩
          have hbw21 : Below w.heap.size w w21 := Bel.step hbw20 hb21
          clear hT hb21 hbw20
          go_wp2_with fail
          go_ret2
          exact ⟨A9, rs.length, c9, L, rs', rfl, hT9, HLP.out, HLS.out, by rw [← HRS2.out]; exact HP1.out, HP2.out, hbw21⟩
end Go.Proofs.YtjphjbchhhembaaGreatDoor
