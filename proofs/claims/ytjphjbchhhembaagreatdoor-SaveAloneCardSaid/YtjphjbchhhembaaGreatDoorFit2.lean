/- Fits of roundsmanref28; Fit of the law. -/
import Derived.Test.YtjphjbchhhembaaGreatDoorFit
import Derived.Test.YtjphjbchhhembaaGreatDoorFitP
namespace Go.Proofs.YtjphjbchhhembaaGreatDoor
open Go.RowKit

attribute [local go_sem ↓] Go.wp_at_zero Go.wp_at_succ

/-- A stop's own trip can be. -/
def FitsAt (cap lim : Int) (ls : List (List Int)) (i : Nat) (p : Int × Int) : Prop :=
  p.2 ≤ cap ∧ stepC ls 0 (i + 1) < 1152921504606846976 ∧ stepC ls (i + 1) 0 < 1152921504606846976 ∧ add2 (stepC ls 0 (i + 1)) (stepC ls (i + 1) 0) < 1152921504606846976 ∧ add2 (stepC ls 0 (i + 1)) (stepC ls (i + 1) 0) ≤ lim

set_option maxHeartbeats 4000000 in
theorem refFits_any (dep cap lim : Int) (A T : Option Addr) (n c tn tc : Nat) (st : List (Int × Int)) (ls : List (List Int)) (w : World) (h : RdP w A n st) (ht : RdT w T tn ls) (hn : n ≤ 1000000000) (htn : tn ≤ 1000000000) :
    Calls Tryz.prog 19 #[jobV dep cap lim A n c, .slice T tn tc] w fun e w' => ∃ ok v, e = .returned v ∧ WOk ok v ∧ (ok = true → sqB (n + 1) ls = true ∧ FitsP cap lim ls st) ∧ Below w.heap.size w w' := by
  have HQ := Lib.hid (show ∀ V, Below w.heap.size w V → Calls Tryz.prog 44 #[.int .i64 ((n : Int) + 1), .slice T tn tc] V fun e w' => (∃ v, e = .returned v ∧ WOk (sqB (n + 1) ls) v) ∧ Below V.heap.size V w' from fun V hV => refSquare_any T tn tc (n + 1) ls V (ht.below hV) (by omega) (by omega))
  have HA := Lib.hid refAdd_any
  have HN := Lib.hid h.1
  go_enter Tryz.func19, Tryz.ntmps19
  go_wp2_with fail
  (refine calls_named ?_; intro w1 hw1)
  have hb1 : Below w.heap.size w w1 := by rw [hw1]; exact (by repeat (first | exact Below.refl _ _ | assumption | apply Below.drew | apply below_drewN | apply Bel.alloc | (refine Bel.setCell_ ?_ ?_; rotate_left; omega) | (refine Bel.step ?_ (by assumption))))
  have hJ : Blk w1 w.heap.size 24 #[.int .i64 dep, .int .i64 cap, .int .i64 lim, .slice A n c] := by rw [hw1]; exact (Blk.new _ _ _).alloc _
  have hB : Blk w1 (w.heap.size + 1) 55 #[.slice none 0 0, .int .i64 0] := by rw [hw1]; exact Blk.new' _ _ _ (by simp)
  clear hw1
  with_reducible refine (HQ.out _ hb1).mono ?_
  rintro e w2 ⟨⟨v, rfl, A2, n2, m2, c2, rfl, hc2⟩, hb2⟩
  have hbb : Below w.heap.size w w2 := Bel.step hb1 hb2
  have hJ2 := hJ.below hb2 hJ.lt
  have hB2 := hB.below hb2 hB.lt
  clear hJ hB HQ
  cases hs : sqB (n + 1) ls
  · rw [hs] at hc2
    have hne : c2 ≠ 0 := fun e => by have := hc2.1 e; cases this
    have e2 : (c2 == 0) = false := by simp; exact hne
    clear hc2 hJ2
    have c0 := fun o => (hB2.alloc o).two.1
    have c1 := fun o => (hB2.alloc o).two.2.1
    have f0 := fun o => (hB2.alloc o).two.2.2.1
    have f1 := fun o => (hB2.alloc o).two.2.2.2
    go_wp2_with fail
    refine bodyPost_ret (v := .agg #[.slice A2 n2 m2, .int .i64 c2]) (by simp [results, Tryz.results19, go_sem, c0, c1]) rfl ?_
    exact ⟨false, _, rfl, ⟨_, _, _, _, rfl, by simp [hne]⟩, (fun h => by cases h), (by repeat (first | exact Below.refl _ _ | assumption | apply Below.drew | apply below_drewN | apply Bel.alloc | (refine Bel.setCell_ ?_ ?_; rotate_left; omega) | (refine Bel.step ?_ (by assumption))))⟩
  · rw [hs] at hc2
    obtain rfl : c2 = 0 := hc2.2 rfl
    have HS := Lib.hid (sq_of hs)
    obtain rfl : tn = n + 1 := by have := ht.1; have := (sq_of hs).1; omega
    have HSQ := Lib.hid hs
    clear hc2 hs
    obtain ⟨j0, j1, j2, j3⟩ := hJ2.four
    go_wp2_with fail
    (refine wp_named ?_; intro w3 hw3)
    have hb3 : Below w.heap.size w w3 := by rw [hw3]; exact (by repeat (first | exact Below.refl _ _ | assumption | apply Below.drew | apply below_drewN | apply Bel.alloc | (refine Bel.setCell_ ?_ ?_; rotate_left; omega) | (refine Bel.step ?_ (by assumption))))
    have hJ3 : Blk w3 w.heap.size 24 #[.int .i64 dep, .int .i64 cap, .int .i64 lim, .slice A n c] := by rw [hw3]; exact (by repeat (first | assumption | apply Blk.drewN | apply Blk.drew | apply Blk.alloc | (refine Blk.far_ ?_ ?_ _; rotate_left; omega)))
    have hB3 : Blk w3 (w.heap.size + 1) 55 #[.slice none 0 0, .int .i64 0] := by rw [hw3]; exact (by repeat (first | assumption | apply Blk.drewN | apply Blk.drew | apply Blk.alloc | (refine Blk.far_ ?_ ?_ _; rotate_left; omega)))
    clear hw3 hJ2 hB2 j0 j1 j2 j3
    go_loopw [6] (fun i W => Below w3.heap.size w3 W ∧ ∃ k : Nat, k ≤ n ∧ i = .int .i64 ((k : Int) + 1) ∧ ∀ (j : Nat) p, j < k → st[j]? = some p → FitsAt cap lim ls j p) (fun i _ => n + 1 - (intOf i).toNat)
    case atStart => exact ⟨Below.refl _ _, 0, Nat.zero_le _, rfl, fun _ _ h => absurd h (by omega)⟩
    case round =>
      obtain ⟨hbl, k, hk, rfl, hj⟩ := hrel
      have HJ := Lib.hid hj
      have hB := hB3.below hbl hB3.lt
      have hJ := hJ3.below hbl hJ3.lt
      have hbw : Below w.heap.size w wr := Bel.step hb3 hbl
      clear hj hB3 hJ3
      obtain ⟨y0, y1, y2, y3⟩ := hJ.four
      by_cases hlt : k < n
      · obtain ⟨sb, so, x, y, rfl, hx, hcx, hcy⟩ := h.at_ hlt
        obtain ⟨t0, u0, t1, u1, c1, rfl, r1, r2⟩ := ht.two HS.out (i := 0) (j := k + 1) (by omega) (by omega)
        obtain ⟨t0', u0', t2, u2, c2, e1, r3, r4⟩ := ht.two HS.out (i := k + 1) (j := 0) (by omega) (by omega)
        cases e1
        rw [Nat.add_zero] at r1 r4
        have HX := Lib.hid hx
        have HF := Lib.hid (show (y ≤ cap ∧ stepC ls 0 (k + 1) < 1152921504606846976 ∧ stepC ls (k + 1) 0 < 1152921504606846976 ∧ add2 (stepC ls 0 (k + 1)) (stepC ls (k + 1) 0) < 1152921504606846976 ∧ add2 (stepC ls 0 (k + 1)) (stepC ls (k + 1) 0) ≤ lim) → FitsAt cap lim ls k (x, y) from id)
        have hcost := (costs_bd HSQ.out (i := 0) (j := k + 1) (by omega) (by omega)).2
        have hcost2 := (costs_bd HSQ.out (i := k + 1) (j := 0) (by omega) (by omega)).2
        have hcost3 := add2_hi (stepC ls 0 (k + 1)) (stepC ls (k + 1) 0)
        unfold INF at hcost hcost2 hcost3
        clear hx
        have hA1 := Lib.hid (HA.out (stepC ls 0 (k + 1)) (stepC ls (k + 1) 0))
        generalize add2 (stepC ls 0 (k + 1)) (stepC ls (k + 1) 0) = both at *
        generalize stepC ls 0 (k + 1) = there at *
        generalize stepC ls (k + 1) 0 = back at *
        have HSX := Lib.hid (show ∀ V, Below w.heap.size w V → V.cell? ⟨t0, u0, none⟩ = some (.slice (some ⟨t1, u1, none⟩) (n + 1) c1) ∧ V.cell? ⟨t1, u1 + (k + 1), none⟩ = some (.int .i64 there) ∧ V.cell? ⟨t0, u0 + (k + 1), none⟩ = some (.slice (some ⟨t2, u2, none⟩) (n + 1) c2) ∧ V.cell? ⟨t2, u2, none⟩ = some (.int .i64 back) ∧ V.cell? ⟨sb, so + k * 2 + 1, none⟩ = some (.int .i64 y) from
          fun V hb => ⟨Below.cellOf hb (Nat.le_refl _) r1, Below.cellOf hb (Nat.le_refl _) r2, Below.cellOf hb (Nat.le_refl _) r3, Below.cellOf hb (Nat.le_refl _) r4, Below.cellOf hb (Nat.le_refl _) hcy⟩)
        have i0 : (k : Int) + 1 ≤ (n : Int) := by omega
        have i1 : (0 : Int) ≤ (k : Int) + 1 := by omega
        have i2 : (k : Int) + 1 < (n : Int) + 1 := by omega
        have i5 : (0 : Int) < (n : Int) + 1 := by omega
        have n1 : ((k : Int) + 1).toNat = k + 1 := by omega
        have e8 : IntKind.i64.wrap (k : Int) = (k : Int) := IntWalk.i64_in _ (by omega)
        have i3 : (0 : Int) ≤ (k : Int) := by omega
        have i4 : (k : Int) < (n : Int) := by omega
        have e3 : IntKind.i64.wrap ((k : Int) + 1) = (k : Int) + 1 := IntWalk.i64_in _ (by omega)
        clear r1 r2 r3 r4 hcx hcy
        have HSY := Lib.hid (show ∀ V, Below wr.heap.size wr V → V.cell? ⟨w.heap.size, 1, none⟩ = some (.int .i64 cap) ∧ V.cell? ⟨w.heap.size, 3, none⟩ = some (.slice (some ⟨sb, so, none⟩) n c) ∧ V.cell? ⟨sb, so + k * 2 + 1, none⟩ = some (.int .i64 y) from
          fun V hb => ⟨Below.cellOf hb (Nat.le_refl _) y1, Below.cellOf hb (Nat.le_refl _) y3, (HSX.out V (Bel.step hbw hb)).2.2.2.2⟩)
        go_wp2_with fail
        refine wp_region_held_drew (S := fun V => Below w.heap.size w V) (by kernel_rfl) (by repeat (first | exact Below.refl _ _ | assumption | apply Below.drew | apply below_drewN | apply Bel.alloc | (refine Bel.setCell_ ?_ ?_; rotate_left; omega) | (refine Bel.step ?_ (by assumption)))) (fun _ => ?_)
        refine take_ (i := 0) (d := some 25) (v := ?_) rfl rfl (by kernel_rfl) (by kernel_rfl) (by kernel_rfl) (fun _ _ _ h => h) (by rfl) ?_ (by first | rfl | trivial | assumption) ?_
        rotate_left
        · (intro V hSw; (try (have hF := HSX.out V hSw)); (try (cases hSw)); (try go_split_ands); go_simp; try with_reducible rfl)
        simp only [Act.put, List.setIfInBounds_toArray, List.set_cons_zero, List.set_cons_succ]
        refine take_ (i := 1) (d := some 26) (v := ?_) rfl rfl (by kernel_rfl) (by kernel_rfl) (by kernel_rfl) (fun _ _ _ h => h) (by rfl) ?_ (by first | rfl | trivial | assumption) ?_
        rotate_left
        · (intro V hSw; (try (have hF := HSX.out V hSw)); (try (cases hSw)); (try go_split_ands); go_simp; try with_reducible rfl)
        simp only [Act.put, List.setIfInBounds_toArray, List.set_cons_zero, List.set_cons_succ]
        refine take_ (i := 2) (d := some 27) (v := ?_) rfl rfl (by kernel_rfl) (by kernel_rfl) (by kernel_rfl) (fun _ _ _ h => h) (by rfl) ?_ (by first | rfl | trivial | assumption) ?_
        rotate_left
        · (intro V hSw; (try (have hF := HSX.out V hSw)); (try (cases hSw)); (try go_split_ands); go_simp; try with_reducible rfl)
        simp only [Act.put, List.setIfInBounds_toArray, List.set_cons_zero, List.set_cons_succ]
        refine take_ (i := 3) (d := some 28) (v := ?_) rfl rfl (by kernel_rfl) (by kernel_rfl) (by kernel_rfl) (fun _ _ _ h => h) (by rfl) ?_ (by first | rfl | trivial | assumption) ?_
        rotate_left
        · (intro V hSw; (try (have hF := HSX.out V hSw)); (try (cases hSw)); (try go_split_ands); go_simp; try with_reducible rfl)
        simp only [Act.put, List.setIfInBounds_toArray, List.set_cons_zero, List.set_cons_succ]
        refine take_ (i := 4) (d := some 29) (v := ?_) rfl rfl (by kernel_rfl) (by kernel_rfl) (by kernel_rfl) (fun _ _ _ h => h) (by rfl) ?_ (by first | rfl | trivial | assumption) ?_
        rotate_left
        · (intro V hSw; (try (have hF := HSX.out V hSw)); (try (cases hSw)); (try go_split_ands); go_simp; try with_reducible rfl)
        simp only [Act.put, List.setIfInBounds_toArray, List.set_cons_zero, List.set_cons_succ]
        refine take_ (i := 5) (d := some 30) (v := ?_) rfl rfl (by kernel_rfl) (by kernel_rfl) (by kernel_rfl) (fun _ _ _ h => h) (by rfl) ?_ (by first | rfl | trivial | assumption) ?_
        rotate_left
        · (intro V hSw; (try (have hF := HSX.out V hSw)); (try (cases hSw)); (try go_split_ands); go_simp; try with_reducible rfl)
        simp only [Act.put, List.setIfInBounds_toArray, List.set_cons_zero, List.set_cons_succ]
        refine take_ (i := 6) (d := some 31) (v := ?_) rfl rfl (by kernel_rfl) (by kernel_rfl) (by kernel_rfl) (fun _ _ _ h => h) (by rfl) ?_ (by first | rfl | trivial | assumption) ?_
        rotate_left
        · (intro V hSw; (try (have hF := HSX.out V hSw)); (try (cases hSw)); (try go_split_ands); go_simp; try with_reducible rfl)
        simp only [Act.put, List.setIfInBounds_toArray, List.set_cons_zero, List.set_cons_succ]
        refine take_ (i := 7) (d := some 32) (v := ?_) rfl rfl (by kernel_rfl) (by kernel_rfl) (by kernel_rfl) (fun _ _ _ h => h) (by rfl) ?_ (by first | rfl | trivial | assumption) ?_
        rotate_left
        · (intro V hSw; (try (have hF := HSX.out V hSw)); (try (cases hSw)); (try go_split_ands); go_simp; try with_reducible rfl)
        simp only [Act.put, List.setIfInBounds_toArray, List.set_cons_zero, List.set_cons_succ]
        refine take_ (i := 8) (d := some 33) (v := ?_) rfl rfl (by kernel_rfl) (by kernel_rfl) (by kernel_rfl) (fun _ _ _ h => h) (by rfl) ?_ (by first | rfl | trivial | assumption) ?_
        rotate_left
        · (intro V hSw; (try (have hF := HSX.out V hSw)); (try (cases hSw)); (try go_split_ands); go_simp; try with_reducible rfl)
        simp only [Act.put, List.setIfInBounds_toArray, List.set_cons_zero, List.set_cons_succ]
        refine take_ (i := 9) (d := some 34) (v := ?_) rfl rfl (by kernel_rfl) (by kernel_rfl) (by kernel_rfl) (fun _ _ _ h => h) (by rfl) ?_ (by first | rfl | trivial | assumption) ?_
        rotate_left
        · (intro V hSw; (try (have hF := HSX.out V hSw)); (try (cases hSw)); (try go_split_ands); go_simp; try with_reducible rfl)
        simp only [Act.put, List.setIfInBounds_toArray, List.set_cons_zero, List.set_cons_succ]
        refine take_ (i := 10) (d := some 35) (v := ?_) rfl rfl (by kernel_rfl) (by kernel_rfl) (by kernel_rfl) (fun _ _ _ h => h) (by rfl) ?_ (by first | rfl | trivial | assumption) ?_
        rotate_left
        · (intro V hSw; (try (have hF := HSX.out V hSw)); (try (cases hSw)); (try go_split_ands); go_simp; try with_reducible rfl)
        simp only [Act.put, List.setIfInBounds_toArray, List.set_cons_zero, List.set_cons_succ]
        refine take_ (i := 11) (d := some 36) (v := ?_) rfl rfl (by kernel_rfl) (by kernel_rfl) (by kernel_rfl) (fun _ _ _ h => h) (by rfl) ?_ (by first | rfl | trivial | assumption) ?_
        rotate_left
        · (intro V hSw; (try (have hF := HSX.out V hSw)); (try (cases hSw)); (try go_split_ands); go_simp; try with_reducible rfl)
        simp only [Act.put, List.setIfInBounds_toArray, List.set_cons_zero, List.set_cons_succ]
        refine wpAnyH_ready (rs := [12]) (by kernel_rfl) (by simp) ?_
        refine AllReadyH.cons (o := _) rfl (fun K hK => ?_) AllReadyH.nil
        go_simp
        with_reducible refine (hA1.out _).mono ?_
        rintro e w' ⟨rfl, rfl⟩
        go_wp2_with fail
        refine hK.out _ _ (by repeat (first | exact Below.refl _ _ | assumption | apply Below.drew | apply below_drewN | apply Bel.alloc | (refine Bel.setCell_ ?_ ?_; rotate_left; omega) | (refine Bel.step ?_ (by assumption)))) (fun _ => ?_)
        clear hK K
        refine take_ (i := 13) (d := some 7) (v := ?_) rfl rfl (by kernel_rfl) (by kernel_rfl) (by kernel_rfl) (fun _ _ _ h => h) (by rfl) ?_ (by first | rfl | trivial | assumption) ?_
        rotate_left
        · (intro V hSw; (try (have hF := HSX.out V hSw)); (try (cases hSw)); (try go_split_ands); go_simp; try with_reducible rfl)
        simp only [Act.put, List.setIfInBounds_toArray, List.set_cons_zero, List.set_cons_succ]
        refine wpAnyH_done (by kernel_rfl) ?_ _
        go_wp2_with fail
        obtain ⟨r1, r2, r3, r4, _⟩ := HSX.out wr hbw
        clear HSX
        have HSX := HSY
        clear HSY
        refine wp_region_held_drew (S := fun V => Below wr.heap.size wr V) (by kernel_rfl) (Below.refl _ _).drew.drew (fun _ => ?_)
        refine take_ (i := 0) (d := some 39) (v := ?_) rfl rfl (by kernel_rfl) (by kernel_rfl) (by kernel_rfl) (fun _ _ _ h => h) (by rfl) ?_ (by first | rfl | trivial | assumption) ?_
        rotate_left
        · (intro V hSw; (try (have hF := HSX.out V hSw)); (try (cases hSw)); (try go_split_ands); go_simp; try with_reducible rfl)
        simp only [Act.put, List.setIfInBounds_toArray, List.set_cons_zero, List.set_cons_succ]
        refine take_ (i := 1) (d := some 40) (v := ?_) rfl rfl (by kernel_rfl) (by kernel_rfl) (by kernel_rfl) (fun _ _ _ h => h) (by rfl) ?_ (by first | rfl | trivial | assumption) ?_
        rotate_left
        · (intro V hSw; (try (have hF := HSX.out V hSw)); (try (cases hSw)); (try go_split_ands); go_simp; try with_reducible rfl)
        simp only [Act.put, List.setIfInBounds_toArray, List.set_cons_zero, List.set_cons_succ]
        refine take_ (i := 2) (d := some 41) (v := ?_) rfl rfl (by kernel_rfl) (by kernel_rfl) (by kernel_rfl) (fun _ _ _ h => h) (by rfl) ?_ (by first | rfl | trivial | assumption) ?_
        rotate_left
        · (intro V hSw; (try (have hF := HSX.out V hSw)); (try (cases hSw)); (try go_split_ands); go_simp; try with_reducible rfl)
        simp only [Act.put, List.setIfInBounds_toArray, List.set_cons_zero, List.set_cons_succ]
        refine take_ (i := 3) (d := some 42) (v := ?_) rfl rfl (by kernel_rfl) (by kernel_rfl) (by kernel_rfl) (fun _ _ _ h => h) (by rfl) ?_ (by first | rfl | trivial | assumption) ?_
        rotate_left
        · (intro V hSw; (try (have hF := HSX.out V hSw)); (try (cases hSw)); (try go_split_ands); go_simp; try with_reducible rfl)
        simp only [Act.put, List.setIfInBounds_toArray, List.set_cons_zero, List.set_cons_succ]
        refine take_ (i := 4) (d := some 43) (v := ?_) rfl rfl (by kernel_rfl) (by kernel_rfl) (by kernel_rfl) (fun _ _ _ h => h) (by rfl) ?_ (by first | rfl | trivial | assumption) ?_
        rotate_left
        · (intro V hSw; (try (have hF := HSX.out V hSw)); (try (cases hSw)); (try go_split_ands); go_simp; try with_reducible rfl)
        simp only [Act.put, List.setIfInBounds_toArray, List.set_cons_zero, List.set_cons_succ]
        refine take_ (i := 5) (d := some 44) (v := ?_) rfl rfl (by kernel_rfl) (by kernel_rfl) (by kernel_rfl) (fun _ _ _ h => h) (by rfl) ?_ (by first | rfl | trivial | assumption) ?_
        rotate_left
        · (intro V hSw; (try (have hF := HSX.out V hSw)); (try (cases hSw)); (try go_split_ands); go_simp; try with_reducible rfl)
        simp only [Act.put, List.setIfInBounds_toArray, List.set_cons_zero, List.set_cons_succ]
        refine take_ (i := 6) (d := some 45) (v := ?_) rfl rfl (by kernel_rfl) (by kernel_rfl) (by kernel_rfl) (fun _ _ _ h => h) (by rfl) ?_ (by first | rfl | trivial | assumption) ?_
        rotate_left
        · (intro V hSw; (try (have hF := HSX.out V hSw)); (try (cases hSw)); (try go_split_ands); go_simp; try with_reducible rfl)
        simp only [Act.put, List.setIfInBounds_toArray, List.set_cons_zero, List.set_cons_succ]
        refine take_ (i := 7) (d := some 46) (v := ?_) rfl rfl (by kernel_rfl) (by kernel_rfl) (by kernel_rfl) (fun _ _ _ h => h) (by rfl) ?_ (by first | rfl | trivial | assumption) ?_
        rotate_left
        · (intro V hSw; (try (have hF := HSX.out V hSw)); (try (cases hSw)); (try go_split_ands); go_simp; try with_reducible rfl)
        simp only [Act.put, List.setIfInBounds_toArray, List.set_cons_zero, List.set_cons_succ]
        refine take_ (i := 8) (d := some 47) (v := ?_) rfl rfl (by kernel_rfl) (by kernel_rfl) (by kernel_rfl) (fun _ _ _ h => h) (by rfl) ?_ (by first | rfl | trivial | assumption) ?_
        rotate_left
        · (intro V hSw; (try (have hF := HSX.out V hSw)); (try (cases hSw)); (try go_split_ands); go_simp; try with_reducible rfl)
        simp only [Act.put, List.setIfInBounds_toArray, List.set_cons_zero, List.set_cons_succ]
        refine take_ (i := 9) (d := some 48) (v := ?_) rfl rfl (by kernel_rfl) (by kernel_rfl) (by kernel_rfl) (fun _ _ _ h => h) (by rfl) ?_ (by first | rfl | trivial | assumption) ?_
        rotate_left
        · (intro V hSw; (try (have hF := HSX.out V hSw)); (try (cases hSw)); (try go_split_ands); go_simp; try with_reducible rfl)
        simp only [Act.put, List.setIfInBounds_toArray, List.set_cons_zero, List.set_cons_succ]
        refine take_ (i := 10) (d := some 38) (v := ?_) rfl rfl (by kernel_rfl) (by kernel_rfl) (by kernel_rfl) (fun _ _ _ h => h) (by rfl) ?_ (by first | rfl | trivial | assumption) ?_
        rotate_left
        · (intro V hSw; (try (have hF := HSX.out V hSw)); (try (cases hSw)); (try go_split_ands); go_simp; try with_reducible rfl)
        simp only [Act.put, List.setIfInBounds_toArray, List.set_cons_zero, List.set_cons_succ]
        refine wpAnyH_done (by kernel_rfl) ?_ _
        have y2' := y2
        by_cases g1 : y > cap
        ·
          go_wp2_with fail
          (refine calls_named ?_; intro w5 hw5)
          have hB5 : Blk w5 (w.heap.size + 1) 55 #[.slice none 0 0, .int .i64 0] := by rw [hw5]; exact (by repeat (first | assumption | (refine Blk.new' _ _ _ ?_; first | with_unfolding_all rfl | (simp; done)) | apply Blk.drewN | apply Blk.drew | apply Blk.alloc | (refine Blk.far_ ?_ ?_ _; rotate_left; omega)))
          have hb5 : Below w.heap.size w w5 := by rw [hw5]; exact (by repeat (first | exact Below.refl _ _ | assumption | apply Below.drew | apply below_drewN | apply Bel.alloc | (refine Bel.setCell_ ?_ ?_; rotate_left; omega) | (refine Bel.step ?_ (by assumption))))
          clear hw5
          with_reducible refine (refAt_any _ _ _ _).mono ?_
          rintro e w2 ⟨v, rfl, ⟨A4, n4, m4, rfl, h4, h5⟩, hb⟩
          have hB2 := Blk.below hB5 hb hB5.lt
          obtain ⟨c0, c1, f0, f1⟩ := hB2.two
          have hb2 : Below w.heap.size w w2 := Bel.step hb5 hb
          go_wp2_with fail
          refine bodyPost_ret (v := .agg #[.slice A4 n4 m4, .int .i64 13]) (by simp [results, Tryz.results19, go_sem, c0, c1]) rfl ?_
          exact ⟨false, _, rfl, ⟨_, _, _, _, rfl, by simp⟩, (fun h => by cases h), (by repeat (first | exact Below.refl _ _ | assumption | apply Below.drew | apply below_drewN | apply Bel.alloc | (refine Bel.setCell_ ?_ ?_; rotate_left; omega) | (refine Bel.step ?_ (by assumption))))⟩
        by_cases g2 : there = 1152921504606846976
        · have e4 : (there == 1152921504606846976) = true := by rw [g2]; rfl
          go_wp2_with fail
          (refine calls_named ?_; intro w5 hw5)
          have hB5 : Blk w5 (w.heap.size + 1) 55 #[.slice none 0 0, .int .i64 0] := by rw [hw5]; exact (by repeat (first | assumption | (refine Blk.new' _ _ _ ?_; first | with_unfolding_all rfl | (simp; done)) | apply Blk.drewN | apply Blk.drew | apply Blk.alloc | (refine Blk.far_ ?_ ?_ _; rotate_left; omega)))
          have hb5 : Below w.heap.size w w5 := by rw [hw5]; exact (by repeat (first | exact Below.refl _ _ | assumption | apply Below.drew | apply below_drewN | apply Bel.alloc | (refine Bel.setCell_ ?_ ?_; rotate_left; omega) | (refine Bel.step ?_ (by assumption))))
          clear hw5
          with_reducible refine (refAt_any _ _ _ _).mono ?_
          rintro e w2 ⟨v, rfl, ⟨A4, n4, m4, rfl, h4, h5⟩, hb⟩
          have hB2 := Blk.below hB5 hb hB5.lt
          obtain ⟨c0, c1, f0, f1⟩ := hB2.two
          have hb2 : Below w.heap.size w w2 := Bel.step hb5 hb
          go_wp2_with fail
          refine bodyPost_ret (v := .agg #[.slice A4 n4 m4, .int .i64 12]) (by simp [results, Tryz.results19, go_sem, c0, c1]) rfl ?_
          exact ⟨false, _, rfl, ⟨_, _, _, _, rfl, by simp⟩, (fun h => by cases h), (by repeat (first | exact Below.refl _ _ | assumption | apply Below.drew | apply below_drewN | apply Bel.alloc | (refine Bel.setCell_ ?_ ?_; rotate_left; omega) | (refine Bel.step ?_ (by assumption))))⟩
        have e4 : (there == 1152921504606846976) = false := by simp; exact g2
        by_cases g3 : back = 1152921504606846976
        · have e5 : (back == 1152921504606846976) = true := by rw [g3]; rfl
          go_wp2_with fail
          (refine calls_named ?_; intro w5 hw5)
          have hB5 : Blk w5 (w.heap.size + 1) 55 #[.slice none 0 0, .int .i64 0] := by rw [hw5]; exact (by repeat (first | assumption | (refine Blk.new' _ _ _ ?_; first | with_unfolding_all rfl | (simp; done)) | apply Blk.drewN | apply Blk.drew | apply Blk.alloc | (refine Blk.far_ ?_ ?_ _; rotate_left; omega)))
          have hb5 : Below w.heap.size w w5 := by rw [hw5]; exact (by repeat (first | exact Below.refl _ _ | assumption | apply Below.drew | apply below_drewN | apply Bel.alloc | (refine Bel.setCell_ ?_ ?_; rotate_left; omega) | (refine Bel.step ?_ (by assumption))))
          clear hw5
          with_reducible refine (refAt_any _ _ _ _).mono ?_
          rintro e w2 ⟨v, rfl, ⟨A4, n4, m4, rfl, h4, h5⟩, hb⟩
          have hB2 := Blk.below hB5 hb hB5.lt
          obtain ⟨c0, c1, f0, f1⟩ := hB2.two
          have hb2 : Below w.heap.size w w2 := Bel.step hb5 hb
          go_wp2_with fail
          refine bodyPost_ret (v := .agg #[.slice A4 n4 m4, .int .i64 12]) (by simp [results, Tryz.results19, go_sem, c0, c1]) rfl ?_
          exact ⟨false, _, rfl, ⟨_, _, _, _, rfl, by simp⟩, (fun h => by cases h), (by repeat (first | exact Below.refl _ _ | assumption | apply Below.drew | apply below_drewN | apply Bel.alloc | (refine Bel.setCell_ ?_ ?_; rotate_left; omega) | (refine Bel.step ?_ (by assumption))))⟩
        have e5 : (back == 1152921504606846976) = false := by simp; exact g3
        by_cases g4 : both = 1152921504606846976
        · have e6 : (both == 1152921504606846976) = true := by rw [g4]; rfl
          go_wp2_with fail
          (refine calls_named ?_; intro w5 hw5)
          have hB5 : Blk w5 (w.heap.size + 1) 55 #[.slice none 0 0, .int .i64 0] := by rw [hw5]; exact (by repeat (first | assumption | (refine Blk.new' _ _ _ ?_; first | with_unfolding_all rfl | (simp; done)) | apply Blk.drewN | apply Blk.drew | apply Blk.alloc | (refine Blk.far_ ?_ ?_ _; rotate_left; omega)))
          have hb5 : Below w.heap.size w w5 := by rw [hw5]; exact (by repeat (first | exact Below.refl _ _ | assumption | apply Below.drew | apply below_drewN | apply Bel.alloc | (refine Bel.setCell_ ?_ ?_; rotate_left; omega) | (refine Bel.step ?_ (by assumption))))
          clear hw5
          with_reducible refine (refAt_any _ _ _ _).mono ?_
          rintro e w2 ⟨v, rfl, ⟨A4, n4, m4, rfl, h4, h5⟩, hb⟩
          have hB2 := Blk.below hB5 hb hB5.lt
          obtain ⟨c0, c1, f0, f1⟩ := hB2.two
          have hb2 : Below w.heap.size w w2 := Bel.step hb5 hb
          go_wp2_with fail
          refine bodyPost_ret (v := .agg #[.slice A4 n4 m4, .int .i64 14]) (by simp [results, Tryz.results19, go_sem, c0, c1]) rfl ?_
          exact ⟨false, _, rfl, ⟨_, _, _, _, rfl, by simp⟩, (fun h => by cases h), (by repeat (first | exact Below.refl _ _ | assumption | apply Below.drew | apply below_drewN | apply Bel.alloc | (refine Bel.setCell_ ?_ ?_; rotate_left; omega) | (refine Bel.step ?_ (by assumption))))⟩
        have e6 : (both == 1152921504606846976) = false := by simp; exact g4
        by_cases g5 : both > lim
        ·
          go_wp2_with fail
          (refine calls_named ?_; intro w5 hw5)
          have hB5 : Blk w5 (w.heap.size + 1) 55 #[.slice none 0 0, .int .i64 0] := by rw [hw5]; exact (by repeat (first | assumption | (refine Blk.new' _ _ _ ?_; first | with_unfolding_all rfl | (simp; done)) | apply Blk.drewN | apply Blk.drew | apply Blk.alloc | (refine Blk.far_ ?_ ?_ _; rotate_left; omega)))
          have hb5 : Below w.heap.size w w5 := by rw [hw5]; exact (by repeat (first | exact Below.refl _ _ | assumption | apply Below.drew | apply below_drewN | apply Bel.alloc | (refine Bel.setCell_ ?_ ?_; rotate_left; omega) | (refine Bel.step ?_ (by assumption))))
          clear hw5
          with_reducible refine (refAt_any _ _ _ _).mono ?_
          rintro e w2 ⟨v, rfl, ⟨A4, n4, m4, rfl, h4, h5⟩, hb⟩
          have hB2 := Blk.below hB5 hb hB5.lt
          obtain ⟨c0, c1, f0, f1⟩ := hB2.two
          have hb2 : Below w.heap.size w w2 := Bel.step hb5 hb
          go_wp2_with fail
          refine bodyPost_ret (v := .agg #[.slice A4 n4 m4, .int .i64 14]) (by simp [results, Tryz.results19, go_sem, c0, c1]) rfl ?_
          exact ⟨false, _, rfl, ⟨_, _, _, _, rfl, by simp⟩, (fun h => by cases h), (by repeat (first | exact Below.refl _ _ | assumption | apply Below.drew | apply below_drewN | apply Bel.alloc | (refine Bel.setCell_ ?_ ?_; rotate_left; omega) | (refine Bel.step ?_ (by assumption))))⟩
        have HFF := Lib.hid (HF.out ⟨by omega, by omega, by omega, by omega, by omega⟩)
        have e7 : IntKind.i64.wrap ((k : Int) + 1 + 1) = (k : Int) + 1 + 1 := IntWalk.i64_in _ (by omega)
        go_wp2_with fail
        go_roundw
        case rel => exact ⟨Below.trans hbl (by repeat (first | exact Below.refl _ _ | assumption | apply Below.drew | apply below_drewN | apply Bel.alloc | (refine Bel.setCell_ ?_ ?_; rotate_left; omega) | (refine Bel.step ?_ (by assumption)))), k + 1, by omega, by go_num, fun j p hj hp => by
          rcases Nat.lt_or_ge j k with h1 | h1
          · exact HJ.out j p h1 hp
          · obtain rfl : j = k := by omega
            rw [HX.out] at hp; cases hp; exact HFF.out⟩
        case measure => simp [intOf]; omega
      · obtain rfl : k = n := by omega
        obtain ⟨c0, c1, f0, f1⟩ := hB.two
        have i0 : ¬ (k : Int) + 1 ≤ (k : Int) := by omega
        go_wp2_with fail
        refine bodyPost_ret (v := .agg #[.slice none 0 0, .int .i64 0]) (by simp [results, Tryz.results19, go_sem, c0, c1]) rfl ?_
        exact Or.inr ⟨_, rfl, ⟨_, _, _, _, rfl, by simp⟩, ⟨HSQ.out, fun i p hp => HJ.out i p (by rw [← HN.out]; exact (List.getElem?_eq_some_iff.1 hp).1) hp⟩, (by repeat (first | exact Below.refl _ _ | assumption | apply Below.drew | apply below_drewN | apply Bel.alloc | (refine Bel.setCell_ ?_ ?_; rotate_left; omega) | (refine Bel.step ?_ (by assumption))))⟩
end Go.Proofs.YtjphjbchhhembaaGreatDoor
