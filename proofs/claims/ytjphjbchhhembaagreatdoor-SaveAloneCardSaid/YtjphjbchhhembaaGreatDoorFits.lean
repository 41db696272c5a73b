/- job.Fits, where each stop's own trip can be; where the table is none. -/
import Derived.Test.YtjphjbchhhembaaGreatDoorJn4
import Derived.Test.YtjphjbchhhembaaGreatDoorFitP
namespace Go.Proofs.YtjphjbchhhembaaGreatDoor
open Go.RowKit

attribute [local go_sem ↓] Go.wp_at_zero Go.wp_at_succ

set_option maxHeartbeats 2000000 in
theorem jobFits_ok (dep cap lim : Int) (A T : Option Addr) (n c tc : Nat) (st : List (Int × Int)) (ls : List (List Int)) (w : World) (h : RdP w A n st) (ht : RdT w T (n + 1) ls) (hs : sqB (n + 1) ls = true) (hf : FitsP cap lim ls st) (hn : n ≤ 1000000000) :
    Calls Tryz.prog 20 #[jobV dep cap lim A n c, .slice T (n + 1) tc] w fun e w' => e = .returned .nilIface ∧ Below w.heap.size w w' := by
  have HQ := Lib.hid (show ∀ V, Below w.heap.size w V → Calls Tryz.prog 34 #[.int .i64 ((n : Int) + 1), .slice T (n + 1) tc] V fun e w' => e = .returned .nilIface ∧ V = w' from fun V hV => jobSquare_ok T (n + 1) tc ls V (ht.below hV) hs (by omega))
  have HS := Lib.hid (sq_of hs)
  have HF := Lib.hid hf
  have HA := Lib.hid costAdd_any
  clear hs hf
  go_enter Tryz.func20, Tryz.ntmps20
  go_wp2_with fail
  (refine calls_named ?_; intro w1 hw1)
  have hb1 : Below w.heap.size w w1 := by rw [hw1]; exact (by repeat (first | exact Below.refl _ _ | assumption | apply Below.drew | apply below_drewN | apply Bel.alloc | (refine Bel.setCell_ ?_ ?_; rotate_left; omega) | (refine Bel.step ?_ (by assumption))))
  have hB : Blk w1 w.heap.size 35 #[.int .i64 dep, .int .i64 cap, .int .i64 lim, .slice A n c] := by rw [hw1]; exact Blk.new _ _ _
  obtain ⟨b0, b1, b2, b3⟩ := hB.four
  clear hw1 hB
  with_reducible refine (HQ.out _ hb1).mono ?_
  rintro e w' ⟨rfl, rfl⟩
  clear HQ
  go_wp2_with fail
  go_loopw [23] (fun i W => Below w1.heap.size w1 W ∧ ∃ k : Nat, k ≤ n ∧ i = .int .i64 k) (fun i _ => n - (intOf i).toNat)
  case atStart => exact ⟨Below.refl _ _, 0, Nat.zero_le _, rfl⟩
  case round =>
    obtain ⟨hbl, k, hk, rfl⟩ := hrel
    by_cases hlt : k < n
    · obtain ⟨sb, so, x, y, rfl, hx, hcx, hcy⟩ := h.at_ hlt
      obtain ⟨f1, f2, f3, f4, f5⟩ := HF.out k _ hx
      obtain ⟨t0, u0, t1, u1, c1, rfl, r1, r2⟩ := ht.two HS.out (i := 0) (j := k + 1) (by omega) (by omega)
      obtain ⟨t0', u0', t2, u2, c2, e1, r3, r4⟩ := ht.two HS.out (i := k + 1) (j := 0) (by omega) (by omega)
      cases e1
      rw [Nat.add_zero] at r1 r4
      have hbw : Below w.heap.size w wr := Bel.step hb1 hbl
      have j1 := Below.cellOf hbw (Nat.le_refl _) hcx
      have j2 := Below.cellOf hbw (Nat.le_refl _) hcy
      have y1 := Below.cellOf hbl (Nat.le_refl _) b1
      have y2 := Below.cellOf hbl (Nat.le_refl _) b2
      have y3 := Below.cellOf hbl (Nat.le_refl _) b3
      clear hx hcx hcy
      have hA1 := Lib.hid (HA.out (stepC ls 0 (k + 1)) (stepC ls (k + 1) 0))
      generalize add2 (stepC ls 0 (k + 1)) (stepC ls (k + 1) 0) = both at *
      generalize stepC ls 0 (k + 1) = there at *
      generalize stepC ls (k + 1) 0 = back at *
      have HSX := Lib.hid (show ∀ V, Below w.heap.size w V → V.cell? ⟨t0, u0, none⟩ = some (.slice (some ⟨t1, u1, none⟩) (n + 1) c1) ∧ V.cell? ⟨t1, u1 + (k + 1), none⟩ = some (.int .i64 there) ∧ V.cell? ⟨t0, u0 + (k + 1), none⟩ = some (.slice (some ⟨t2, u2, none⟩) (n + 1) c2) ∧ V.cell? ⟨t2, u2, none⟩ = some (.int .i64 back) from
        fun V hb => ⟨Below.cellOf hb (Nat.le_refl _) r1, Below.cellOf hb (Nat.le_refl _) r2, Below.cellOf hb (Nat.le_refl _) r3, Below.cellOf hb (Nat.le_refl _) r4⟩)
      have i1 : (0 : Int) ≤ (k : Int) + 1 := by omega
      have i2 : (k : Int) + 1 < (n : Int) + 1 := by omega
      have i5 : (0 : Int) < (n : Int) + 1 := by omega
      have n1 : ((k : Int) + 1).toNat = k + 1 := by omega
      have e3 : IntKind.i64.wrap ((k : Int) + 1) = (k : Int) + 1 := IntWalk.i64_in _ (by omega)
      have g1 : ¬ y > cap := by omega
      have g2 : ¬ there ≥ 1152921504606846976 := by omega
      have g3 : ¬ back ≥ 1152921504606846976 := by omega
      have g4 : ¬ both ≥ 1152921504606846976 := by omega
      have g5 : ¬ both > lim := by omega
      clear r1 r2 r3 r4 f1 f2 f3 f4 f5
      go_wp2_with fail
      (refine wp_named ?_; intro W hW)
      have hbW : Below wr.heap.size wr W := by rw [hW]; exact (by repeat (first | exact Below.refl _ _ | assumption | apply Below.drew | apply below_drewN | apply Bel.alloc | (refine Bel.setCell_ ?_ ?_; rotate_left; omega) | (refine Bel.step ?_ (by assumption))))
      have hbW2 : Below w.heap.size w W := hbw.trans (hbW.mono hbw.size)
      have hbW1 : Below w1.heap.size w1 W := Bel.step hbl hbW
      have p2 : W.cell? ⟨wr.heap.size, 1, none⟩ = some (.int .i64 y) := by rw [hW]; simp
      have z1 := Below.cellOf hbW (Nat.le_refl _) y1
      have z2 := Below.cellOf hbW (Nat.le_refl _) y2
      clear hW y1 y2 y3 j1 j2
      refine wp_region_held_drew (S := fun V => Below w.heap.size w V) (by kernel_rfl) (by repeat (first | exact Below.refl _ _ | assumption | apply Below.drew | apply below_drewN | apply Bel.alloc | (refine Bel.setCell_ ?_ ?_; rotate_left; omega) | (refine Bel.step ?_ (by assumption)))) (fun _ => ?_)
      refine take_ (i := 0) (d := some 28) (v := ?_) rfl rfl (by kernel_rfl) (by kernel_rfl) (by kernel_rfl) (fun _ _ _ h => h) (by rfl) ?_ (by first | rfl | trivial | assumption) ?_
      rotate_left
      · (intro V hSw; (try (have hF := HSX.out V hSw)); (try (cases hSw)); (try go_split_ands); go_simp; try with_reducible rfl)
      simp only [Act.put, List.setIfInBounds_toArray, List.set_cons_zero, List.set_cons_succ]
      refine take_ (i := 1) (d := some 29) (v := ?_) rfl rfl (by kernel_rfl) (by kernel_rfl) (by kernel_rfl) (fun _ _ _ h => h) (by rfl) ?_ (by first | rfl | trivial | assumption) ?_
      rotate_left
      · (intro V hSw; (try (have hF := HSX.out V hSw)); (try (cases hSw)); (try go_split_ands); go_simp; try with_reducible rfl)
      simp only [Act.put, List.setIfInBounds_toArray, List.set_cons_zero, List.set_cons_succ]
      refine take_ (i := 2) (d := some 30) (v := ?_) rfl rfl (by kernel_rfl) (by kernel_rfl) (by kernel_rfl) (fun _ _ _ h => h) (by rfl) ?_ (by first | rfl | trivial | assumption) ?_
      rotate_left
      · (intro V hSw; (try (have hF := HSX.out V hSw)); (try (cases hSw)); (try go_split_ands); go_simp; try with_reducible rfl)
      simp only [Act.put, List.setIfInBounds_toArray, List.set_cons_zero, List.set_cons_succ]
      refine take_ (i := 3) (d := some 31) (v := ?_) rfl rfl (by kernel_rfl) (by kernel_rfl) (by kernel_rfl) (fun _ _ _ h => h) (by rfl) ?_ (by first | rfl | trivial | assumption) ?_
      rotate_left
      · (intro V hSw; (try (have hF := HSX.out V hSw)); (try (cases hSw)); (try go_split_ands); go_simp; try with_reducible rfl)
      simp only [Act.put, List.setIfInBounds_toArray, List.set_cons_zero, List.set_cons_succ]
      refine take_ (i := 4) (d := some 32) (v := ?_) rfl rfl (by kernel_rfl) (by kernel_rfl) (by kernel_rfl) (fun _ _ _ h => h) (by rfl) ?_ (by first | rfl | trivial | assumption) ?_
      rotate_left
      · (intro V hSw; (try (have hF := HSX.out V hSw)); (try (cases hSw)); (try go_split_ands); go_simp; try with_reducible rfl)
      simp only [Act.put, List.setIfInBounds_toArray, List.set_cons_zero, List.set_cons_succ]
      refine take_ (i := 5) (d := some 33) (v := ?_) rfl rfl (by kernel_rfl) (by kernel_rfl) (by kernel_rfl) (fun _ _ _ h => h) (by rfl) ?_ (by first | rfl | trivial | assumption) ?_
      rotate_left
      · (intro V hSw; (try (have hF := HSX.out V hSw)); (try (cases hSw)); (try go_split_ands); go_simp; try with_reducible rfl)
      simp only [Act.put, List.setIfInBounds_toArray, List.set_cons_zero, List.set_cons_succ]
      refine take_ (i := 6) (d := some 34) (v := ?_) rfl rfl (by kernel_rfl) (by kernel_rfl) (by kernel_rfl) (fun _ _ _ h => h) (by rfl) ?_ (by first | rfl | trivial | assumption) ?_
      rotate_left
      · (intro V hSw; (try (have hF := HSX.out V hSw)); (try (cases hSw)); (try go_split_ands); go_simp; try with_reducible rfl)
      simp only [Act.put, List.setIfInBounds_toArray, List.set_cons_zero, List.set_cons_succ]
      refine take_ (i := 7) (d := some 35) (v := ?_) rfl rfl (by kernel_rfl) (by kernel_rfl) (by kernel_rfl) (fun _ _ _ h => h) (by rfl) ?_ (by first | rfl | trivial | assumption) ?_
      rotate_left
      · (intro V hSw; (try (have hF := HSX.out V hSw)); (try (cases hSw)); (try go_split_ands); go_simp; try with_reducible rfl)
      simp only [Act.put, List.setIfInBounds_toArray, List.set_cons_zero, List.set_cons_succ]
      refine take_ (i := 8) (d := some 36) (v := ?_) rfl rfl (by kernel_rfl) (by kernel_rfl) (by kernel_rfl) (fun _ _ _ h => h) (by rfl) ?_ (by first | rfl | trivial | assumption) ?_
      rotate_left
      · (intro V hSw; (try (have hF := HSX.out V hSw)); (try (cases hSw)); (try go_split_ands); go_simp; try with_reducible rfl)
      simp only [Act.put, List.setIfInBounds_toArray, List.set_cons_zero, List.set_cons_succ]
      refine take_ (i := 9) (d := some 37) (v := ?_) rfl rfl (by kernel_rfl) (by kernel_rfl) (by kernel_rfl) (fun _ _ _ h => h) (by rfl) ?_ (by first | rfl | trivial | assumption) ?_
      rotate_left
      · (intro V hSw; (try (have hF := HSX.out V hSw)); (try (cases hSw)); (try go_split_ands); go_simp; try with_reducible rfl)
      simp only [Act.put, List.setIfInBounds_toArray, List.set_cons_zero, List.set_cons_succ]
      refine take_ (i := 10) (d := some 38) (v := ?_) rfl rfl (by kernel_rfl) (by kernel_rfl) (by kernel_rfl) (fun _ _ _ h => h) (by rfl) ?_ (by first | rfl | trivial | assumption) ?_
      rotate_left
      · (intro V hSw; (try (have hF := HSX.out V hSw)); (try (cases hSw)); (try go_split_ands); go_simp; try with_reducible rfl)
      simp only [Act.put, List.setIfInBounds_toArray, List.set_cons_zero, List.set_cons_succ]
      refine take_ (i := 11) (d := some 39) (v := ?_) rfl rfl (by kernel_rfl) (by kernel_rfl) (by kernel_rfl) (fun _ _ _ h => h) (by rfl) ?_ (by first | rfl | trivial | assumption) ?_
      rotate_left
      · (intro V hSw; (try (have hF := HSX.out V hSw)); (try (cases hSw)); (try go_split_ands); go_simp; try with_reducible rfl)
      simp only [Act.put, List.setIfInBounds_toArray, List.set_cons_zero, List.set_cons_succ]
      refine take_ (i := 12) (d := some 40) (v := ?_) rfl rfl (by kernel_rfl) (by kernel_rfl) (by kernel_rfl) (fun _ _ _ h => h) (by rfl) ?_ (by first | rfl | trivial | assumption) ?_
      rotate_left
      · (intro V hSw; (try (have hF := HSX.out V hSw)); (try (cases hSw)); (try go_split_ands); go_simp; try with_reducible rfl)
      simp only [Act.put, List.setIfInBounds_toArray, List.set_cons_zero, List.set_cons_succ]
      refine take_ (i := 13) (d := some 41) (v := ?_) rfl rfl (by kernel_rfl) (by kernel_rfl) (by kernel_rfl) (fun _ _ _ h => h) (by rfl) ?_ (by first | rfl | trivial | assumption) ?_
      rotate_left
      · (intro V hSw; (try (have hF := HSX.out V hSw)); (try (cases hSw)); (try go_split_ands); go_simp; try with_reducible rfl)
      simp only [Act.put, List.setIfInBounds_toArray, List.set_cons_zero, List.set_cons_succ]
      refine take_ (i := 14) (d := some 8) (v := ?_) rfl rfl (by kernel_rfl) (by kernel_rfl) (by kernel_rfl) (fun _ _ _ h => h) (by rfl) ?_ (by first | rfl | trivial | assumption) ?_
      rotate_left
      · (intro V hSw; (try (have hF := HSX.out V hSw)); (try (cases hSw)); (try go_split_ands); go_simp; try with_reducible rfl)
      simp only [Act.put, List.setIfInBounds_toArray, List.set_cons_zero, List.set_cons_succ]
      refine take_ (i := 15) (d := some 9) (v := ?_) rfl rfl (by kernel_rfl) (by kernel_rfl) (by kernel_rfl) (fun _ _ _ h => h) (by rfl) ?_ (by first | rfl | trivial | assumption) ?_
      rotate_left
      · (intro V hSw; (try (have hF := HSX.out V hSw)); (try (cases hSw)); (try go_split_ands); go_simp; try with_reducible rfl)
      simp only [Act.put, List.setIfInBounds_toArray, List.set_cons_zero, List.set_cons_succ]
      refine wpAnyH_done (by kernel_rfl) ?_ _
      go_wp2_with fail
      with_reducible refine (hA1.out _).mono ?_
      rintro e w' ⟨rfl, rfl⟩
      go_wp2_with fail
      go_roundw
      case rel => exact ⟨Bel.step hbW1 (by repeat (first | exact Below.refl _ _ | assumption | apply Below.drew | apply below_drewN | apply Bel.alloc | (refine Bel.setCell_ ?_ ?_; rotate_left; omega) | (refine Bel.step ?_ (by assumption)))), k + 1, by omega, by go_num⟩
      case measure => simp [intOf]; omega
    · go_wp2_with fail
      go_ret
      exact ⟨rfl, (by repeat (first | exact Below.refl _ _ | assumption | apply Below.drew | apply below_drewN | apply Bel.alloc | (refine Bel.setCell_ ?_ ?_; rotate_left; omega) | (refine Bel.step ?_ (by assumption))))⟩

theorem jobFits_len (dep cap lim : Int) (A T : Option Addr) (n c tn tc : Nat) (w : World) (hne : tn ≠ n + 1) (hn : n ≤ 1000000000) :
    Calls Tryz.prog 20 #[jobV dep cap lim A n c, .slice T tn tc] w fun e w' => ∃ v, e = .returned v ∧ Chain w' v [(⟨#[116, 97, 98, 108, 101]⟩, 0)] 1 ∧ Below w.heap.size w w' := by
  have HQ := Lib.hid (show ∀ V, Calls Tryz.prog 34 #[.int .i64 ((n : Int) + 1), .slice T tn tc] V fun e w' => ∃ v, e = .returned v ∧ Chain w' v [(⟨#[116, 97, 98, 108, 101]⟩, 0)] 1 ∧ Below V.heap.size V w' from fun V => jobSquare_len T tn tc (n + 1) V hne)
  clear hne
  go_enter Tryz.func20, Tryz.ntmps20
  go_wp2_with fail
  with_reducible refine (HQ.out _).mono ?_
  rintro e w2 ⟨v, rfl, hch, hb⟩
  have hb2 : Below w.heap.size w w2 := Bel.step (by repeat (first | exact Below.refl _ _ | assumption | apply Below.drew | apply below_drewN | apply Bel.alloc | (refine Bel.setCell_ ?_ ?_; rotate_left; omega) | (refine Bel.step ?_ (by assumption)))) hb
  obtain ⟨t, x, rfl⟩ := chain_not_nil hch
  have HC := Lib.hid hch
  clear hch
  go_wp2_with fail
  go_ret
  exact ⟨_, rfl, HC.out, hb2⟩

theorem infoR : (Tryz.prog.info? 38).map (fun i => (i.zero, i.size, i.bytes)) = some (some (.slice none 0 0), 1, 24) := by kernel_rfl

set_option maxHeartbeats 1000000 in
/-- slices.Clone of routes. -/
theorem cloneRows_any (a : Addr) (n c : Nat) (rs : List (List Int)) (w : World) (h : RdT w (some a) n rs) (hn : n ≤ 1000000000) :
    Calls Tryz.prog 30 #[.slice (some a) n c] w fun e w' => ∃ A' c', e = .returned (.slice A' n c') ∧ RdT w' A' n rs ∧ Below w.heap.size w w' := by
  have q22 : ∀ (w : World) (a : Option Addr) (n c n' c' : Nat), (binOp .eql 28 (.slice a n c) (.slice none n' c')).run Tryz.prog w = .ok (.bool a.isNone) w := fun w a n c n' c' => Lib.run_eql_slice_nil w _ _ a n c n' c' Tryz.underlying28
  obtain ⟨xs, hxl, hxs⟩ := list_of1 (p := fun j (v : Value) => ∃ l b o A n' c', rs[j]? = some l ∧ some a = some ⟨b, o, none⟩ ∧ w.cell? ⟨b, o + j, none⟩ = some v ∧ v = .slice A n' c' ∧ RdI w A n' l ∧ n' ≤ c' ∧ c' ≤ 9223372036854775807) n (fun j hj => by
    obtain ⟨b, o, A', n', c', l, h1, h2, h3, h4, h5, h6⟩ := h.at_ hj
    exact ⟨_, l, b, o, A', n', c', h2, h1, h3, rfl, h4, h5, h6⟩)
  have hrd : Rds w 1 (some a) n xs := ⟨by omega, fun j u hu => by
    obtain ⟨l, b, o, A, n', c', _, h1, h2, _⟩ := hxs j u hu
    exact ⟨b, o, h1, h2⟩⟩
  have hone : ∀ u ∈ xs, u.oneCell' = true := fun u hu => by
    obtain ⟨j, hj, e⟩ := List.getElem_of_mem hu
    obtain ⟨l, b, o, A, n', c', _, _, _, h3, _⟩ := hxs j u (by rw [List.getElem?_eq_getElem hj, e])
    rw [h3]; rfl
  have hb1 : ∀ o, Below w.heap.size w (w.alloc o) := fun o => (Below.refl _ _).alloc (Nat.le_refl _) o
  have hown0 : Own (w.alloc (.cells #[] 38)) w.heap.size 38 1 (some ⟨w.heap.size, 0, none⟩) 0 0 [] := Own.lit w #[] 0 (Nat.le_refl _) (by omega) rfl
  have HX := Lib.hid hxs
  have HL := Lib.hid h.1
  clear h hxs
  go_enter Tryz.func30, Tryz.ntmps30
  go_wp2_with (at_builtin; with_reducible refine wpList_app rfl (.tmp 5) (.tmp 6) 28 rfl 38 _ 1 24 infoR Tryz.underlying28 rfl (by omega) (B := w.heap.size) rfl rfl hown0 (hrd.below (hb1 _)) hone (by omega) (by omega) (by simp) ?_)
  intro A' c' w' hown hg _
  have hb2 : Below w.heap.size w w' := Bel.grownOwn (hb1 _) hg hown0 (by simp)
  have hrds : Rds w' 1 A' n xs := by simpa using hown.rds
  go_wp2
  go_ret
  refine ⟨_, _, rfl, ⟨HL.out, fun i l hl => ?_⟩, hb2⟩
  have hi : i < xs.length := by rw [hxl, ← HL.out]; exact (List.getElem?_eq_some_iff.1 hl).1
  obtain ⟨l', b, o, A, n', c'', e1, _, _, h3, h4, h5, h6⟩ := HX.out i _ (List.getElem?_eq_getElem hi)
  rw [hl] at e1
  cases e1
  obtain ⟨b', o', e2, h7⟩ := hrds.2 i _ (List.getElem?_eq_getElem hi)
  rw [h3] at h7
  exact ⟨b', o', A, n', c'', e2, h7, h4.below hb2, h5, h6⟩
end Go.Proofs.YtjphjbchhhembaaGreatDoor
