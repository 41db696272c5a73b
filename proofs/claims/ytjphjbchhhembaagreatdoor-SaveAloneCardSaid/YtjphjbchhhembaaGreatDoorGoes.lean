/- goes of save; the document's Length, Load, goes. -/
import Derived.Test.YtjphjbchhhembaaGreatDoorJob
import Derived.Deep.RegionHeld3
import Derived.Deep.DrawnRows
namespace Go.Proofs.YtjphjbchhhembaaGreatDoor
open Go.RowKit

attribute [local go_sem ↓] Go.wp_at_zero Go.wp_at_succ

theorem takeU_ {P : Program} {ops : Array Oper} {Q : Exit → Act → World → Prop} {md : Region.Mode} {S : World → Prop} {i : Nat} {oi : Oper} {d : Option Tmp} {fuel : Nat} {listed : Array Bool} {a : Act} {w : World} (hi : ops[i]? = some oi) (hd : oi.dst = d)
    (hs : Region.noSelect ops = true) (hf : Region.free md ops listed i = true) (hr : (Region.ready md ops listed).contains i = true)
    (hQ : ∀ c a w, Q (.panic c) (a.put oi.dst undef) w → Q (.panic c) a w) (hw : Region.wanted oi (yielded ops a.tmps) = false) (hS : S w)
    (h : wpAnyH P md ops Q S fuel (listed.setIfInBounds i true) (a.put d undef) w) : wpAnyH P md ops Q S (fuel + 1) listed a w := by
  subst hd
  exact wpAnyH_take hi hs hf hr hQ (Or.inr ⟨hw, rfl⟩) hS h
theorem lenGo_bd (ls : List (List Int)) : ∀ (r : List Int) (i : Nat) (x : Int), 0 ≤ lenGo ls i x r ∧ lenGo ls i x r ≤ INF
  | [], i, x => ⟨add2_lo _ _, add2_hi _ _⟩
  | k :: t, i, x => by
    unfold lenGo
    split
    · unfold INF; omega
    · exact lenGo_bd ls t _ _
theorem lenR_bd (ls : List (List Int)) (r : List Int) : 0 ≤ lenR ls r ∧ lenR ls r ≤ INF := by
  unfold lenR
  split
  · unfold INF; omega
  · exact lenGo_bd ls r 0 0

set_option maxHeartbeats 2000000 in
theorem saveGoes_any (dep cap lim : Int) (A R T : Option Addr) (n c m d tn tc : Nat) (st : List (Int × Int)) (r : List Int) (ls : List (List Int)) (w : World) (h : RdP w A n st) (hL : LdOk st) (hr : RdI w R m r) (ht : RdT w T tn ls) (hs : Sq tn ls) (h0 : 0 < tn) (hn : n ≤ 4000000000000000000) (hm : m ≤ 1000000000) :
    Calls Tryz.prog 25 #[jobV dep cap lim A n c, .slice T tn tc, .slice R m d] w fun e w' => e = .returned (.bool (goesB cap lim ls st r)) ∧ Below w.heap.size w w' := by
  have HJ := Lib.hid (show ∀ V, Below w.heap.size w V → Calls Tryz.prog 49 #[jobV dep cap lim A n c, .slice R m d] V fun e w' => e = .returned (.int .i64 (loadR st r)) ∧ Below V.heap.size V w' from fun V hV => jobLoad_any dep cap lim A R n c m d st r V (h.below hV) hL (hr.below hV) hn hm)
  have HK := Lib.hid (show ∀ V, Below w.heap.size w V → Calls Tryz.prog 48 #[.slice T tn tc, .slice R m d] V fun e w' => e = .returned (.int .i64 (lenR ls r)) ∧ V = w' from fun V hV => jobLength_any T R tn tc m d ls r V (ht.below hV) hs h0 (hr.below hV) (by omega))
  have HG := Lib.hid (show goesB cap lim ls st r = (decide (loadR st r ≤ cap) && (decide (lenR ls r < 1152921504606846976) && decide (lenR ls r ≤ lim))) from rfl)
  clear h hL hr ht hs
  generalize loadR st r = x at *
  generalize lenR ls r = y at *
  go_enter Tryz.func25, Tryz.ntmps25
  go_wp2_with fail
  with_reducible refine (HK.out _ (by repeat (first | exact Below.refl _ _ | assumption | apply Below.drew | apply below_drewN | apply Bel.alloc | (refine Bel.setCell_ ?_ ?_; rotate_left; omega) | (refine Bel.step ?_ (by assumption))))).mono ?_
  rintro e w' ⟨rfl, rfl⟩
  go_wp2_with fail
  (refine wp_named ?_; intro w1 hw1)
  have hb1 : Below w.heap.size w w1 := by rw [hw1]; exact (by repeat (first | exact Below.refl _ _ | assumption | apply Below.drew | apply below_drewN | apply Bel.alloc | (refine Bel.setCell_ ?_ ?_; rotate_left; omega) | (refine Bel.step ?_ (by assumption))))
  have hB : Blk w1 w.heap.size 35 #[.int .i64 dep, .int .i64 cap, .int .i64 lim, .slice A n c] := by rw [hw1]; exact Blk.new _ _ _
  obtain ⟨b0, b1, b2, b3⟩ := hB.four
  clear hw1 hB HK
  have HSX := Lib.hid (show ∀ V, Below w1.heap.size w1 V → V.cell? ⟨w.heap.size, 0, none⟩ = some (.int .i64 dep) ∧ V.cell? ⟨w.heap.size, 1, none⟩ = some (.int .i64 cap) ∧ V.cell? ⟨w.heap.size, 2, none⟩ = some (.int .i64 lim) ∧ V.cell? ⟨w.heap.size, 3, none⟩ = some (.slice A n c) from
    fun V hb => ⟨Below.cellOf hb (Nat.le_refl _) b0, Below.cellOf hb (Nat.le_refl _) b1, Below.cellOf hb (Nat.le_refl _) b2, Below.cellOf hb (Nat.le_refl _) b3⟩)
  refine wp_region_held_drew (S := fun V => Below w1.heap.size w1 V) (by kernel_rfl) (by repeat (first | exact Below.refl _ _ | assumption | apply Below.drew | apply below_drewN | apply Bel.alloc | (refine Bel.setCell_ ?_ ?_; rotate_left; omega) | (refine Bel.step ?_ (by assumption)))) (fun _ => ?_)
  refine take_ (i := 0) (d := some 11) (v := ?_) rfl rfl (by kernel_rfl) (by kernel_rfl) (by kernel_rfl) (fun _ _ _ h => h) (by rfl) ?_ (by first | rfl | trivial | assumption) ?_
  rotate_left
  · (intro V hSw; (try (have hF := HSX.out V hSw)); (try (cases hSw)); (try go_split_ands); go_simp; try with_reducible rfl)
  simp only [Act.put, List.setIfInBounds_toArray, List.set_cons_zero, List.set_cons_succ]
  refine take_ (i := 1) (d := some 12) (v := ?_) rfl rfl (by kernel_rfl) (by kernel_rfl) (by kernel_rfl) (fun _ _ _ h => h) (by rfl) ?_ (by first | rfl | trivial | assumption) ?_
  rotate_left
  · (intro V hSw; (try (have hF := HSX.out V hSw)); (try (cases hSw)); (try go_split_ands); go_simp; try with_reducible rfl)
  simp only [Act.put, List.setIfInBounds_toArray, List.set_cons_zero, List.set_cons_succ]
  refine take_ (i := 3) (d := some 14) (v := ?_) rfl rfl (by kernel_rfl) (by kernel_rfl) (by kernel_rfl) (fun _ _ _ h => h) (by rfl) ?_ (by first | rfl | trivial | assumption) ?_
  rotate_left
  · (intro V hSw; (try (have hF := HSX.out V hSw)); (try (cases hSw)); (try go_split_ands); go_simp; try with_reducible rfl)
  simp only [Act.put, List.setIfInBounds_toArray, List.set_cons_zero, List.set_cons_succ]
  refine take_ (i := 4) (d := some 15) (v := ?_) rfl rfl (by kernel_rfl) (by kernel_rfl) (by kernel_rfl) (fun _ _ _ h => h) (by rfl) ?_ (by first | rfl | trivial | assumption) ?_
  rotate_left
  · (intro V hSw; (try (have hF := HSX.out V hSw)); (try (cases hSw)); (try go_split_ands); go_simp; try with_reducible rfl)
  simp only [Act.put, List.setIfInBounds_toArray, List.set_cons_zero, List.set_cons_succ]
  refine wpAnyH_ready (rs := [2]) (by kernel_rfl) (by simp) ?_
  refine AllReadyH.cons (o := _) rfl (fun K hK => ?_) AllReadyH.nil
  go_simp
  go_at_call 49
  with_reducible refine (HJ.out _ (by repeat (first | exact Below.refl _ _ | assumption | apply Below.drew | apply below_drewN | apply Bel.alloc | (refine Bel.setCell_ ?_ ?_; rotate_left; omega) | (refine Bel.step ?_ (by assumption))))).mono ?_
  rintro e w6 ⟨rfl, hb6⟩
  go_wp2_with fail
  have hb7 : Below w1.heap.size w1 w6 := (by repeat (first | exact Below.refl _ _ | assumption | apply Below.drew | apply below_drewN | apply Bel.alloc | (refine Bel.setCell_ ?_ ?_; rotate_left; omega) | (refine Bel.step ?_ (by assumption))))
  refine hK.out _ _ hb7 (fun _ => ?_)
  clear hK K
  cases d1 : decide (x ≤ cap)
  ·
    refine take_ (i := 5) (d := some 16) (v := ?_) rfl rfl (by kernel_rfl) (by kernel_rfl) (by kernel_rfl) (fun _ _ _ h => h) (by rfl) ?_ (by first | rfl | trivial | assumption) ?_
    rotate_left
    · (intro V hSw; (try (have hF := HSX.out V hSw)); (try (cases hSw)); (try go_split_ands); go_simp; try with_reducible rfl)
    simp only [Act.put, List.setIfInBounds_toArray, List.set_cons_zero, List.set_cons_succ]
    refine take_ (i := 6) (d := some 17) (v := ?_) rfl rfl (by kernel_rfl) (by kernel_rfl) (by kernel_rfl) (fun _ _ _ h => h) (by rfl) ?_ (by first | rfl | trivial | assumption) ?_
    rotate_left
    · (intro V hSw; (try (have hF := HSX.out V hSw)); (try (cases hSw)); (try go_split_ands); go_simp; try with_reducible rfl)
    simp only [Act.put, List.setIfInBounds_toArray, List.set_cons_zero, List.set_cons_succ]
    refine takeU_ (i := 7) (d := some 18) rfl rfl (by kernel_rfl) (by kernel_rfl) (by kernel_rfl) (fun _ _ _ h => h) (by rfl) (by first | rfl | trivial | assumption) ?_
    simp only [Act.put, List.setIfInBounds_toArray, List.set_cons_zero, List.set_cons_succ]
    refine takeU_ (i := 8) (d := some 19) rfl rfl (by kernel_rfl) (by kernel_rfl) (by kernel_rfl) (fun _ _ _ h => h) (by rfl) (by first | rfl | trivial | assumption) ?_
    simp only [Act.put, List.setIfInBounds_toArray, List.set_cons_zero, List.set_cons_succ]
    refine take_ (i := 9) (d := some 20) (v := ?_) rfl rfl (by kernel_rfl) (by kernel_rfl) (by kernel_rfl) (fun _ _ _ h => h) (by rfl) ?_ (by first | rfl | trivial | assumption) ?_
    rotate_left
    · (intro V hSw; (try (have hF := HSX.out V hSw)); (try (cases hSw)); (try go_split_ands); go_simp; try with_reducible rfl)
    simp only [Act.put, List.setIfInBounds_toArray, List.set_cons_zero, List.set_cons_succ]
    refine take_ (i := 10) (d := some 21) (v := ?_) rfl rfl (by kernel_rfl) (by kernel_rfl) (by kernel_rfl) (fun _ _ _ h => h) (by rfl) ?_ (by first | rfl | trivial | assumption) ?_
    rotate_left
    · (intro V hSw; (try (have hF := HSX.out V hSw)); (try (cases hSw)); (try go_split_ands); go_simp; try with_reducible rfl)
    simp only [Act.put, List.setIfInBounds_toArray, List.set_cons_zero, List.set_cons_succ]
    refine takeU_ (i := 11) (d := some 22) rfl rfl (by kernel_rfl) (by kernel_rfl) (by kernel_rfl) (fun _ _ _ h => h) (by rfl) (by first | rfl | trivial | assumption) ?_
    simp only [Act.put, List.setIfInBounds_toArray, List.set_cons_zero, List.set_cons_succ]
    refine takeU_ (i := 12) (d := some 23) rfl rfl (by kernel_rfl) (by kernel_rfl) (by kernel_rfl) (fun _ _ _ h => h) (by rfl) (by first | rfl | trivial | assumption) ?_
    simp only [Act.put, List.setIfInBounds_toArray, List.set_cons_zero, List.set_cons_succ]
    refine takeU_ (i := 13) (d := some 24) rfl rfl (by kernel_rfl) (by kernel_rfl) (by kernel_rfl) (fun _ _ _ h => h) (by rfl) (by first | rfl | trivial | assumption) ?_
    simp only [Act.put, List.setIfInBounds_toArray, List.set_cons_zero, List.set_cons_succ]
    refine takeU_ (i := 14) (d := some 25) rfl rfl (by kernel_rfl) (by kernel_rfl) (by kernel_rfl) (fun _ _ _ h => h) (by rfl) (by first | rfl | trivial | assumption) ?_
    simp only [Act.put, List.setIfInBounds_toArray, List.set_cons_zero, List.set_cons_succ]
    refine take_ (i := 15) (d := some 26) (v := ?_) rfl rfl (by kernel_rfl) (by kernel_rfl) (by kernel_rfl) (fun _ _ _ h => h) (by rfl) ?_ (by first | rfl | trivial | assumption) ?_
    rotate_left
    · (intro V hSw; (try (have hF := HSX.out V hSw)); (try (cases hSw)); (try go_split_ands); go_simp; try with_reducible rfl)
    simp only [Act.put, List.setIfInBounds_toArray, List.set_cons_zero, List.set_cons_succ]
    refine take_ (i := 16) (d := some 6) (v := ?_) rfl rfl (by kernel_rfl) (by kernel_rfl) (by kernel_rfl) (fun _ _ _ h => h) (by rfl) ?_ (by first | rfl | trivial | assumption) ?_
    rotate_left
    · (intro V hSw; (try (have hF := HSX.out V hSw)); (try (cases hSw)); (try go_split_ands); go_simp; try with_reducible rfl)
    simp only [Act.put, List.setIfInBounds_toArray, List.set_cons_zero, List.set_cons_succ]
    refine wpAnyH_done (by kernel_rfl) ?_ _
    go_wp2_with fail
    go_ret
    exact ⟨ret_bool (by rw [HG.out]; simp [d1]), (by repeat (first | exact Below.refl _ _ | assumption | apply Below.drew | apply below_drewN | apply Bel.alloc | (refine Bel.setCell_ ?_ ?_; rotate_left; omega) | (refine Bel.step ?_ (by assumption))))⟩
  · cases d2 : decide (y < 1152921504606846976)
    ·
      refine take_ (i := 5) (d := some 16) (v := ?_) rfl rfl (by kernel_rfl) (by kernel_rfl) (by kernel_rfl) (fun _ _ _ h => h) (by rfl) ?_ (by first | rfl | trivial | assumption) ?_
      rotate_left
      · (intro V hSw; (try (have hF := HSX.out V hSw)); (try (cases hSw)); (try go_split_ands); go_simp; try with_reducible rfl)
      simp only [Act.put, List.setIfInBounds_toArray, List.set_cons_zero, List.set_cons_succ]
      refine take_ (i := 6) (d := some 17) (v := ?_) rfl rfl (by kernel_rfl) (by kernel_rfl) (by kernel_rfl) (fun _ _ _ h => h) (by rfl) ?_ (by first | rfl | trivial | assumption) ?_
      rotate_left
      · (intro V hSw; (try (have hF := HSX.out V hSw)); (try (cases hSw)); (try go_split_ands); go_simp; try with_reducible rfl)
      simp only [Act.put, List.setIfInBounds_toArray, List.set_cons_zero, List.set_cons_succ]
      refine take_ (i := 7) (d := some 18) (v := ?_) rfl rfl (by kernel_rfl) (by kernel_rfl) (by kernel_rfl) (fun _ _ _ h => h) (by rfl) ?_ (by first | rfl | trivial | assumption) ?_
      rotate_left
      · (intro V hSw; (try (have hF := HSX.out V hSw)); (try (cases hSw)); (try go_split_ands); go_simp; try with_reducible rfl)
      simp only [Act.put, List.setIfInBounds_toArray, List.set_cons_zero, List.set_cons_succ]
      refine take_ (i := 8) (d := some 19) (v := ?_) rfl rfl (by kernel_rfl) (by kernel_rfl) (by kernel_rfl) (fun _ _ _ h => h) (by rfl) ?_ (by first | rfl | trivial | assumption) ?_
      rotate_left
      · (intro V hSw; (try (have hF := HSX.out V hSw)); (try (cases hSw)); (try go_split_ands); go_simp; try with_reducible rfl)
      simp only [Act.put, List.setIfInBounds_toArray, List.set_cons_zero, List.set_cons_succ]
      refine take_ (i := 9) (d := some 20) (v := ?_) rfl rfl (by kernel_rfl) (by kernel_rfl) (by kernel_rfl) (fun _ _ _ h => h) (by rfl) ?_ (by first | rfl | trivial | assumption) ?_
      rotate_left
      · (intro V hSw; (try (have hF := HSX.out V hSw)); (try (cases hSw)); (try go_split_ands); go_simp; try with_reducible rfl)
      simp only [Act.put, List.setIfInBounds_toArray, List.set_cons_zero, List.set_cons_succ]
      refine take_ (i := 10) (d := some 21) (v := ?_) rfl rfl (by kernel_rfl) (by kernel_rfl) (by kernel_rfl) (fun _ _ _ h => h) (by rfl) ?_ (by first | rfl | trivial | assumption) ?_
      rotate_left
      · (intro V hSw; (try (have hF := HSX.out V hSw)); (try (cases hSw)); (try go_split_ands); go_simp; try with_reducible rfl)
      simp only [Act.put, List.setIfInBounds_toArray, List.set_cons_zero, List.set_cons_succ]
      refine takeU_ (i := 11) (d := some 22) rfl rfl (by kernel_rfl) (by kernel_rfl) (by kernel_rfl) (fun _ _ _ h => h) (by rfl) (by first | rfl | trivial | assumption) ?_
      simp only [Act.put, List.setIfInBounds_toArray, List.set_cons_zero, List.set_cons_succ]
      refine takeU_ (i := 12) (d := some 23) rfl rfl (by kernel_rfl) (by kernel_rfl) (by kernel_rfl) (fun _ _ _ h => h) (by rfl) (by first | rfl | trivial | assumption) ?_
      simp only [Act.put, List.setIfInBounds_toArray, List.set_cons_zero, List.set_cons_succ]
      refine takeU_ (i := 13) (d := some 24) rfl rfl (by kernel_rfl) (by kernel_rfl) (by kernel_rfl) (fun _ _ _ h => h) (by rfl) (by first | rfl | trivial | assumption) ?_
      simp only [Act.put, List.setIfInBounds_toArray, List.set_cons_zero, List.set_cons_succ]
      refine takeU_ (i := 14) (d := some 25) rfl rfl (by kernel_rfl) (by kernel_rfl) (by kernel_rfl) (fun _ _ _ h => h) (by rfl) (by first | rfl | trivial | assumption) ?_
      simp only [Act.put, List.setIfInBounds_toArray, List.set_cons_zero, List.set_cons_succ]
      refine take_ (i := 15) (d := some 26) (v := ?_) rfl rfl (by kernel_rfl) (by kernel_rfl) (by kernel_rfl) (fun _ _ _ h => h) (by rfl) ?_ (by first | rfl | trivial | assumption) ?_
      rotate_left
      · (intro V hSw; (try (have hF := HSX.out V hSw)); (try (cases hSw)); (try go_split_ands); go_simp; try with_reducible rfl)
      simp only [Act.put, List.setIfInBounds_toArray, List.set_cons_zero, List.set_cons_succ]
      refine take_ (i := 16) (d := some 6) (v := ?_) rfl rfl (by kernel_rfl) (by kernel_rfl) (by kernel_rfl) (fun _ _ _ h => h) (by rfl) ?_ (by first | rfl | trivial | assumption) ?_
      rotate_left
      · (intro V hSw; (try (have hF := HSX.out V hSw)); (try (cases hSw)); (try go_split_ands); go_simp; try with_reducible rfl)
      simp only [Act.put, List.setIfInBounds_toArray, List.set_cons_zero, List.set_cons_succ]
      refine wpAnyH_done (by kernel_rfl) ?_ _
      go_wp2_with fail
      go_ret
      exact ⟨ret_bool (by rw [HG.out]; simp [d1, d2]), (by repeat (first | exact Below.refl _ _ | assumption | apply Below.drew | apply below_drewN | apply Bel.alloc | (refine Bel.setCell_ ?_ ?_; rotate_left; omega) | (refine Bel.step ?_ (by assumption))))⟩
    ·
      refine take_ (i := 5) (d := some 16) (v := ?_) rfl rfl (by kernel_rfl) (by kernel_rfl) (by kernel_rfl) (fun _ _ _ h => h) (by rfl) ?_ (by first | rfl | trivial | assumption) ?_
      rotate_left
      · (intro V hSw; (try (have hF := HSX.out V hSw)); (try (cases hSw)); (try go_split_ands); go_simp; try with_reducible rfl)
      simp only [Act.put, List.setIfInBounds_toArray, List.set_cons_zero, List.set_cons_succ]
      refine take_ (i := 6) (d := some 17) (v := ?_) rfl rfl (by kernel_rfl) (by kernel_rfl) (by kernel_rfl) (fun _ _ _ h => h) (by rfl) ?_ (by first | rfl | trivial | assumption) ?_
      rotate_left
      · (intro V hSw; (try (have hF := HSX.out V hSw)); (try (cases hSw)); (try go_split_ands); go_simp; try with_reducible rfl)
      simp only [Act.put, List.setIfInBounds_toArray, List.set_cons_zero, List.set_cons_succ]
      refine take_ (i := 7) (d := some 18) (v := ?_) rfl rfl (by kernel_rfl) (by kernel_rfl) (by kernel_rfl) (fun _ _ _ h => h) (by rfl) ?_ (by first | rfl | trivial | assumption) ?_
      rotate_left
      · (intro V hSw; (try (have hF := HSX.out V hSw)); (try (cases hSw)); (try go_split_ands); go_simp; try with_reducible rfl)
      simp only [Act.put, List.setIfInBounds_toArray, List.set_cons_zero, List.set_cons_succ]
      refine take_ (i := 8) (d := some 19) (v := ?_) rfl rfl (by kernel_rfl) (by kernel_rfl) (by kernel_rfl) (fun _ _ _ h => h) (by rfl) ?_ (by first | rfl | trivial | assumption) ?_
      rotate_left
      · (intro V hSw; (try (have hF := HSX.out V hSw)); (try (cases hSw)); (try go_split_ands); go_simp; try with_reducible rfl)
      simp only [Act.put, List.setIfInBounds_toArray, List.set_cons_zero, List.set_cons_succ]
      refine take_ (i := 9) (d := some 20) (v := ?_) rfl rfl (by kernel_rfl) (by kernel_rfl) (by kernel_rfl) (fun _ _ _ h => h) (by rfl) ?_ (by first | rfl | trivial | assumption) ?_
      rotate_left
      · (intro V hSw; (try (have hF := HSX.out V hSw)); (try (cases hSw)); (try go_split_ands); go_simp; try with_reducible rfl)
      simp only [Act.put, List.setIfInBounds_toArray, List.set_cons_zero, List.set_cons_succ]
      refine take_ (i := 10) (d := some 21) (v := ?_) rfl rfl (by kernel_rfl) (by kernel_rfl) (by kernel_rfl) (fun _ _ _ h => h) (by rfl) ?_ (by first | rfl | trivial | assumption) ?_
      rotate_left
      · (intro V hSw; (try (have hF := HSX.out V hSw)); (try (cases hSw)); (try go_split_ands); go_simp; try with_reducible rfl)
      simp only [Act.put, List.setIfInBounds_toArray, List.set_cons_zero, List.set_cons_succ]
      refine take_ (i := 11) (d := some 22) (v := ?_) rfl rfl (by kernel_rfl) (by kernel_rfl) (by kernel_rfl) (fun _ _ _ h => h) (by rfl) ?_ (by first | rfl | trivial | assumption) ?_
      rotate_left
      · (intro V hSw; (try (have hF := HSX.out V hSw)); (try (cases hSw)); (try go_split_ands); go_simp; try with_reducible rfl)
      simp only [Act.put, List.setIfInBounds_toArray, List.set_cons_zero, List.set_cons_succ]
      refine take_ (i := 12) (d := some 23) (v := ?_) rfl rfl (by kernel_rfl) (by kernel_rfl) (by kernel_rfl) (fun _ _ _ h => h) (by rfl) ?_ (by first | rfl | trivial | assumption) ?_
      rotate_left
      · (intro V hSw; (try (have hF := HSX.out V hSw)); (try (cases hSw)); (try go_split_ands); go_simp; try with_reducible rfl)
      simp only [Act.put, List.setIfInBounds_toArray, List.set_cons_zero, List.set_cons_succ]
      refine take_ (i := 13) (d := some 24) (v := ?_) rfl rfl (by kernel_rfl) (by kernel_rfl) (by kernel_rfl) (fun _ _ _ h => h) (by rfl) ?_ (by first | rfl | trivial | assumption) ?_
      rotate_left
      · (intro V hSw; (try (have hF := HSX.out V hSw)); (try (cases hSw)); (try go_split_ands); go_simp; try with_reducible rfl)
      simp only [Act.put, List.setIfInBounds_toArray, List.set_cons_zero, List.set_cons_succ]
      refine take_ (i := 14) (d := some 25) (v := ?_) rfl rfl (by kernel_rfl) (by kernel_rfl) (by kernel_rfl) (fun _ _ _ h => h) (by rfl) ?_ (by first | rfl | trivial | assumption) ?_
      rotate_left
      · (intro V hSw; (try (have hF := HSX.out V hSw)); (try (cases hSw)); (try go_split_ands); go_simp; try with_reducible rfl)
      simp only [Act.put, List.setIfInBounds_toArray, List.set_cons_zero, List.set_cons_succ]
      refine take_ (i := 15) (d := some 26) (v := ?_) rfl rfl (by kernel_rfl) (by kernel_rfl) (by kernel_rfl) (fun _ _ _ h => h) (by rfl) ?_ (by first | rfl | trivial | assumption) ?_
      rotate_left
      · (intro V hSw; (try (have hF := HSX.out V hSw)); (try (cases hSw)); (try go_split_ands); go_simp; try with_reducible rfl)
      simp only [Act.put, List.setIfInBounds_toArray, List.set_cons_zero, List.set_cons_succ]
      refine take_ (i := 16) (d := some 6) (v := ?_) rfl rfl (by kernel_rfl) (by kernel_rfl) (by kernel_rfl) (fun _ _ _ h => h) (by rfl) ?_ (by first | rfl | trivial | assumption) ?_
      rotate_left
      · (intro V hSw; (try (have hF := HSX.out V hSw)); (try (cases hSw)); (try go_split_ands); go_simp; try with_reducible rfl)
      simp only [Act.put, List.setIfInBounds_toArray, List.set_cons_zero, List.set_cons_succ]
      refine wpAnyH_done (by kernel_rfl) ?_ _
      go_wp2_with fail
      go_ret
      exact ⟨ret_bool (by rw [HG.out]; simp [d1, d2]), (by repeat (first | exact Below.refl _ _ | assumption | apply Below.drew | apply below_drewN | apply Bel.alloc | (refine Bel.setCell_ ?_ ?_; rotate_left; omega) | (refine Bel.step ?_ (by assumption))))⟩
end Go.Proofs.YtjphjbchhhembaaGreatDoor
