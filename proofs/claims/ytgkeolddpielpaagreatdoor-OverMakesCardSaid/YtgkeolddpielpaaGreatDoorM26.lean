/- Parts of the proof: Tl, Mk. -/
import Derived.Test.YtgkeolddpielpaaGreatDoorM25
import Derived.Deep.RegionHeld3
import Derived.Deep.DrawnRows
/- roundsmanlaw1.Tells: where an error is a chain, and it is told as that: true. -/
namespace Go.Proofs.YtgkeolddpielpaaGreatDoor
open Go.RowKit Go.Extern.Stop Go.Stop Go.Extern

theorem asW_below (t : Addr) (p : Nat) (w : World) : Below w.heap.size w (asX t p w) := (by repeat (first | exact Below.refl _ _ | assumption | apply Below.drew | apply below_drewN | apply Bel.alloc | (refine Bel.setCell_ ?_ ?_; rotate_left; omega) | (refine Bel.step ?_ (by assumption))))

/-- errors.As: the error's own type is the target's: what is behind it. -/
theorem as_fault (b o g : Nat) (old : Value) (w : World) (hg : w.cell? ⟨0, 0, none⟩ = some errT) (ht0 : w.cell? ⟨g, 0, none⟩ = some old) (hf0 : w.frozen? ⟨g, 0, none⟩ = false) :
    Calls Tryz.prog 44 #[fltV b o, .iface 98 (.pointer (some ⟨g, 0, none⟩))] w fun ev w' => ev = .returned (.bool true) ∧ w'.cell? ⟨g, 0, none⟩ = some (.pointer (some ⟨b, o, none⟩)) ∧ Below g w w' :=
  (as_hitF ⟨b, o, none⟩ ⟨g, 0, none⟩ old w hg ht0 hf0).mono fun e w' ⟨he, hw⟩ => by
    have hlt := lt_of_cell ht0
    have hb : Below g w (asX ⟨g, 0, none⟩ 98 w) := (asW_below _ _ w).mono (Nat.le_of_lt hlt)
    have hb2 : Below g w ((asX ⟨g, 0, none⟩ 98 w).alloc (.cells #[.pointer (some ⟨b, o, none⟩)] 96)) := hb.alloc (Nat.le_trans (Nat.le_of_lt hlt) (asW_below _ _ w).size) _
    refine ⟨he, ?_, ?_⟩
    · rw [hw]
      have hc : ((asX ⟨g, 0, none⟩ 98 w).alloc (.cells #[.pointer (some ⟨b, o, none⟩)] 96)).cell? ⟨g, 0, none⟩ = some old :=
        Below.cellOf (Bel.alloc (asW_below ⟨g, 0, none⟩ 98 w)) (Nat.le_refl _) ht0
      exact World.cell?_setCell_same _ _ _ hc
    · rw [hw]; exact hb2.setCell (Nat.le_refl _) _
theorem as_errno (c : Int) (g : Nat) (old : Value) (w : World) (hg : w.cell? ⟨0, 0, none⟩ = some errT) (ht0 : w.cell? ⟨g, 0, none⟩ = some old) (hf0 : w.frozen? ⟨g, 0, none⟩ = false) :
    Calls Tryz.prog 44 #[errV c, .iface 103 (.pointer (some ⟨g, 0, none⟩))] w fun ev w' => ev = .returned (.bool true) ∧ w'.cell? ⟨g, 0, none⟩ = some (.int .i64 c) ∧ Below g w w' :=
  (as_hitE c ⟨g, 0, none⟩ old w hg ht0 hf0).mono fun e w' ⟨he, hw⟩ => by
    have hlt := lt_of_cell ht0
    have hb : Below g w (asX ⟨g, 0, none⟩ 103 w) := (asW_below _ _ w).mono (Nat.le_of_lt hlt)
    have hb2 : Below g w ((asX ⟨g, 0, none⟩ 103 w).alloc (.cells #[.int .i64 c] 95)) := hb.alloc (Nat.le_trans (Nat.le_of_lt hlt) (asW_below _ _ w).size) _
    refine ⟨he, ?_, ?_⟩
    · rw [hw]
      have hc : ((asX ⟨g, 0, none⟩ 103 w).alloc (.cells #[.int .i64 c] 95)).cell? ⟨g, 0, none⟩ = some old :=
        Below.cellOf (Bel.alloc (asW_below ⟨g, 0, none⟩ 103 w)) (Nat.le_refl _) ht0
      exact World.cell?_setCell_same _ _ _ hc
    · rw [hw]; exact hb2.setCell (Nat.le_refl _) _
theorem as_none (c : Int) (g : Nat) (w : World) (hg : w.cell? ⟨0, 0, none⟩ = some errT) :
    Calls Tryz.prog 44 #[errV c, .iface 98 (.pointer (some ⟨g, 0, none⟩))] w fun ev w' => ev = .returned (.bool false) ∧ Below w.heap.size w w' :=
  (as_miss c ⟨g, 0, none⟩ w hg).mono fun e w' ⟨he, hw⟩ => ⟨he, by rw [hw]; exact asW_below _ _ w⟩

set_option maxHeartbeats 1000000 in
/-- of no error: OK. -/
theorem tells_nil (A : Option Addr) (n c : Nat) (w : World) :
    Calls Tryz.prog 12 #[.nilIface, .agg #[.slice A n c, .int .i64 0]] w fun e w' => e = .returned (.bool true) ∧ Below w.heap.size w w' := by
  go_enter Tryz.func12, Tryz.ntmps12
  go_wp2
  go_ret
  exact ⟨rfl, (by repeat (first | exact Below.refl _ _ | assumption | apply Below.drew | apply below_drewN | apply Bel.alloc | (refine Bel.setCell_ ?_ ?_; rotate_left; omega) | (refine Bel.step ?_ (by assumption))))⟩

theorem chain_drop {w : World} {v : Value} {ps : List (ByteArray × Int)} {c : Int} {k : Nat} {p : ByteArray × Int} (hk : ps[k]? = some p) (h : Chain w v (ps.drop k) c) :
    ∃ b o u, v = fltV b o ∧ w.cell? ⟨b, o, none⟩ = some (.string p.1) ∧ w.cell? ⟨b, o + 1, none⟩ = some (.int .i64 p.2) ∧ w.cell? ⟨b, o + 2, none⟩ = some u ∧ Chain w u (ps.drop (k + 1)) c := by
  have hlt := (List.getElem?_eq_some_iff.1 hk).1
  rw [List.drop_eq_getElem_cons hlt] at h
  have e : ps[k] = p := (List.getElem?_eq_some_iff.1 hk).2
  rw [e] at h
  exact h

attribute [local go_sem ↓] Go.wp_at_zero Go.wp_at_succ

set_option maxHeartbeats 4000000 in
theorem tells_any (v : Value) (A : Option Addr) (n c : Nat) (ps : List (ByteArray × Int)) (c0 : Int) (w : World) (h : Chain w v ps c0) (hr : RdW w A n ps) (hc0 : c0 ≠ 0) (hg : w.cell? ⟨0, 0, none⟩ = some errT) (hn : n ≤ 4000000000000000000) :
    Calls Tryz.prog 12 #[v, .agg #[.slice A n c, .int .i64 c0]] w fun e w' => e = .returned (.bool true) ∧ Below w.heap.size w w' := by
  have HI : ∀ (W : World), Below w.heap.size w W → Calls Tryz.prog 43 #[v, errV c0] W fun e w' => e = .returned (.bool true) ∧ w' = W := fun W hb => errorsIs v ps c0 W (Chain.below hb h)
  have HI' := Lib.hid HI; clear HI
  obtain ⟨tv, xv, hv⟩ := chain_not_nil h
  have hlt0 := lt_of_cell hg
  have HC := Lib.hid hc0
  have HCH := Lib.hid h
  subst hv
  clear h
  go_enter Tryz.func12, Tryz.ntmps12
  go_wp2_with fail
  with_reducible refine (HI'.out _ (by repeat (first | exact Below.refl _ _ | assumption | apply Below.drew | apply below_drewN | apply Bel.alloc | (refine Bel.setCell_ ?_ ?_; rotate_left; omega) | (refine Bel.step ?_ (by assumption))))).mono ?_
  rintro e w' ⟨rfl, rfl⟩
  clear HI'
  go_wp2_with fail
  (refine wp_named ?_; intro w1 hw1)
  have hb1 : Below w.heap.size w w1 := by rw [hw1]; exact (by repeat (first | exact Below.refl _ _ | assumption | apply Below.drew | apply below_drewN | apply Bel.alloc | (refine Bel.setCell_ ?_ ?_; rotate_left; omega) | (refine Bel.step ?_ (by assumption))))
  have hx0 : w1.cell? ⟨w.heap.size, 0, none⟩ = some (.slice A n c) := by rw [hw1]; simp
  have hx1 : w1.cell? ⟨w.heap.size, 1, none⟩ = some (.int .i64 c0) := by rw [hw1]; simp
  have hg1 : w1.cell? ⟨0, 0, none⟩ = some errT := Below.cellOf hb1 (Nat.le_refl _) hg
  have hr1 := hr.below hb1
  have hch := Chain.below hb1 HCH.out
  have HCH1 := Lib.hid hch
  clear hch HCH hr hw1 hg
  go_loopw [0, 5] (fun u i W => ∃ (k : Nat), k ≤ n ∧ i = .int .i64 k ∧ Chain W u (ps.drop k) c0 ∧ Below w1.heap.size w1 W) (fun _ i _ => n - (intOf i).toNat)
  case atStart => exact ⟨0, Nat.zero_le _, rfl, HCH1.out, Below.refl _ _⟩
  case round =>
    obtain ⟨k, hk, rfl, hch, hbl⟩ := hrel
    have y0 := Below.cellOf hbl (Nat.le_refl _) hx0
    by_cases hlt : k < n
    · have hlen := hr1.1
      obtain ⟨p, hp⟩ : ∃ p, ps[k]? = some p := ⟨ps[k], List.getElem?_eq_getElem (by omega)⟩
      obtain ⟨pb, po, rfl, hp1, hp2⟩ := hr1.2 k p hp
      obtain ⟨b, o, u, rfl, hc1, hc2, hc3, hc4⟩ := chain_drop hp hch
      obtain ⟨tu, xu, hu⟩ := chain_not_nil hc4
      have HP := Lib.hid hp
      have H4 := Lib.hid hc4
      have z := hbl.size
      clear hp hch hlen hc4
      subst hu
      obtain ⟨s, q0⟩ := p
      go_wp2_with fail
      (refine wp_named ?_; intro W5 hW5)
      have hb5 : Below w1.heap.size w1 W5 := by rw [hW5]; exact (by repeat (first | exact Below.refl _ _ | assumption | apply Below.drew | apply below_drewN | apply Bel.alloc | (refine Bel.setCell_ ?_ ?_; rotate_left; omega) | (refine Bel.step ?_ (by assumption))))
      have hbr : Below wr.heap.size wr W5 := by rw [hW5]; exact (by repeat (first | exact Below.refl _ _ | assumption | apply Below.drew | apply below_drewN | apply Bel.alloc | (refine Bel.setCell_ ?_ ?_; rotate_left; omega) | (refine Bel.step ?_ (by assumption))))
      have ht5 : W5.cell? ⟨wr.heap.size, 0, none⟩ = some (.pointer none) := by rw [hW5]; simp
      have hf5 : W5.frozen? ⟨wr.heap.size, 0, none⟩ = false := by rw [hW5]; simp
      have hg5 := Below.cellOf hb5 (Nat.le_refl _) hg1
      have hz5 := lt_of_cell ht5
      have HA : ∀ V, Below W5.heap.size W5 V → Calls Tryz.prog 44 #[fltV b o, .iface 98 (.pointer (some ⟨wr.heap.size, 0, none⟩))] V fun ev w' => ev = .returned (.bool true) ∧ w'.cell? ⟨wr.heap.size, 0, none⟩ = some (.pointer (some ⟨b, o, none⟩)) ∧ Below wr.heap.size W5 w' := fun V hV =>
        (as_fault b o wr.heap.size _ V (Below.cellOf hV (Nat.le_refl _) hg5) (Below.cellOf hV (Nat.le_refl _) ht5) ((Below.frozenOf hV hz5).trans hf5)).mono fun _ _ ⟨h1, h2, h3⟩ => ⟨h1, h2, (hV.mono (Nat.le_of_lt hz5)).trans h3⟩
      have HA' := Lib.hid HA; clear HA
      clear hW5 hf5 hg5
      refine wp_region_held_drew (S := fun _ => True) (by kernel_rfl) trivial (fun _ => ?_)
      refine take_ (i := 0) (d := some 31) (v := ?_) rfl rfl (by kernel_rfl) (by kernel_rfl) (by kernel_rfl) (fun _ _ _ h => h) (by rfl) ?_ (by first | rfl | trivial | assumption) ?_
      rotate_left
      · (intro V hSw; (try (have hF := HSX.out V hSw)); (try (cases hSw)); (try go_split_ands); go_simp; try with_reducible rfl)
      simp only [Act.put, List.setIfInBounds_toArray, List.set_cons_zero, List.set_cons_succ]
      refine take_ (i := 1) (d := some 32) (v := ?_) rfl rfl (by kernel_rfl) (by kernel_rfl) (by kernel_rfl) (fun _ _ _ h => h) (by rfl) ?_ (by first | rfl | trivial | assumption) ?_
      rotate_left
      · (intro V hSw; (try (have hF := HSX.out V hSw)); (try (cases hSw)); (try go_split_ands); go_simp; try with_reducible rfl)
      simp only [Act.put, List.setIfInBounds_toArray, List.set_cons_zero, List.set_cons_succ]
      refine wpAnyH_ready (rs := [2]) (by kernel_rfl) (by simp) ?_
      refine AllReadyH.cons (o := _) rfl (fun K hK => ?_) AllReadyH.nil
      go_simp
      go_at_call 44
      with_reducible refine (HA'.out _ (by repeat (first | exact Below.refl _ _ | assumption | apply Below.drew | apply below_drewN | apply Bel.alloc | (refine Bel.setCell_ ?_ ?_; rotate_left; omega) | (refine Bel.step ?_ (by assumption))))).mono ?_
      rintro e w6 ⟨rfl, ht6, hb6⟩
      have hb7 : Below wr.heap.size wr w6 := hbr.trans hb6
      have c6 := Below.cellOf hb7 (Nat.le_refl _) hc1
      have d6 := Below.cellOf hb7 (Nat.le_refl _) hc2
      have e6 := Below.cellOf hb7 (Nat.le_refl _) hc3
      have y6 := Below.cellOf hb7 (Nat.le_refl _) y0
      have p6 := Below.cellOf hb7 (Nat.le_refl _) (Below.cellOf hbl (Nat.le_refl _) hp1)
      have q6 := Below.cellOf hb7 (Nat.le_refl _) (Below.cellOf hbl (Nat.le_refl _) hp2)
      go_wp2_with fail
      refine hK.out _ _ trivial (fun _ => ?_)
      clear hK K
      refine wpAnyH_mono (S' := fun V => V = w6) (fun _ _ => trivial) _ _ _ _ ?_
      have i1 : (0 : Int) ≤ (k : Int) := by omega
      have i2 : (k : Int) < (n : Int) := by omega
      clear hc1 hc2 hc3 y0 hp1 hp2 HA' hx1 hb5 hbr ht5 hz5
      refine take_ (i := 3) (d := some 34) (v := ?_) rfl rfl (by kernel_rfl) (by kernel_rfl) (by kernel_rfl) (fun _ _ _ h => h) (by rfl) ?_ (by first | rfl | trivial | assumption) ?_
      rotate_left
      · (intro V hSw; (try (have hF := HSX.out V hSw)); (try (cases hSw)); (try go_split_ands); go_simp; try with_reducible rfl)
      simp only [Act.put, List.setIfInBounds_toArray, List.set_cons_zero, List.set_cons_succ]
      refine take_ (i := 4) (d := some 35) (v := ?_) rfl rfl (by kernel_rfl) (by kernel_rfl) (by kernel_rfl) (fun _ _ _ h => h) (by rfl) ?_ (by first | rfl | trivial | assumption) ?_
      rotate_left
      · (intro V hSw; (try (have hF := HSX.out V hSw)); (try (cases hSw)); (try go_split_ands); go_simp; try with_reducible rfl)
      simp only [Act.put, List.setIfInBounds_toArray, List.set_cons_zero, List.set_cons_succ]
      refine take_ (i := 5) (d := some 36) (v := ?_) rfl rfl (by kernel_rfl) (by kernel_rfl) (by kernel_rfl) (fun _ _ _ h => h) (by rfl) ?_ (by first | rfl | trivial | assumption) ?_
      rotate_left
      · (intro V hSw; (try (have hF := HSX.out V hSw)); (try (cases hSw)); (try go_split_ands); go_simp; try with_reducible rfl)
      simp only [Act.put, List.setIfInBounds_toArray, List.set_cons_zero, List.set_cons_succ]
      refine take_ (i := 6) (d := some 37) (v := ?_) rfl rfl (by kernel_rfl) (by kernel_rfl) (by kernel_rfl) (fun _ _ _ h => h) (by rfl) ?_ (by first | rfl | trivial | assumption) ?_
      rotate_left
      · (intro V hSw; (try (have hF := HSX.out V hSw)); (try (cases hSw)); (try go_split_ands); go_simp; try with_reducible rfl)
      simp only [Act.put, List.setIfInBounds_toArray, List.set_cons_zero, List.set_cons_succ]
      refine take_ (i := 7) (d := some 38) (v := ?_) rfl rfl (by kernel_rfl) (by kernel_rfl) (by kernel_rfl) (fun _ _ _ h => h) (by rfl) ?_ (by first | rfl | trivial | assumption) ?_
      rotate_left
      · (intro V hSw; (try (have hF := HSX.out V hSw)); (try (cases hSw)); (try go_split_ands); go_simp; try with_reducible rfl)
      simp only [Act.put, List.setIfInBounds_toArray, List.set_cons_zero, List.set_cons_succ]
      refine take_ (i := 8) (d := some 39) (v := ?_) rfl rfl (by kernel_rfl) (by kernel_rfl) (by kernel_rfl) (fun _ _ _ h => h) (by rfl) ?_ (by first | rfl | trivial | assumption) ?_
      rotate_left
      · (intro V hSw; (try (have hF := HSX.out V hSw)); (try (cases hSw)); (try go_split_ands); go_simp; try with_reducible rfl)
      simp only [Act.put, List.setIfInBounds_toArray, List.set_cons_zero, List.set_cons_succ]
      refine take_ (i := 9) (d := some 40) (v := ?_) rfl rfl (by kernel_rfl) (by kernel_rfl) (by kernel_rfl) (fun _ _ _ h => h) (by rfl) ?_ (by first | rfl | trivial | assumption) ?_
      rotate_left
      · (intro V hSw; (try (have hF := HSX.out V hSw)); (try (cases hSw)); (try go_split_ands); go_simp; try with_reducible rfl)
      simp only [Act.put, List.setIfInBounds_toArray, List.set_cons_zero, List.set_cons_succ]
      refine take_ (i := 10) (d := some 41) (v := ?_) rfl rfl (by kernel_rfl) (by kernel_rfl) (by kernel_rfl) (fun _ _ _ h => h) (by rfl) ?_ (by first | rfl | trivial | assumption) ?_
      rotate_left
      · (intro V hSw; (try (have hF := HSX.out V hSw)); (try (cases hSw)); (try go_split_ands); go_simp; try with_reducible rfl)
      simp only [Act.put, List.setIfInBounds_toArray, List.set_cons_zero, List.set_cons_succ]
      refine take_ (i := 11) (d := some 42) (v := ?_) rfl rfl (by kernel_rfl) (by kernel_rfl) (by kernel_rfl) (fun _ _ _ h => h) (by rfl) ?_ (by first | rfl | trivial | assumption) ?_
      rotate_left
      · (intro V hSw; (try (have hF := HSX.out V hSw)); (try (cases hSw)); (try go_split_ands); go_simp; try with_reducible rfl)
      simp only [Act.put, List.setIfInBounds_toArray, List.set_cons_zero, List.set_cons_succ]
      refine take_ (i := 12) (d := some 43) (v := ?_) rfl rfl (by kernel_rfl) (by kernel_rfl) (by kernel_rfl) (fun _ _ _ h => h) (by rfl) ?_ (by first | rfl | trivial | assumption) ?_
      rotate_left
      · (intro V hSw; (try (have hF := HSX.out V hSw)); (try (cases hSw)); (try go_split_ands); go_simp; try with_reducible rfl)
      simp only [Act.put, List.setIfInBounds_toArray, List.set_cons_zero, List.set_cons_succ]
      refine take_ (i := 13) (d := some 44) (v := ?_) rfl rfl (by kernel_rfl) (by kernel_rfl) (by kernel_rfl) (fun _ _ _ h => h) (by rfl) ?_ (by first | rfl | trivial | assumption) ?_
      rotate_left
      · (intro V hSw; (try (have hF := HSX.out V hSw)); (try (cases hSw)); (try go_split_ands); go_simp; try with_reducible rfl)
      simp only [Act.put, List.setIfInBounds_toArray, List.set_cons_zero, List.set_cons_succ]
      refine take_ (i := 14) (d := some 45) (v := ?_) rfl rfl (by kernel_rfl) (by kernel_rfl) (by kernel_rfl) (fun _ _ _ h => h) (by rfl) ?_ (by first | rfl | trivial | assumption) ?_
      rotate_left
      · (intro V hSw; (try (have hF := HSX.out V hSw)); (try (cases hSw)); (try go_split_ands); go_simp; try with_reducible rfl)
      simp only [Act.put, List.setIfInBounds_toArray, List.set_cons_zero, List.set_cons_succ]
      refine take_ (i := 15) (d := some 46) (v := ?_) rfl rfl (by kernel_rfl) (by kernel_rfl) (by kernel_rfl) (fun _ _ _ h => h) (by rfl) ?_ (by first | rfl | trivial | assumption) ?_
      rotate_left
      · (intro V hSw; (try (have hF := HSX.out V hSw)); (try (cases hSw)); (try go_split_ands); go_simp; try with_reducible rfl)
      simp only [Act.put, List.setIfInBounds_toArray, List.set_cons_zero, List.set_cons_succ]
      refine take_ (i := 16) (d := some 47) (v := ?_) rfl rfl (by kernel_rfl) (by kernel_rfl) (by kernel_rfl) (fun _ _ _ h => h) (by rfl) ?_ (by first | rfl | trivial | assumption) ?_
      rotate_left
      · (intro V hSw; (try (have hF := HSX.out V hSw)); (try (cases hSw)); (try go_split_ands); go_simp; try with_reducible rfl)
      simp only [Act.put, List.setIfInBounds_toArray, List.set_cons_zero, List.set_cons_succ]
      refine take_ (i := 17) (d := some 48) (v := ?_) rfl rfl (by kernel_rfl) (by kernel_rfl) (by kernel_rfl) (fun _ _ _ h => h) (by rfl) ?_ (by first | rfl | trivial | assumption) ?_
      rotate_left
      · (intro V hSw; (try (have hF := HSX.out V hSw)); (try (cases hSw)); (try go_split_ands); go_simp; try with_reducible rfl)
      simp only [Act.put, List.setIfInBounds_toArray, List.set_cons_zero, List.set_cons_succ]
      refine take_ (i := 18) (d := some 49) (v := ?_) rfl rfl (by kernel_rfl) (by kernel_rfl) (by kernel_rfl) (fun _ _ _ h => h) (by rfl) ?_ (by first | rfl | trivial | assumption) ?_
      rotate_left
      · (intro V hSw; (try (have hF := HSX.out V hSw)); (try (cases hSw)); (try go_split_ands); go_simp; try with_reducible rfl)
      simp only [Act.put, List.setIfInBounds_toArray, List.set_cons_zero, List.set_cons_succ]
      refine take_ (i := 19) (d := some 50) (v := ?_) rfl rfl (by kernel_rfl) (by kernel_rfl) (by kernel_rfl) (fun _ _ _ h => h) (by rfl) ?_ (by first | rfl | trivial | assumption) ?_
      rotate_left
      · (intro V hSw; (try (have hF := HSX.out V hSw)); (try (cases hSw)); (try go_split_ands); go_simp; try with_reducible rfl)
      simp only [Act.put, List.setIfInBounds_toArray, List.set_cons_zero, List.set_cons_succ]
      refine take_ (i := 20) (d := some 51) (v := ?_) rfl rfl (by kernel_rfl) (by kernel_rfl) (by kernel_rfl) (fun _ _ _ h => h) (by rfl) ?_ (by first | rfl | trivial | assumption) ?_
      rotate_left
      · (intro V hSw; (try (have hF := HSX.out V hSw)); (try (cases hSw)); (try go_split_ands); go_simp; try with_reducible rfl)
      simp only [Act.put, List.setIfInBounds_toArray, List.set_cons_zero, List.set_cons_succ]
      refine take_ (i := 21) (d := some 52) (v := ?_) rfl rfl (by kernel_rfl) (by kernel_rfl) (by kernel_rfl) (fun _ _ _ h => h) (by rfl) ?_ (by first | rfl | trivial | assumption) ?_
      rotate_left
      · (intro V hSw; (try (have hF := HSX.out V hSw)); (try (cases hSw)); (try go_split_ands); go_simp; try with_reducible rfl)
      simp only [Act.put, List.setIfInBounds_toArray, List.set_cons_zero, List.set_cons_succ]
      refine take_ (i := 22) (d := some 53) (v := ?_) rfl rfl (by kernel_rfl) (by kernel_rfl) (by kernel_rfl) (fun _ _ _ h => h) (by rfl) ?_ (by first | rfl | trivial | assumption) ?_
      rotate_left
      · (intro V hSw; (try (have hF := HSX.out V hSw)); (try (cases hSw)); (try go_split_ands); go_simp; try with_reducible rfl)
      simp only [Act.put, List.setIfInBounds_toArray, List.set_cons_zero, List.set_cons_succ]
      refine take_ (i := 23) (d := some 54) (v := ?_) rfl rfl (by kernel_rfl) (by kernel_rfl) (by kernel_rfl) (fun _ _ _ h => h) (by rfl) ?_ (by first | rfl | trivial | assumption) ?_
      rotate_left
      · (intro V hSw; (try (have hF := HSX.out V hSw)); (try (cases hSw)); (try go_split_ands); go_simp; try with_reducible rfl)
      simp only [Act.put, List.setIfInBounds_toArray, List.set_cons_zero, List.set_cons_succ]
      refine take_ (i := 24) (d := some 55) (v := ?_) rfl rfl (by kernel_rfl) (by kernel_rfl) (by kernel_rfl) (fun _ _ _ h => h) (by rfl) ?_ (by first | rfl | trivial | assumption) ?_
      rotate_left
      · (intro V hSw; (try (have hF := HSX.out V hSw)); (try (cases hSw)); (try go_split_ands); go_simp; try with_reducible rfl)
      simp only [Act.put, List.setIfInBounds_toArray, List.set_cons_zero, List.set_cons_succ]
      refine take_ (i := 25) (d := some 56) (v := ?_) rfl rfl (by kernel_rfl) (by kernel_rfl) (by kernel_rfl) (fun _ _ _ h => h) (by rfl) ?_ (by first | rfl | trivial | assumption) ?_
      rotate_left
      · (intro V hSw; (try (have hF := HSX.out V hSw)); (try (cases hSw)); (try go_split_ands); go_simp; try with_reducible rfl)
      simp only [Act.put, List.setIfInBounds_toArray, List.set_cons_zero, List.set_cons_succ]
      refine take_ (i := 26) (d := some 57) (v := ?_) rfl rfl (by kernel_rfl) (by kernel_rfl) (by kernel_rfl) (fun _ _ _ h => h) (by rfl) ?_ (by first | rfl | trivial | assumption) ?_
      rotate_left
      · (intro V hSw; (try (have hF := HSX.out V hSw)); (try (cases hSw)); (try go_split_ands); go_simp; try with_reducible rfl)
      simp only [Act.put, List.setIfInBounds_toArray, List.set_cons_zero, List.set_cons_succ]
      refine take_ (i := 27) (d := some 58) (v := ?_) rfl rfl (by kernel_rfl) (by kernel_rfl) (by kernel_rfl) (fun _ _ _ h => h) (by rfl) ?_ (by first | rfl | trivial | assumption) ?_
      rotate_left
      · (intro V hSw; (try (have hF := HSX.out V hSw)); (try (cases hSw)); (try go_split_ands); go_simp; try with_reducible rfl)
      simp only [Act.put, List.setIfInBounds_toArray, List.set_cons_zero, List.set_cons_succ]
      refine take_ (i := 28) (d := some 59) (v := ?_) rfl rfl (by kernel_rfl) (by kernel_rfl) (by kernel_rfl) (fun _ _ _ h => h) (by rfl) ?_ (by first | rfl | trivial | assumption) ?_
      rotate_left
      · (intro V hSw; (try (have hF := HSX.out V hSw)); (try (cases hSw)); (try go_split_ands); go_simp; try with_reducible rfl)
      simp only [Act.put, List.setIfInBounds_toArray, List.set_cons_zero, List.set_cons_succ]
      refine take_ (i := 29) (d := some 60) (v := ?_) rfl rfl (by kernel_rfl) (by kernel_rfl) (by kernel_rfl) (fun _ _ _ h => h) (by rfl) ?_ (by first | rfl | trivial | assumption) ?_
      rotate_left
      · (intro V hSw; (try (have hF := HSX.out V hSw)); (try (cases hSw)); (try go_split_ands); go_simp; try with_reducible rfl)
      simp only [Act.put, List.setIfInBounds_toArray, List.set_cons_zero, List.set_cons_succ]
      refine take_ (i := 30) (d := some 61) (v := ?_) rfl rfl (by kernel_rfl) (by kernel_rfl) (by kernel_rfl) (fun _ _ _ h => h) (by rfl) ?_ (by first | rfl | trivial | assumption) ?_
      rotate_left
      · (intro V hSw; (try (have hF := HSX.out V hSw)); (try (cases hSw)); (try go_split_ands); go_simp; try with_reducible rfl)
      simp only [Act.put, List.setIfInBounds_toArray, List.set_cons_zero, List.set_cons_succ]
      refine take_ (i := 31) (d := some 62) (v := ?_) rfl rfl (by kernel_rfl) (by kernel_rfl) (by kernel_rfl) (fun _ _ _ h => h) (by rfl) ?_ (by first | rfl | trivial | assumption) ?_
      rotate_left
      · (intro V hSw; (try (have hF := HSX.out V hSw)); (try (cases hSw)); (try go_split_ands); go_simp; try with_reducible rfl)
      simp only [Act.put, List.setIfInBounds_toArray, List.set_cons_zero, List.set_cons_succ]
      refine take_ (i := 32) (d := some 63) (v := ?_) rfl rfl (by kernel_rfl) (by kernel_rfl) (by kernel_rfl) (fun _ _ _ h => h) (by rfl) ?_ (by first | rfl | trivial | assumption) ?_
      rotate_left
      · (intro V hSw; (try (have hF := HSX.out V hSw)); (try (cases hSw)); (try go_split_ands); go_simp; try with_reducible rfl)
      simp only [Act.put, List.setIfInBounds_toArray, List.set_cons_zero, List.set_cons_succ]
      refine take_ (i := 33) (d := some 64) (v := ?_) rfl rfl (by kernel_rfl) (by kernel_rfl) (by kernel_rfl) (fun _ _ _ h => h) (by rfl) ?_ (by first | rfl | trivial | assumption) ?_
      rotate_left
      · (intro V hSw; (try (have hF := HSX.out V hSw)); (try (cases hSw)); (try go_split_ands); go_simp; try with_reducible rfl)
      simp only [Act.put, List.setIfInBounds_toArray, List.set_cons_zero, List.set_cons_succ]
      refine wpAnyH_done (by kernel_rfl) ?_ _
      go_wp2_with fail
      exact ⟨⟨k + 1, by omega, by go_num, Chain.below hb7 H4.out, Bel.step hbl hb7⟩, by simp [intOf]; omega⟩
    · obtain rfl : k = n := by omega
      rw [List.drop_of_length_le (by have := hr1.1; omega)] at hch
      unfold Chain at hch
      subst hch
      have x1 := Below.cellOf hbl (Nat.le_refl _) hx1
      have gr := Below.cellOf hbl (Nat.le_refl _) hg1
      have z := hbl.size
      clear hx0 hr1 hx1
      go_wp2_with fail
      (refine calls_named ?_; intro W5 hW5)
      have hbr : Below wr.heap.size wr W5 := by rw [hW5]; exact (by repeat (first | exact Below.refl _ _ | assumption | apply Below.drew | apply below_drewN | apply Bel.alloc | (refine Bel.setCell_ ?_ ?_; rotate_left; omega) | (refine Bel.step ?_ (by assumption))))
      have ht5 : W5.cell? ⟨wr.heap.size + 1, 0, none⟩ = some (.int .i64 0) := by rw [hW5]; simp
      have hf5 : W5.frozen? ⟨wr.heap.size + 1, 0, none⟩ = false := by rw [hW5]; simp
      have g5 := Below.cellOf hbr (Nat.le_refl _) gr
      have z5 := lt_of_cell ht5
      clear hW5
      with_reducible refine (as_none c0 wr.heap.size _ g5).mono ?_
      rintro e w6 ⟨rfl, hb6⟩
      have hb56 := hbr.trans (hb6.mono hbr.size)
      go_wp2_with fail
      with_reducible refine (as_errno c0 (wr.heap.size + 1) _ _ (Below.cellOf hb6 (Nat.le_refl _) g5) (Below.cellOf hb6 (Nat.le_refl _) ht5) ((Below.frozenOf hb6 z5).trans hf5)).mono ?_
      rintro e w7 ⟨rfl, ht7, hb7⟩
      have hb8 : Below wr.heap.size wr w7 := hb56.trans (hb7.mono (Nat.le_succ _))
      have x7 := Below.cellOf hb8 (Nat.le_refl _) x1
      clear hb6 hb7 hb56 ht5 hf5
      go_wp2_with fail
      go_ret
      exact ⟨rfl, (by repeat (first | exact Below.refl _ _ | assumption | apply Below.drew | apply below_drewN | apply Bel.alloc | (refine Bel.setCell_ ?_ ?_; rotate_left; omega) | (refine Bel.step ?_ (by assumption))))⟩
end Go.Proofs.YtgkeolddpielpaaGreatDoor

/- OverMakes: the walk. -/
namespace Go.Proofs.YtgkeolddpielpaaGreatDoor
open Go.RowKit Go.Extern.Stop Go.Stop Go.Extern

attribute [local go_sem ↓] Go.wp_at_zero Go.wp_at_succ

theorem KeptZ.blkM {G : Nat → Prop} {V W : World} (h : KeptZ G V W) {g : Nat} {t : TypeId} {cs : Array Value} (hb : Blk V g t cs) (hg : G g) : Blk W g t cs := (h.1 g hg hb.lt).trans hb

set_option maxRecDepth 20000 in
set_option maxHeartbeats 2000000 in
theorem overMakes_bad (A B C Q : Option Addr) (n m k c d e L cq : Nat) (N : NetD) (ls : List (List Int)) (k0 c0 : Int) (hbad : PBad n ls k0 c0) (w : World) (h : RdNet w A B C n m k N) (hk : k ≤ 9223372036854775807) (hq : RdT w Q L ls) (hL : L ≤ 9223372036854775807) (hg : w.cell? ⟨0, 0, none⟩ = some errT) :
    Calls Tryz.prog 3 #[.agg #[.slice A n c, .slice B m d, .slice C k e], .agg #[.slice Q L cq]] w fun r w' => r = .returned (.bool true) ∧ Below w.heap.size w w' := by
  have HBAD := Lib.hid hbad
  have c1 : (c0 == 0) = false := by simpa using hbad.ne
  have c2 : (c0 != 0) = true := by simpa using hbad.ne
  have HC0 := Lib.hid hbad.ne
  clear hbad
  have HH := Lib.hid h
  have HT := Lib.hid hq
  have HG := Lib.hid hg
  have hg0 := lt_of_cell hg
  simp only at hg0
  clear h hq hg
  go_enter Tryz.func3, Tryz.ntmps3
  go_wp2_with fail
  (refine calls_named ?_; intro w1 hw1)
  have hb1 : Below w.heap.size w w1 := by rw [hw1]; exact (by repeat (first | exact Below.refl _ _ | assumption | apply Below.drew | apply below_drewN | apply Bel.alloc | (refine Bel.setCell_ ?_ ?_; rotate_left; omega) | (refine Bel.step ?_ (by assumption))))
  have hX : Blk w1 w.heap.size 26 #[.slice A n c, .slice B m d, .slice C k e] := by rw [hw1]; exact (by repeat (first | assumption | (refine Blk.new' _ _ _ ?_; first | with_unfolding_all rfl | (simp; done)) | apply Blk.drewN | apply Blk.drew | apply Blk.alloc | (refine Blk.far_ ?_ ?_ _; rotate_left; omega)))
  have hY : Blk w1 (w.heap.size + 1) 29 #[.slice Q L cq] := by rw [hw1]; exact (by repeat (first | assumption | (refine Blk.new' _ _ _ ?_; first | with_unfolding_all rfl | (simp; done)) | apply Blk.drewN | apply Blk.drew | apply Blk.alloc | (refine Blk.far_ ?_ ?_ _; rotate_left; omega)))
  clear hw1
  with_reducible refine (known17_ok w1).mono ?_
  rintro r w2 ⟨rfl, hb2⟩
  have hX2 := hX.below hb2 hX.lt
  have hY2 := hY.below hb2 hY.lt
  have hb2' := Bel.step hb1 hb2
  clear hX hY hb1 hb2
  obtain ⟨x0, x1, x2⟩ := hX2.three
  go_wp2_with fail
  with_reducible refine (small_any A B C n m k c d e N w2 (HH.out.below hb2') hk).mono ?_
  rintro r w3 ⟨hr, hb3⟩
  have hb3' := Bel.step hb2' hb3
  have hX3 := hX2.below hb3 hX2.lt
  have hY3 := hY2.below hb3 hY2.lt
  clear x0 x1 x2 hX2 hY2 hb2' hb3
  obtain ⟨b, rfl, hS⟩ := hr
  cases b with
  | false =>
    clear hS
    go_wp2_with fail
    go_ret
    exact ⟨rfl, hb3'⟩
  | true =>
  have HS := Lib.hid (hS rfl)
  clear hS
  have y0 := hY3.cell 0
  simp only [List.getElem?_toArray, List.getElem?_cons_zero] at y0
  go_wp2_with fail
  with_reducible refine (fewP_any Q L cq ls w3 (HT.out.below hb3') hL).mono ?_
  rintro r w4 ⟨hr, hb4⟩
  have hb4' := Bel.step hb3' hb4
  have hX4 := hX3.below hb4 hX3.lt
  have hY4 := hY3.below hb4 hY3.lt
  clear y0 hX3 hY3 hb3' hb4
  obtain ⟨b, rfl, hF⟩ := hr
  cases b with
  | false =>
    clear hF
    go_wp2_with fail
    go_ret
    exact ⟨rfl, hb4'⟩
  | true =>
  have HF := Lib.hid (hF rfl)
  clear hF
  have HLL := Lib.hid (show ls.length = L from HT.out.1)
  have hL10 : L ≤ 10 := by rw [← HLL.out]; exact HF.out.l
  have HRL := Lib.hid (show ∀ l ∈ ls, l.length ≤ 1000000 from fun l hl => by have := HF.out.r l hl; omega)
  have HVN := Lib.hid (show N.vs.length = n from HH.out.1.1)
  have hn24 : n ≤ 24 := by rw [← HVN.out]; exact HS.out.v
  have HNK := Lib.hid HS.out.ok
  obtain ⟨x0, x1, x2⟩ := hX4.three
  go_wp2_with fail
  with_reducible refine (made8_ok A B C n m k c d e N w4 (HH.out.below hb4') HNK.out).mono ?_
  rintro r w5 ⟨g, rfl, hgr, hb5⟩
  have hb5' := Bel.step hb4' hb5
  have hX5 := hX4.below hb5 hX4.lt
  have hY5 := hY4.below hb5 hY4.lt
  clear x0 x1 x2 hX4 hY4 hb4' hb5
  have y0 := hY5.cell 0
  simp only [List.getElem?_toArray, List.getElem?_cons_zero] at y0
  go_wp2_with fail
  with_reducible refine (partTo_w Q L cq ls w5 (HT.out.below hb5') (by omega) HRL.out).mono ?_
  rintro r w6 ⟨Q6, c6, xs6, rfl, hrw, hb6⟩
  have hb6' := Bel.step hb5' hb6
  have hX6 := hX5.below hb6 hX5.lt
  have hY6 := hY5.below hb6 hY5.lt
  have HB56 := Lib.hid hb6
  have HRW6 := Lib.hid hrw
  have HRT6 := Lib.hid hrw.1.rdT
  have HGR6 := Lib.hid ((hgr.below hb6).rd)
  have hY5z := hY5.lt
  clear y0 hX5 hY5 hb5' hrw hgr hb6
  go_wp2_with fail
  (refine calls_named ?_; intro w7 hw7)
  have hb67 : Below w6.heap.size w6 w7 := by rw [hw7]; exact (by repeat (first | exact Below.refl _ _ | assumption | apply Below.drew | apply below_drewN | apply Bel.alloc | (refine Bel.setCell_ ?_ ?_; rotate_left; omega) | (refine Bel.step ?_ (by assumption))))
  have hP7 : Blk w7 w6.heap.size 35 #[.slice Q6 L c6] := by rw [hw7]; exact (by repeat (first | assumption | (refine Blk.new' _ _ _ ?_; first | with_unfolding_all rfl | (simp; done)) | apply Blk.drewN | apply Blk.drew | apply Blk.alloc | (refine Blk.far_ ?_ ?_ _; rotate_left; omega)))
  clear hw7
  have hb7' := Bel.step hb6' hb67
  have hz67 := hb67.size
  have hX7 := hX6.below hb67 hX6.lt
  have hY7 := hY6.below hb67 hY6.lt
  clear hX6 hY6
  with_reducible refine (overNew_bad g N Q6 L c6 n k0 c0 ls w7 (HGR6.out.below hb67) HNK.out (HRT6.out.below hb67) HBAD.out HVN.out).mono ?_
  rintro r w8 ⟨v, rfl, hch, hb8⟩
  obtain ⟨tv, xv, rfl⟩ := chain_not_nil hch
  have hb8' := Bel.step hb7' hb8
  have hX8 := hX7.below hb8 hX7.lt
  have hY8 := hY7.below hb8 hY7.lt
  have HCH := Lib.hid hch
  clear hch hb8 hX7 hY7 hb7' hP7
  obtain ⟨x0, x1, x2⟩ := hX8.three
  have y0 := hY8.cell 0
  simp only [List.getElem?_toArray, List.getElem?_cons_zero] at y0
  go_wp2_with fail
  with_reducible refine (part_bad Q n L cq k0 c0 ls HBAD.out HLL.out (by omega) w8 (HT.out.below hb8')).2.mono ?_
  rintro r w9 ⟨A4, n4, m4, rfl, hrd, hn4, hb9⟩
  have hb9' := Bel.step hb8' hb9
  have HCH9 := Lib.hid (Chain.below hb9 HCH.out)
  have HRD := Lib.hid hrd
  clear hrd hb9 hX8 hY8 hb8' x0 x1 x2 y0 HCH
  go_wp2_with fail
  (refine calls_named ?_; intro w10 hw10)
  have hb10 : Below w9.heap.size w9 w10 := by rw [hw10]; exact (by repeat (first | exact Below.refl _ _ | assumption | apply Below.drew | apply below_drewN | apply Bel.alloc | (refine Bel.setCell_ ?_ ?_; rotate_left; omega) | (refine Bel.step ?_ (by assumption))))
  have hW10 : Blk w10 w9.heap.size 44 #[.slice A4 n4 m4, .int .i64 c0] := by rw [hw10]; exact (by repeat (first | assumption | (refine Blk.new' _ _ _ ?_; first | with_unfolding_all rfl | (simp; done)) | apply Blk.drewN | apply Blk.drew | apply Blk.alloc | (refine Blk.far_ ?_ ?_ _; rotate_left; omega)))
  clear hw10
  have hb10' := Bel.step hb9' hb10
  with_reducible refine (tells_any _ A4 n4 m4 [((⟨#[112, 97, 114, 116]⟩ : ByteArray), k0)] c0 w10 (Chain.below hb10 HCH9.out) (HRD.out.below hb10) HC0.out (Below.cellOf hb10' (Nat.le_refl _) HG.out) (by omega)).mono ?_
  rintro r w11 ⟨rfl, hb11⟩
  have hW11 := hW10.below hb11 hW10.lt
  obtain ⟨z0, z1, _, _⟩ := hW11.two
  have hb11' := Bel.step hb10' hb11
  clear hW10 hb11 hb10' hb10
  go_wp2_with fail
  go_ret
  exact ⟨rfl, hb11'⟩
set_option maxRecDepth 20000 in
set_option maxHeartbeats 4000000 in
theorem overMakes_good (A B C Q : Option Addr) (n m k c d e L cq : Nat) (N : NetD) (ls : List (List Int)) (hP : PartOk n ls) (w : World) (h : RdNet w A B C n m k N) (hk : k ≤ 9223372036854775807) (hq : RdT w Q L ls) (hL : L ≤ 9223372036854775807) (hg : w.cell? ⟨0, 0, none⟩ = some errT) :
    Calls Tryz.prog 3 #[.agg #[.slice A n c, .slice B m d, .slice C k e], .agg #[.slice Q L cq]] w fun r w' => r = .returned (.bool true) ∧ Below w.heap.size w w' := by
  have HP := Lib.hid hP
  clear hP
  have HH := Lib.hid h
  have HT := Lib.hid hq
  have HG := Lib.hid hg
  have hg0 := lt_of_cell hg
  simp only at hg0
  clear h hq hg
  go_enter Tryz.func3, Tryz.ntmps3
  go_wp2_with fail
  (refine calls_named ?_; intro w1 hw1)
  have hb1 : Below w.heap.size w w1 := by rw [hw1]; exact (by repeat (first | exact Below.refl _ _ | assumption | apply Below.drew | apply below_drewN | apply Bel.alloc | (refine Bel.setCell_ ?_ ?_; rotate_left; omega) | (refine Bel.step ?_ (by assumption))))
  have hX : Blk w1 w.heap.size 26 #[.slice A n c, .slice B m d, .slice C k e] := by rw [hw1]; exact (by repeat (first | assumption | (refine Blk.new' _ _ _ ?_; first | with_unfolding_all rfl | (simp; done)) | apply Blk.drewN | apply Blk.drew | apply Blk.alloc | (refine Blk.far_ ?_ ?_ _; rotate_left; omega)))
  have hY : Blk w1 (w.heap.size + 1) 29 #[.slice Q L cq] := by rw [hw1]; exact (by repeat (first | assumption | (refine Blk.new' _ _ _ ?_; first | with_unfolding_all rfl | (simp; done)) | apply Blk.drewN | apply Blk.drew | apply Blk.alloc | (refine Blk.far_ ?_ ?_ _; rotate_left; omega)))
  clear hw1
  with_reducible refine (known17_ok w1).mono ?_
  rintro r w2 ⟨rfl, hb2⟩
  have hX2 := hX.below hb2 hX.lt
  have hY2 := hY.below hb2 hY.lt
  have hb2' := Bel.step hb1 hb2
  clear hX hY hb1 hb2
  obtain ⟨x0, x1, x2⟩ := hX2.three
  go_wp2_with fail
  with_reducible refine (small_any A B C n m k c d e N w2 (HH.out.below hb2') hk).mono ?_
  rintro r w3 ⟨hr, hb3⟩
  have hb3' := Bel.step hb2' hb3
  have hX3 := hX2.below hb3 hX2.lt
  have hY3 := hY2.below hb3 hY2.lt
  clear x0 x1 x2 hX2 hY2 hb2' hb3
  obtain ⟨b, rfl, hS⟩ := hr
  cases b with
  | false =>
    clear hS
    go_wp2_with fail
    go_ret
    exact ⟨rfl, hb3'⟩
  | true =>
  have HS := Lib.hid (hS rfl)
  clear hS
  have y0 := hY3.cell 0
  simp only [List.getElem?_toArray, List.getElem?_cons_zero] at y0
  go_wp2_with fail
  with_reducible refine (fewP_any Q L cq ls w3 (HT.out.below hb3') hL).mono ?_
  rintro r w4 ⟨hr, hb4⟩
  have hb4' := Bel.step hb3' hb4
  have hX4 := hX3.below hb4 hX3.lt
  have hY4 := hY3.below hb4 hY3.lt
  clear y0 hX3 hY3 hb3' hb4
  obtain ⟨b, rfl, hF⟩ := hr
  cases b with
  | false =>
    clear hF
    go_wp2_with fail
    go_ret
    exact ⟨rfl, hb4'⟩
  | true =>
  have HF := Lib.hid (hF rfl)
  clear hF
  have HLL := Lib.hid (show ls.length = L from HT.out.1)
  have hL10 : L ≤ 10 := by rw [← HLL.out]; exact HF.out.l
  have HRL := Lib.hid (show ∀ l ∈ ls, l.length ≤ 1000000 from fun l hl => by have := HF.out.r l hl; omega)
  have HVN := Lib.hid (show N.vs.length = n from HH.out.1.1)
  have hn24 : n ≤ 24 := by rw [← HVN.out]; exact HS.out.v
  have HNK := Lib.hid HS.out.ok
  obtain ⟨x0, x1, x2⟩ := hX4.three
  go_wp2_with fail
  with_reducible refine (made8_ok A B C n m k c d e N w4 (HH.out.below hb4') HNK.out).mono ?_
  rintro r w5 ⟨g, rfl, hgr, hb5⟩
  have hb5' := Bel.step hb4' hb5
  have hX5 := hX4.below hb5 hX4.lt
  have hY5 := hY4.below hb5 hY4.lt
  clear x0 x1 x2 hX4 hY4 hb4' hb5
  have y0 := hY5.cell 0
  simp only [List.getElem?_toArray, List.getElem?_cons_zero] at y0
  go_wp2_with fail
  with_reducible refine (partTo_w Q L cq ls w5 (HT.out.below hb5') (by omega) HRL.out).mono ?_
  rintro r w6 ⟨Q6, c6, xs6, rfl, hrw, hb6⟩
  have hb6' := Bel.step hb5' hb6
  have hX6 := hX5.below hb6 hX5.lt
  have hY6 := hY5.below hb6 hY5.lt
  have HB56 := Lib.hid hb6
  have HRW6 := Lib.hid hrw
  have HRT6 := Lib.hid hrw.1.rdT
  have HGR6 := Lib.hid ((hgr.below hb6).rd)
  have hY5z := hY5.lt
  clear y0 hX5 hY5 hb5' hrw hgr hb6
  go_wp2_with fail
  (refine calls_named ?_; intro w7 hw7)
  have hb67 : Below w6.heap.size w6 w7 := by rw [hw7]; exact (by repeat (first | exact Below.refl _ _ | assumption | apply Below.drew | apply below_drewN | apply Bel.alloc | (refine Bel.setCell_ ?_ ?_; rotate_left; omega) | (refine Bel.step ?_ (by assumption))))
  have hP7 : Blk w7 w6.heap.size 35 #[.slice Q6 L c6] := by rw [hw7]; exact (by repeat (first | assumption | (refine Blk.new' _ _ _ ?_; first | with_unfolding_all rfl | (simp; done)) | apply Blk.drewN | apply Blk.drew | apply Blk.alloc | (refine Blk.far_ ?_ ?_ _; rotate_left; omega)))
  clear hw7
  have hb7' := Bel.step hb6' hb67
  have hz67 := hb67.size
  have hX7 := hX6.below hb67 hX6.lt
  have hY7 := hY6.below hb67 hY6.lt
  clear hX6 hY6
  with_reducible refine (overNew_ok g N Q6 L c6 n ls w7 (HGR6.out.below hb67) HNK.out (HRT6.out.below hb67) HP.out HVN.out).mono ?_
  rintro r w8 ⟨o, rfl, hO, hb8⟩
  have hb8' := Bel.step hb7' hb8
  have hX8 := hX7.below hb8 hX7.lt
  have hY8 := hY7.below hb8 hY7.lt
  have hP8 := hP7.below hb8 hP7.lt
  have HO := Lib.hid hO
  have hz78 := hb8.size
  have HB68 := Lib.hid (Bel.step hb67 hb8)
  clear hO hb8 hX7 hY7 hb7' hP7
  obtain ⟨x0, x1, x2⟩ := hX8.three
  have y0 := hY8.cell 0
  simp only [List.getElem?_toArray, List.getElem?_cons_zero] at y0
  go_wp2_with fail
  with_reducible refine (checkPart_yes Q n L cq ls HP.out (by omega) w8 (HT.out.below hb8')).mono ?_
  rintro r w9 ⟨rfl, hb9⟩
  have hb9' := Bel.step hb8' hb9
  have hY9 := hY8.below hb9 hY8.lt
  have hP9 := hP8.below hb9 hP8.lt
  have HB69 := Lib.hid (Bel.step HB68.out hb9)
  have HB89 := Lib.hid hb9
  clear hb9 hX8 hY8 hb8' x0 x1 x2 y0 hP8
  go_wp2_with fail
  (refine calls_named ?_; intro w10 hw10)
  have hb10 : Below w9.heap.size w9 w10 := by rw [hw10]; exact (by repeat (first | exact Below.refl _ _ | assumption | apply Below.drew | apply below_drewN | apply Bel.alloc | (refine Bel.setCell_ ?_ ?_; rotate_left; omega) | (refine Bel.step ?_ (by assumption))))
  have hW10 : Blk w10 w9.heap.size 44 #[.slice none 0 0, .int .i64 0] := by rw [hw10]; exact (by repeat (first | assumption | (refine Blk.new' _ _ _ ?_; first | with_unfolding_all rfl | (simp; done)) | apply Blk.drewN | apply Blk.drew | apply Blk.alloc | (refine Blk.far_ ?_ ?_ _; rotate_left; omega)))
  clear hw10
  have hb10' := Bel.step hb9' hb10
  with_reducible refine (tells_nil none 0 0 w10).mono ?_
  rintro r w11 ⟨rfl, hb11⟩
  have hW11 := hW10.below hb11 hW10.lt
  obtain ⟨z0, z1, _, _⟩ := hW11.two
  have hb911 := Bel.step hb10 hb11
  have hb11' := Bel.step hb10' hb11
  have hY11 := hY9.below hb911 hY9.lt
  have hP11 := hP9.below hb911 hP9.lt
  have HB6 := Lib.hid (Bel.step HB69.out hb911)
  have HK8 := Lib.hid (Bel.step HB89.out hb911)
  have HRF := Lib.hid (HRW6.out.rwF.below HB6.out)
  have hz56 := HB56.out.size
  have hz6 := HB6.out.size
  have hzw5 : w.heap.size + 2 ≤ w5.heap.size := by have := hY5z; omega
  have hp0 := hP11.cell 0
  simp only [List.getElem?_toArray, List.getElem?_cons_zero] at hp0
  obtain ⟨g6, hg6⟩ : ∃ x, x = w6.heap.size := ⟨_, rfl⟩
  rw [← hg6] at hP11 hp0 HRF ⊢
  have HG6 := Lib.hid hg6
  clear hW10 hb11 hb10' hb10 hY9 hP9 hb911 hp0 hg6
  go_wp2_with fail
  clear z0 z1
  go_loopw [10] (fun q W => Below w5.heap.size w11 W ∧ KeptZ (fun b => b < w5.heap.size ∨ g6 ≤ b) w11 W ∧ RwF W w5.heap.size g6 Q6 L (ls.map List.length) ∧ ∃ i : Nat, i ≤ L ∧ q = .int .i64 (i : Int)) (fun q _ => L - (intOf q).toNat)
  case atStart => exact ⟨Below.refl _ _, KeptZ.refl _ _, HRF.out, 0, Nat.zero_le _, rfl⟩
  case round =>
    obtain ⟨hbl, hkz, hrf, i, hi, rfl⟩ := hrel
    have hPr := hkz.blkM hP11 (.inr (Nat.le_refl _))
    have hp0 := hPr.cell 0
    simp only [List.getElem?_toArray, List.getElem?_cons_zero] at hp0
    by_cases hlt : i < L
    · have i1 : (0 : Int) ≤ (i : Int) := by omega
      have i2 : (i : Int) < (L : Int) := by omega
      go_wp2_with fail
      clear hp0 hPr
      go_loopw [11] (fun q W => Below w5.heap.size w11 W ∧ KeptZ (fun b => b < w5.heap.size ∨ g6 ≤ b) w11 W ∧ RwF W w5.heap.size g6 Q6 L (ls.map List.length) ∧ ∃ (a m : Nat), (ls.map List.length)[i]? = some m ∧ a ≤ m ∧ q = .int .i64 (a : Int)) (fun q _ => ((ls.map List.length).getD i 0) - (intOf q).toNat)
      case atStart =>
        obtain ⟨m, b, o', A2, c2, hm, _⟩ := hrf.at_ hlt
        exact ⟨hbl, hkz, hrf, 0, m, hm, Nat.zero_le _, rfl⟩
      case round =>
        clear hbl hkz hrf
        obtain ⟨hbl, hkz, hrf, a, m, hm, ham, rfl⟩ := hrel
        have hPr := hkz.blkM hP11 (.inr (Nat.le_refl _))
        have hp0 := hPr.cell 0
        simp only [List.getElem?_toArray, List.getElem?_cons_zero] at hp0
        obtain ⟨m', b, o', A2, c2, hm', rfl, hh, hrow⟩ := hrf.at_ hlt
        rw [hm] at hm'
        cases hm'
        have hmb : m ≤ 60 := by
          have h := hm
          rw [List.getElem?_map] at h
          obtain ⟨l, hl, rfl⟩ := Option.map_eq_some_iff.1 h
          exact HF.out.r l (List.mem_of_getElem? hl)
        have hgd : (ls.map List.length).getD i 0 = m := by rw [List.getD_eq_getElem?_getD, hm]; rfl
        have HGD := Lib.hid hgd
        have HM := Lib.hid hm
        have HRF2 := Lib.hid hrf
        have HKZ := Lib.hid hkz
        clear hgd hm hrf hkz
        by_cases hlt2 : a < m
        · obtain ⟨b2, o2, x, rfl, hne, hB, hT, hc, hf⟩ := hrow a hlt2
          have i3 : (0 : Int) ≤ (a : Int) := by omega
          have i4 : (a : Int) < (m : Int) := by omega
          have hbn : Below w5.heap.size w11 (wr.setCell ⟨b2, o2 + a, none⟩ (.int .i64 7)) := hbl.setCell hB _
          clear hrow hbl
          go_wp2_with fail
          go_roundw
          case rel => exact ⟨hbn, HKZ.out.set (by omega) _ _, HRF2.out.set hne 7, a + 1, m, HM.out, by omega, by go_num⟩
          case measure => rw [HGD.out]; simp [intOf]; omega
        · obtain rfl : a = m := by omega
          clear hrow
          go_wp2_with fail
          go_roundw
          case rel => exact ⟨hbl, HKZ.out, HRF2.out, i + 1, by omega, by go_num⟩
          case measure => simp [intOf]; omega
    · obtain rfl : i = L := by omega
      have hOr : RdOv wr o N.ar ls := HO.out.le ((Kept.msk (fun b hb hl => by
        have h7 : w7.heap.size ≤ b := hb.1
        have h8 : b < w8.heap.size := hl
        have h11 := HK8.out.size
        have h6 := HG6.out
        exact (hkz.1 b (.inr (by omega)) (by omega)).trans (HK8.out.block b h8))).trans (msk_le _ _))
      have HOR := Lib.hid hOr
      have hYr := hkz.blkM hY11 (.inl (by omega))
      have hpart := oPart_any o N.ar ls wr hOr (by rw [HLL.out]; omega) HRL.out
      rw [HLL.out] at hpart
      have HPA := Lib.hid hpart
      have hbr : Below w.heap.size w wr := hb11'.trans (hbl.mono (by omega))
      clear hOr hkz hrf hP11 hPr hlt hi hbl hpart
      go_wp2_with fail
      with_reducible refine HPA.out.mono ?_
      rintro r w12 ⟨Q7, c7, xs7, rfl, hrw7, hb12⟩
      have hY12 := hYr.below hb12 hYr.lt
      have hwr2 : w.heap.size + 2 ≤ wr.heap.size := by have := hYr.lt; omega
      have hbr12 := Bel.step hbr hb12
      have HBr12 := Lib.hid hb12
      have HRW7 := Lib.hid hrw7
      have hzr12 := hb12.size
      clear hYr hb12 HPA hrw7 hp0
      go_wp2_with fail
      (refine wp_named ?_; intro w13 hw13)
      have hb13 : Below w12.heap.size w12 w13 := by rw [hw13]; exact Bel.alloc (Below.refl _ _)
      have hP13 : Blk w13 w12.heap.size 35 #[.slice Q7 i c7] := by
        rw [hw13]
        refine Blk.new' _ _ _ ?_
        rfl
      have HRF7 := Lib.hid (HRW7.out.rwF.below hb13)
      have hY13 := hY12.below hb13 hY12.lt
      have hbr13 := Bel.step hbr12 hb13
      have HBr13 := Lib.hid (Bel.step HBr12.out hb13)
      have hz13 := hb13.size
      obtain ⟨g7, hg7⟩ : ∃ x, x = w12.heap.size := ⟨_, rfl⟩
      rw [← hg7] at hP13 HRF7 ⊢
      have HG7 := Lib.hid hg7
      clear hw13 hb13 hY12 HRW7 hg7 hbr12 HBr12 HO HRF
      obtain ⟨B2, hB2⟩ : ∃ x, x = wr.heap.size := ⟨_, rfl⟩
      rw [← hB2] at HRF7
      have HB2 := Lib.hid hB2
      have hg7B : B2 ≤ g7 := by have := HG7.out; omega
      have hwB2 : w.heap.size + 2 ≤ B2 := by omega
      clear hB2
      go_wp2_with fail
      go_loopw [13] (fun q W => Below B2 w13 W ∧ KeptZ (fun b => b < B2 ∨ g7 ≤ b) w13 W ∧ RwF W B2 g7 Q7 i (ls.map List.length) ∧ ∃ a : Nat, a ≤ i ∧ q = .int .i64 (a : Int)) (fun q _ => i - (intOf q).toNat)
      case atStart => exact ⟨Below.refl _ _, KeptZ.refl _ _, HRF7.out, 0, Nat.zero_le _, rfl⟩
      case round =>
        obtain ⟨hbl, hkz, hrf, a, hai, rfl⟩ := hrel
        have hPr := hkz.blkM hP13 (.inr (Nat.le_refl _))
        have hp0 := hPr.cell 0
        simp only [List.getElem?_toArray, List.getElem?_cons_zero] at hp0
        by_cases hlt : a < i
        · have i1 : (0 : Int) ≤ (a : Int) := by omega
          have i2 : (a : Int) < (i : Int) := by omega
          go_wp2_with fail
          clear hp0 hPr
          go_loopw [14] (fun q W => Below B2 w13 W ∧ KeptZ (fun b => b < B2 ∨ g7 ≤ b) w13 W ∧ RwF W B2 g7 Q7 i (ls.map List.length) ∧ ∃ (e m : Nat), (ls.map List.length)[a]? = some m ∧ e ≤ m ∧ q = .int .i64 (e : Int)) (fun q _ => ((ls.map List.length).getD a 0) - (intOf q).toNat)
          case atStart =>
            obtain ⟨m, b, o', A2, c2, hm, _⟩ := hrf.at_ hlt
            exact ⟨hbl, hkz, hrf, 0, m, hm, Nat.zero_le _, rfl⟩
          case round =>
            clear hbl hkz hrf
            obtain ⟨hbl, hkz, hrf, e', m, hm, hem, rfl⟩ := hrel
            have hPr := hkz.blkM hP13 (.inr (Nat.le_refl _))
            have hp0 := hPr.cell 0
            simp only [List.getElem?_toArray, List.getElem?_cons_zero] at hp0
            obtain ⟨m', b, o', A2, c2, hm', rfl, hh, hrow⟩ := hrf.at_ hlt
            rw [hm] at hm'
            cases hm'
            have hmb : m ≤ 60 := by
              have h := hm
              rw [List.getElem?_map] at h
              obtain ⟨l, hl, rfl⟩ := Option.map_eq_some_iff.1 h
              exact HF.out.r l (List.mem_of_getElem? hl)
            have hgd : (ls.map List.length).getD a 0 = m := by rw [List.getD_eq_getElem?_getD, hm]; rfl
            have HGD := Lib.hid hgd
            have HM := Lib.hid hm
            have HRF2 := Lib.hid hrf
            have HKZ := Lib.hid hkz
            clear hgd hm hrf hkz
            by_cases hlt2 : e' < m
            · obtain ⟨b2, o2, x, rfl, hne, hB, hT, hc, hf⟩ := hrow e' hlt2
              have i3 : (0 : Int) ≤ (e' : Int) := by omega
              have i4 : (e' : Int) < (m : Int) := by omega
              have hbn := fun y : Int => (show Below B2 w13 (wr.setCell ⟨b2, o2 + e', none⟩ (.int .i64 y)) from hbl.setCell hB _)
              clear hrow hbl
              go_wp2_with fail
              go_roundw
              case rel => exact ⟨hbn _, HKZ.out.set (by omega) _ _, HRF2.out.set hne _, e' + 1, m, HM.out, by omega, by go_num⟩
              case measure => rw [HGD.out]; simp [intOf]; omega
            · obtain rfl : e' = m := by omega
              clear hrow
              go_wp2_with fail
              go_roundw
              case rel => exact ⟨hbl, HKZ.out, HRF2.out, a + 1, by omega, by go_num⟩
              case measure => simp [intOf]; omega
        · obtain rfl : a = i := by omega
          have hBw : Below B2 _ wr := (HB2.out ▸ HBr13.out).trans hbl
          have hOr := HOR.out.below (HB2.out ▸ hBw)
          have hYr := hkz.blkM hY13 (.inl (by omega))
          have y0 := hYr.cell 0
          simp only [List.getElem?_toArray, List.getElem?_cons_zero] at y0
          have hi6 : a ≤ 1000000 := by omega
          have HPA := Lib.hid (show ∀ V, Below wr.heap.size wr V → Calls Tryz.prog 13 #[.pointer (some ⟨o, 0, none⟩)] V fun e w' => ∃ Q' cq' xs, e = .returned (.agg #[.slice Q' a cq']) ∧ RwW w' V.heap.size Q' a cq' xs ls ∧ Below V.heap.size V w' from fun V hV => by
            have := oPart_any o N.ar ls V (hOr.below hV) (by rw [HLL.out]; exact hi6) HRL.out
            rw [HLL.out] at this
            exact this)
          have HLV := Lib.hid (show ∀ V, Below wr.heap.size wr V → Calls Tryz.prog 16 #[.pointer (some ⟨o, 0, none⟩)] V fun e w' => e = .returned (.int .i64 (a : Int)) ∧ V = w' from fun V hV => by
            have := oLevels_any o N.ar ls V (hOr.below hV)
            rw [HLL.out] at this
            exact this)
          have hbe : Below w.heap.size w wr := hbr13.trans (hbl.mono (by omega))
          have HTP := Lib.hid (HT.out.below hbe)
          have e0 : ((a : Int) == (a : Int)) = true := by simp
          clear hOr hBw hrf hkz hbl hPr HOR
          go_wp2_with fail
          have HSX := Lib.hid (show ∀ X : World, X.cell? ⟨w.heap.size + 1, 0, none⟩ = some (.slice Q a cq) → X.cell? ⟨w.heap.size + 1, 0, none⟩ = some (.slice Q a cq) from fun _ h => h)
          refine wp_region_held_drew (S := fun X => X.cell? ⟨w.heap.size + 1, 0, none⟩ = some (.slice Q a cq)) (by kernel_rfl) y0 (fun _ => ?_)
          refine take_ (i := 0) (d := some 110) (v := ?_) rfl rfl (by kernel_rfl) (by kernel_rfl) (by kernel_rfl) (fun _ _ _ h => h) (by rfl) ?_ (by first | rfl | trivial | assumption) ?_
          rotate_left
          · (intro V hSw; (try (have hF := HSX.out V hSw)); (try (cases hSw)); (try go_split_ands); go_simp; try with_reducible rfl)
          simp only [Act.put, List.setIfInBounds_toArray, List.set_cons_zero, List.set_cons_succ]
          refine take_ (i := 3) (d := some 113) (v := ?_) rfl rfl (by kernel_rfl) (by kernel_rfl) (by kernel_rfl) (fun _ _ _ h => h) (by rfl) ?_ (by first | rfl | trivial | assumption) ?_
          rotate_left
          · (intro V hSw; (try (have hF := HSX.out V hSw)); (try (cases hSw)); (try go_split_ands); go_simp; try with_reducible rfl)
          simp only [Act.put, List.setIfInBounds_toArray, List.set_cons_zero, List.set_cons_succ]
          refine wpAnyH_ready (rs := [1]) (by kernel_rfl) (by simp) ?_
          refine AllReadyH.cons (o := _) rfl (fun K hK => ?_) AllReadyH.nil
          go_simp
          with_reducible refine (HPA.out _ (Below.refl _ _).drew).mono ?_
          rintro r w14 ⟨Q8, c8, xs8, rfl, hrw8, hb14⟩
          have hb14 : Below wr.heap.size wr w14 := (Below.refl _ wr).drew.trans hb14
          have y1 := Below.cellOf hb14 (Nat.le_refl _) y0
          have HR8 := Lib.hid hrw8.1.rdT
          clear hrw8 HPA hp0
          go_wp2_with fail
          refine hK.out _ _ y1 (fun _ => ?_)
          clear hK K
          refine wpAnyH_ready (rs := [2]) (by kernel_rfl) (by simp) ?_
          refine AllReadyH.cons (o := _) rfl (fun K hK => ?_) AllReadyH.nil
          go_simp
          with_reducible refine (partOf_any Q8 a c8 _).mono ?_
          rintro r w15 ⟨rfl, hb15⟩
          have hb15' := Bel.step hb14 hb15
          have y2 := Below.cellOf hb15 (Nat.le_refl _) y1
          have HR9 := Lib.hid (HR8.out.below hb15)
          clear hb14 hb15 y1 HR8
          go_wp2_with fail
          refine hK.out _ _ y2 (fun _ => ?_)
          clear hK K
          refine wpAnyH_ready (rs := [4]) (by kernel_rfl) (by simp) ?_
          refine AllReadyH.cons (o := _) rfl (fun K hK => ?_) AllReadyH.nil
          go_simp
          with_reducible refine (samePart_same Q8 Q a c8 cq ls w15 HR9.out (HTP.out.below hb15') hi6 HRL.out).mono ?_
          rintro r w16 ⟨rfl, hb16⟩
          have hb16' := Bel.step hb15' hb16
          have y3 := Below.cellOf hb16 (Nat.le_refl _) y2
          clear hb15' hb16 y2 HR9 y0
          go_wp2_with fail
          refine hK.out _ _ y3 (fun _ => ?_)
          clear hK K
          refine take_ (i := 5) (d := some 115) (v := ?_) rfl rfl (by kernel_rfl) (by kernel_rfl) (by kernel_rfl) (fun _ _ _ h => h) (by rfl) ?_ (by first | rfl | trivial | assumption) ?_
          rotate_left
          · (intro V hSw; (try (have hF := HSX.out V hSw)); (try (cases hSw)); (try go_split_ands); go_simp; try with_reducible rfl)
          simp only [Act.put, List.setIfInBounds_toArray, List.set_cons_zero, List.set_cons_succ]
          refine take_ (i := 6) (d := some 116) (v := ?_) rfl rfl (by kernel_rfl) (by kernel_rfl) (by kernel_rfl) (fun _ _ _ h => h) (by rfl) ?_ (by first | rfl | trivial | assumption) ?_
          rotate_left
          · (intro V hSw; (try (have hF := HSX.out V hSw)); (try (cases hSw)); (try go_split_ands); go_simp; try with_reducible rfl)
          simp only [Act.put, List.setIfInBounds_toArray, List.set_cons_zero, List.set_cons_succ]
          refine take_ (i := 8) (d := some 118) (v := ?_) rfl rfl (by kernel_rfl) (by kernel_rfl) (by kernel_rfl) (fun _ _ _ h => h) (by rfl) ?_ (by first | rfl | trivial | assumption) ?_
          rotate_left
          · (intro V hSw; (try (have hF := HSX.out V hSw)); (try (cases hSw)); (try go_split_ands); go_simp; try with_reducible rfl)
          simp only [Act.put, List.setIfInBounds_toArray, List.set_cons_zero, List.set_cons_succ]
          refine take_ (i := 9) (d := some 119) (v := ?_) rfl rfl (by kernel_rfl) (by kernel_rfl) (by kernel_rfl) (fun _ _ _ h => h) (by rfl) ?_ (by first | rfl | trivial | assumption) ?_
          rotate_left
          · (intro V hSw; (try (have hF := HSX.out V hSw)); (try (cases hSw)); (try go_split_ands); go_simp; try with_reducible rfl)
          simp only [Act.put, List.setIfInBounds_toArray, List.set_cons_zero, List.set_cons_succ]
          refine take_ (i := 10) (d := some 120) (v := ?_) rfl rfl (by kernel_rfl) (by kernel_rfl) (by kernel_rfl) (fun _ _ _ h => h) (by rfl) ?_ (by first | rfl | trivial | assumption) ?_
          rotate_left
          · (intro V hSw; (try (have hF := HSX.out V hSw)); (try (cases hSw)); (try go_split_ands); go_simp; try with_reducible rfl)
          simp only [Act.put, List.setIfInBounds_toArray, List.set_cons_zero, List.set_cons_succ]
          refine wpAnyH_ready (rs := [7]) (by kernel_rfl) (by simp) ?_
          refine AllReadyH.cons (o := _) rfl (fun K hK => ?_) AllReadyH.nil
          go_simp
          with_reducible refine (HLV.out _ hb16').mono ?_
          rintro r w' ⟨rfl, rfl⟩
          go_wp2_with fail
          refine hK.out _ _ y3 (fun _ => ?_)
          clear hK K
          refine take_ (i := 11) (d := some 121) (v := ?_) rfl rfl (by kernel_rfl) (by kernel_rfl) (by kernel_rfl) (fun _ _ _ h => h) (by rfl) ?_ (by first | rfl | trivial | assumption) ?_
          rotate_left
          · (intro V hSw; (try (have hF := HSX.out V hSw)); (try (cases hSw)); (try go_split_ands); go_simp; try with_reducible rfl)
          simp only [Act.put, List.setIfInBounds_toArray, List.set_cons_zero, List.set_cons_succ]
          refine take_ (i := 12) (d := some 122) (v := ?_) rfl rfl (by kernel_rfl) (by kernel_rfl) (by kernel_rfl) (fun _ _ _ h => h) (by rfl) ?_ (by first | rfl | trivial | assumption) ?_
          rotate_left
          · (intro V hSw; (try (have hF := HSX.out V hSw)); (try (cases hSw)); (try go_split_ands); go_simp; try with_reducible rfl)
          simp only [Act.put, List.setIfInBounds_toArray, List.set_cons_zero, List.set_cons_succ]
          refine take_ (i := 13) (d := some 4) (v := ?_) rfl rfl (by kernel_rfl) (by kernel_rfl) (by kernel_rfl) (fun _ _ _ h => h) (by rfl) ?_ (by first | rfl | trivial | assumption) ?_
          rotate_left
          · (intro V hSw; (try (have hF := HSX.out V hSw)); (try (cases hSw)); (try go_split_ands); go_simp; try with_reducible rfl)
          simp only [Act.put, List.setIfInBounds_toArray, List.set_cons_zero, List.set_cons_succ]
          refine wpAnyH_done (by kernel_rfl) ?_ _
          go_wp2_with fail
          go_ret
          exact ⟨rfl, Bel.step hbe hb16'⟩
theorem overMakes_walk (A B C Q : Option Addr) (n m k c d e L cq : Nat) (N : NetD) (ls : List (List Int)) (w : World) (h : RdNet w A B C n m k N) (hk : k ≤ 9223372036854775807) (hq : RdT w Q L ls) (hL : L ≤ 9223372036854775807) (hg : w.cell? ⟨0, 0, none⟩ = some errT) :
    Calls Tryz.prog 3 #[.agg #[.slice A n c, .slice B m d, .slice C k e], .agg #[.slice Q L cq]] w fun r w' => r = .returned (.bool true) ∧ Below w.heap.size w w' := by
  rcases part_or n ls with hP | ⟨k0, c0, hb⟩
  · exact overMakes_good A B C Q n m k c d e L cq N ls hP w h hk hq hL hg
  · exact overMakes_bad A B C Q n m k c d e L cq N ls k0 c0 hb w h hk hq hL hg
end Go.Proofs.YtgkeolddpielpaaGreatDoor
