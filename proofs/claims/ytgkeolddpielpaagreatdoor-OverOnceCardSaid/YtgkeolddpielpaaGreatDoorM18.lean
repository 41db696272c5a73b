/- Parts of the proof: Tl, My. -/
import Derived.Test.YtgkeolddpielpaaGreatDoorM17
import Derived.Deep.RegionHeld3
import Derived.Deep.DrawnRows
/- roundsmanlaw1.Tells: where an error is a chain, and it is told as that: true. -/
namespace Go.Proofs.YtgkeolddpielpaaGreatDoor
open Go.RowKit Go.Extern.Stop Go.Stop Go.Extern

theorem asW_below (t : Addr) (p : Nat) (w : World) : Below w.heap.size w (asX t p w) := (by repeat (first | exact Below.refl _ _ | assumption | apply Below.drew | apply below_drewN | apply Bel.alloc | (refine Bel.setCell_ ?_ ?_; rotate_left; omega) | (refine Bel.step ?_ (by assumption))))

/-- errors.As: the error's own type is the target's: what is behind it. -/
theorem as_fault (b o g : Nat) (old : Value) (w : World) (hg : w.cell? ⟨0, 0, none⟩ = some errT) (ht0 : w.cell? ⟨g, 0, none⟩ = some old) (hf0 : w.frozen? ⟨g, 0, none⟩ = false) :
    Calls Tryz.prog 44 #[fltV b o, .iface 98 (.pointer (some ⟨g, 0, none⟩))] w fun ev w' => ev = .returned (.bool true) ∧ w'.cell? ⟨g, 0, none⟩ = some (.pointer (some ⟨b, o, none⟩)) ∧ Below g w w' :=
  (as_hitF ⟨b, o, none⟩ ⟨g, 0, none⟩ old w hg ht0 hf0).mono fun e w' ⟨he, hw⟩ => by
    have hlt := lt_of_cell ht0
    have hb : Below g w (asX ⟨g, 0, none⟩ 98 w) := (asW_below _ _ w).mono (Nat.le_of_lt hlt)
    have hb2 : Below g w ((asX ⟨g, 0, none⟩ 98 w).alloc (.cells #[.pointer (some ⟨b, o, none⟩)] 96)) := hb.alloc (Nat.le_trans (Nat.le_of_lt hlt) (asW_below _ _ w).size) _
    refine ⟨he, ?_, ?_⟩
    · rw [hw]
      have hc : ((asX ⟨g, 0, none⟩ 98 w).alloc (.cells #[.pointer (some ⟨b, o, none⟩)] 96)).cell? ⟨g, 0, none⟩ = some old :=
        Below.cellOf (Bel.alloc (asW_below ⟨g, 0, none⟩ 98 w)) (Nat.le_refl _) ht0
      exact World.cell?_setCell_same _ _ _ hc
    · rw [hw]; exact hb2.setCell (Nat.le_refl _) _
theorem as_errno (c : Int) (g : Nat) (old : Value) (w : World) (hg : w.cell? ⟨0, 0, none⟩ = some errT) (ht0 : w.cell? ⟨g, 0, none⟩ = some old) (hf0 : w.frozen? ⟨g, 0, none⟩ = false) :
    Calls Tryz.prog 44 #[errV c, .iface 103 (.pointer (some ⟨g, 0, none⟩))] w fun ev w' => ev = .returned (.bool true) ∧ w'.cell? ⟨g, 0, none⟩ = some (.int .i64 c) ∧ Below g w w' :=
  (as_hitE c ⟨g, 0, none⟩ old w hg ht0 hf0).mono fun e w' ⟨he, hw⟩ => by
    have hlt := lt_of_cell ht0
    have hb : Below g w (asX ⟨g, 0, none⟩ 103 w) := (asW_below _ _ w).mono (Nat.le_of_lt hlt)
    have hb2 : Below g w ((asX ⟨g, 0, none⟩ 103 w).alloc (.cells #[.int .i64 c] 95)) := hb.alloc (Nat.le_trans (Nat.le_of_lt hlt) (asW_below _ _ w).size) _
    refine ⟨he, ?_, ?_⟩
    · rw [hw]
      have hc : ((asX ⟨g, 0, none⟩ 103 w).alloc (.cells #[.int .i64 c] 95)).cell? ⟨g, 0, none⟩ = some old :=
        Below.cellOf (Bel.alloc (asW_below ⟨g, 0, none⟩ 103 w)) (Nat.le_refl _) ht0
      exact World.cell?_setCell_same _ _ _ hc
    · rw [hw]; exact hb2.setCell (Nat.le_refl _) _
theorem as_none (c : Int) (g : Nat) (w : World) (hg : w.cell? ⟨0, 0, none⟩ = some errT) :
    Calls Tryz.prog 44 #[errV c, .iface 98 (.pointer (some ⟨g, 0, none⟩))] w fun ev w' => ev = .returned (.bool false) ∧ Below w.heap.size w w' :=
  (as_miss c ⟨g, 0, none⟩ w hg).mono fun e w' ⟨he, hw⟩ => ⟨he, by rw [hw]; exact asW_below _ _ w⟩

set_option maxHeartbeats 1000000 in
/-- of no error: OK. -/
theorem tells_nil (A : Option Addr) (n c : Nat) (w : World) :
    Calls Tryz.prog 12 #[.nilIface, .agg #[.slice A n c, .int .i64 0]] w fun e w' => e = .returned (.bool true) ∧ Below w.heap.size w w' := by
  go_enter Tryz.func12, Tryz.ntmps12
  go_wp2
  go_ret
  exact ⟨rfl, (by repeat (first | exact Below.refl _ _ | assumption | apply Below.drew | apply below_drewN | apply Bel.alloc | (refine Bel.setCell_ ?_ ?_; rotate_left; omega) | (refine Bel.step ?_ (by assumption))))⟩

theorem chain_drop {w : World} {v : Value} {ps : List (ByteArray × Int)} {c : Int} {k : Nat} {p : ByteArray × Int} (hk : ps[k]? = some p) (h : Chain w v (ps.drop k) c) :
    ∃ b o u, v = fltV b o ∧ w.cell? ⟨b, o, none⟩ = some (.string p.1) ∧ w.cell? ⟨b, o + 1, none⟩ = some (.int .i64 p.2) ∧ w.cell? ⟨b, o + 2, none⟩ = some u ∧ Chain w u (ps.drop (k + 1)) c := by
  have hlt := (List.getElem?_eq_some_iff.1 hk).1
  rw [List.drop_eq_getElem_cons hlt] at h
  have e : ps[k] = p := (List.getElem?_eq_some_iff.1 hk).2
  rw [e] at h
  exact h

attribute [local go_sem ↓] Go.wp_at_zero Go.wp_at_succ

set_option maxHeartbeats 4000000 in
theorem tells_any (v : Value) (A : Option Addr) (n c : Nat) (ps : List (ByteArray × Int)) (c0 : Int) (w : World) (h : Chain w v ps c0) (hr : RdW w A n ps) (hc0 : c0 ≠ 0) (hg : w.cell? ⟨0, 0, none⟩ = some errT) (hn : n ≤ 4000000000000000000) :
    Calls Tryz.prog 12 #[v, .agg #[.slice A n c, .int .i64 c0]] w fun e w' => e = .returned (.bool true) ∧ Below w.heap.size w w' := by
  have HI : ∀ (W : World), Below w.heap.size w W → Calls Tryz.prog 43 #[v, errV c0] W fun e w' => e = .returned (.bool true) ∧ w' = W := fun W hb => errorsIs v ps c0 W (Chain.below hb h)
  have HI' := Lib.hid HI; clear HI
  obtain ⟨tv, xv, hv⟩ := chain_not_nil h
  have hlt0 := lt_of_cell hg
  have HC := Lib.hid hc0
  have HCH := Lib.hid h
  subst hv
  clear h
  go_enter Tryz.func12, Tryz.ntmps12
  go_wp2_with fail
  with_reducible refine (HI'.out _ (by repeat (first | exact Below.refl _ _ | assumption | apply Below.drew | apply below_drewN | apply Bel.alloc | (refine Bel.setCell_ ?_ ?_; rotate_left; omega) | (refine Bel.step ?_ (by assumption))))).mono ?_
  rintro e w' ⟨rfl, rfl⟩
  clear HI'
  go_wp2_with fail
  (refine wp_named ?_; intro w1 hw1)
  have hb1 : Below w.heap.size w w1 := by rw [hw1]; exact (by repeat (first | exact Below.refl _ _ | assumption | apply Below.drew | apply below_drewN | apply Bel.alloc | (refine Bel.setCell_ ?_ ?_; rotate_left; omega) | (refine Bel.step ?_ (by assumption))))
  have hx0 : w1.cell? ⟨w.heap.size, 0, none⟩ = some (.slice A n c) := by rw [hw1]; simp
  have hx1 : w1.cell? ⟨w.heap.size, 1, none⟩ = some (.int .i64 c0) := by rw [hw1]; simp
  have hg1 : w1.cell? ⟨0, 0, none⟩ = some errT := Below.cellOf hb1 (Nat.le_refl _) hg
  have hr1 := hr.below hb1
  have hch := Chain.below hb1 HCH.out
  have HCH1 := Lib.hid hch
  clear hch HCH hr hw1 hg
  go_loopw [0, 5] (fun u i W => ∃ (k : Nat), k ≤ n ∧ i = .int .i64 k ∧ Chain W u (ps.drop k) c0 ∧ Below w1.heap.size w1 W) (fun _ i _ => n - (intOf i).toNat)
  case atStart => exact ⟨0, Nat.zero_le _, rfl, HCH1.out, Below.refl _ _⟩
  case round =>
    obtain ⟨k, hk, rfl, hch, hbl⟩ := hrel
    have y0 := Below.cellOf hbl (Nat.le_refl _) hx0
    by_cases hlt : k < n
    · have hlen := hr1.1
      obtain ⟨p, hp⟩ : ∃ p, ps[k]? = some p := ⟨ps[k], List.getElem?_eq_getElem (by omega)⟩
      obtain ⟨pb, po, rfl, hp1, hp2⟩ := hr1.2 k p hp
      obtain ⟨b, o, u, rfl, hc1, hc2, hc3, hc4⟩ := chain_drop hp hch
      obtain ⟨tu, xu, hu⟩ := chain_not_nil hc4
      have HP := Lib.hid hp
      have H4 := Lib.hid hc4
      have z := hbl.size
      clear hp hch hlen hc4
      subst hu
      obtain ⟨s, q0⟩ := p
      go_wp2_with fail
      (refine wp_named ?_; intro W5 hW5)
      have hb5 : Below w1.heap.size w1 W5 := by rw [hW5]; exact (by repeat (first | exact Below.refl _ _ | assumption | apply Below.drew | apply below_drewN | apply Bel.alloc | (refine Bel.setCell_ ?_ ?_; rotate_left; omega) | (refine Bel.step ?_ (by assumption))))
      have hbr : Below wr.heap.size wr W5 := by rw [hW5]; exact (by repeat (first | exact Below.refl _ _ | assumption | apply Below.drew | apply below_drewN | apply Bel.alloc | (refine Bel.setCell_ ?_ ?_; rotate_left; omega) | (refine Bel.step ?_ (by assumption))))
      have ht5 : W5.cell? ⟨wr.heap.size, 0, none⟩ = some (.pointer none) := by rw [hW5]; simp
      have hf5 : W5.frozen? ⟨wr.heap.size, 0, none⟩ = false := by rw [hW5]; simp
      have hg5 := Below.cellOf hb5 (Nat.le_refl _) hg1
      have hz5 := lt_of_cell ht5
      have HA : ∀ V, Below W5.heap.size W5 V → Calls Tryz.prog 44 #[fltV b o, .iface 98 (.pointer (some ⟨wr.heap.size, 0, none⟩))] V fun ev w' => ev = .returned (.bool true) ∧ w'.cell? ⟨wr.heap.size, 0, none⟩ = some (.pointer (some ⟨b, o, none⟩)) ∧ Below wr.heap.size W5 w' := fun V hV =>
        (as_fault b o wr.heap.size _ V (Below.cellOf hV (Nat.le_refl _) hg5) (Below.cellOf hV (Nat.le_refl _) ht5) ((Below.frozenOf hV hz5).trans hf5)).mono fun _ _ ⟨h1, h2, h3⟩ => ⟨h1, h2, (hV.mono (Nat.le_of_lt hz5)).trans h3⟩
      have HA' := Lib.hid HA; clear HA
      clear hW5 hf5 hg5
      refine wp_region_held_drew (S := fun _ => True) (by kernel_rfl) trivial (fun _ => ?_)
      refine take_ (i := 0) (d := some 31) (v := ?_) rfl rfl (by kernel_rfl) (by kernel_rfl) (by kernel_rfl) (fun _ _ _ h => h) (by rfl) ?_ (by first | rfl | trivial | assumption) ?_
      rotate_left
      · (intro V hSw; (try (have hF := HSX.out V hSw)); (try (cases hSw)); (try go_split_ands); go_simp; try with_reducible rfl)
      simp only [Act.put, List.setIfInBounds_toArray, List.set_cons_zero, List.set_cons_succ]
      refine take_ (i := 1) (d := some 32) (v := ?_) rfl rfl (by kernel_rfl) (by kernel_rfl) (by kernel_rfl) (fun _ _ _ h => h) (by rfl) ?_ (by first | rfl | trivial | assumption) ?_
      rotate_left
      · (intro V hSw; (try (have hF := HSX.out V hSw)); (try (cases hSw)); (try go_split_ands); go_simp; try with_reducible rfl)
      simp only [Act.put, List.setIfInBounds_toArray, List.set_cons_zero, List.set_cons_succ]
      refine wpAnyH_ready (rs := [2]) (by kernel_rfl) (by simp) ?_
      refine AllReadyH.cons (o := _) rfl (fun K hK => ?_) AllReadyH.nil
      go_simp
      go_at_call 44
      with_reducible refine (HA'.out _ (by repeat (first | exact Below.refl _ _ | assumption | apply Below.drew | apply below_drewN | apply Bel.alloc | (refine Bel.setCell_ ?_ ?_; rotate_left; omega) | (refine Bel.step ?_ (by assumption))))).mono ?_
      rintro e w6 ⟨rfl, ht6, hb6⟩
      have hb7 : Below wr.heap.size wr w6 := hbr.trans hb6
      have c6 := Below.cellOf hb7 (Nat.le_refl _) hc1
      have d6 := Below.cellOf hb7 (Nat.le_refl _) hc2
      have e6 := Below.cellOf hb7 (Nat.le_refl _) hc3
      have y6 := Below.cellOf hb7 (Nat.le_refl _) y0
      have p6 := Below.cellOf hb7 (Nat.le_refl _) (Below.cellOf hbl (Nat.le_refl _) hp1)
      have q6 := Below.cellOf hb7 (Nat.le_refl _) (Below.cellOf hbl (Nat.le_refl _) hp2)
      go_wp2_with fail
      refine hK.out _ _ trivial (fun _ => ?_)
      clear hK K
      refine wpAnyH_mono (S' := fun V => V = w6) (fun _ _ => trivial) _ _ _ _ ?_
      have i1 : (0 : Int) ≤ (k : Int) := by omega
      have i2 : (k : Int) < (n : Int) := by omega
      clear hc1 hc2 hc3 y0 hp1 hp2 HA' hx1 hb5 hbr ht5 hz5
      refine take_ (i := 3) (d := some 34) (v := ?_) rfl rfl (by kernel_rfl) (by kernel_rfl) (by kernel_rfl) (fun _ _ _ h => h) (by rfl) ?_ (by first | rfl | trivial | assumption) ?_
      rotate_left
      · (intro V hSw; (try (have hF := HSX.out V hSw)); (try (cases hSw)); (try go_split_ands); go_simp; try with_reducible rfl)
      simp only [Act.put, List.setIfInBounds_toArray, List.set_cons_zero, List.set_cons_succ]
      refine take_ (i := 4) (d := some 35) (v := ?_) rfl rfl (by kernel_rfl) (by kernel_rfl) (by kernel_rfl) (fun _ _ _ h => h) (by rfl) ?_ (by first | rfl | trivial | assumption) ?_
      rotate_left
      · (intro V hSw; (try (have hF := HSX.out V hSw)); (try (cases hSw)); (try go_split_ands); go_simp; try with_reducible rfl)
      simp only [Act.put, List.setIfInBounds_toArray, List.set_cons_zero, List.set_cons_succ]
      refine take_ (i := 5) (d := some 36) (v := ?_) rfl rfl (by kernel_rfl) (by kernel_rfl) (by kernel_rfl) (fun _ _ _ h => h) (by rfl) ?_ (by first | rfl | trivial | assumption) ?_
      rotate_left
      · (intro V hSw; (try (have hF := HSX.out V hSw)); (try (cases hSw)); (try go_split_ands); go_simp; try with_reducible rfl)
      simp only [Act.put, List.setIfInBounds_toArray, List.set_cons_zero, List.set_cons_succ]
      refine take_ (i := 6) (d := some 37) (v := ?_) rfl rfl (by kernel_rfl) (by kernel_rfl) (by kernel_rfl) (fun _ _ _ h => h) (by rfl) ?_ (by first | rfl | trivial | assumption) ?_
      rotate_left
      · (intro V hSw; (try (have hF := HSX.out V hSw)); (try (cases hSw)); (try go_split_ands); go_simp; try with_reducible rfl)
      simp only [Act.put, List.setIfInBounds_toArray, List.set_cons_zero, List.set_cons_succ]
      refine take_ (i := 7) (d := some 38) (v := ?_) rfl rfl (by kernel_rfl) (by kernel_rfl) (by kernel_rfl) (fun _ _ _ h => h) (by rfl) ?_ (by first | rfl | trivial | assumption) ?_
      rotate_left
      · (intro V hSw; (try (have hF := HSX.out V hSw)); (try (cases hSw)); (try go_split_ands); go_simp; try with_reducible rfl)
      simp only [Act.put, List.setIfInBounds_toArray, List.set_cons_zero, List.set_cons_succ]
      refine take_ (i := 8) (d := some 39) (v := ?_) rfl rfl (by kernel_rfl) (by kernel_rfl) (by kernel_rfl) (fun _ _ _ h => h) (by rfl) ?_ (by first | rfl | trivial | assumption) ?_
      rotate_left
      · (intro V hSw; (try (have hF := HSX.out V hSw)); (try (cases hSw)); (try go_split_ands); go_simp; try with_reducible rfl)
      simp only [Act.put, List.setIfInBounds_toArray, List.set_cons_zero, List.set_cons_succ]
      refine take_ (i := 9) (d := some 40) (v := ?_) rfl rfl (by kernel_rfl) (by kernel_rfl) (by kernel_rfl) (fun _ _ _ h => h) (by rfl) ?_ (by first | rfl | trivial | assumption) ?_
      rotate_left
      · (intro V hSw; (try (have hF := HSX.out V hSw)); (try (cases hSw)); (try go_split_ands); go_simp; try with_reducible rfl)
      simp only [Act.put, List.setIfInBounds_toArray, List.set_cons_zero, List.set_cons_succ]
      refine take_ (i := 10) (d := some 41) (v := ?_) rfl rfl (by kernel_rfl) (by kernel_rfl) (by kernel_rfl) (fun _ _ _ h => h) (by rfl) ?_ (by first | rfl | trivial | assumption) ?_
      rotate_left
      · (intro V hSw; (try (have hF := HSX.out V hSw)); (try (cases hSw)); (try go_split_ands); go_simp; try with_reducible rfl)
      simp only [Act.put, List.setIfInBounds_toArray, List.set_cons_zero, List.set_cons_succ]
      refine take_ (i := 11) (d := some 42) (v := ?_) rfl rfl (by kernel_rfl) (by kernel_rfl) (by kernel_rfl) (fun _ _ _ h => h) (by rfl) ?_ (by first | rfl | trivial | assumption) ?_
      rotate_left
      · (intro V hSw; (try (have hF := HSX.out V hSw)); (try (cases hSw)); (try go_split_ands); go_simp; try with_reducible rfl)
      simp only [Act.put, List.setIfInBounds_toArray, List.set_cons_zero, List.set_cons_succ]
      refine take_ (i := 12) (d := some 43) (v := ?_) rfl rfl (by kernel_rfl) (by kernel_rfl) (by kernel_rfl) (fun _ _ _ h => h) (by rfl) ?_ (by first | rfl | trivial | assumption) ?_
      rotate_left
      · (intro V hSw; (try (have hF := HSX.out V hSw)); (try (cases hSw)); (try go_split_ands); go_simp; try with_reducible rfl)
      simp only [Act.put, List.setIfInBounds_toArray, List.set_cons_zero, List.set_cons_succ]
      refine take_ (i := 13) (d := some 44) (v := ?_) rfl rfl (by kernel_rfl) (by kernel_rfl) (by kernel_rfl) (fun _ _ _ h => h) (by rfl) ?_ (by first | rfl | trivial | assumption) ?_
      rotate_left
      · (intro V hSw; (try (have hF := HSX.out V hSw)); (try (cases hSw)); (try go_split_ands); go_simp; try with_reducible rfl)
      simp only [Act.put, List.setIfInBounds_toArray, List.set_cons_zero, List.set_cons_succ]
      refine take_ (i := 14) (d := some 45) (v := ?_) rfl rfl (by kernel_rfl) (by kernel_rfl) (by kernel_rfl) (fun _ _ _ h => h) (by rfl) ?_ (by first | rfl | trivial | assumption) ?_
      rotate_left
      · (intro V hSw; (try (have hF := HSX.out V hSw)); (try (cases hSw)); (try go_split_ands); go_simp; try with_reducible rfl)
      simp only [Act.put, List.setIfInBounds_toArray, List.set_cons_zero, List.set_cons_succ]
      refine take_ (i := 15) (d := some 46) (v := ?_) rfl rfl (by kernel_rfl) (by kernel_rfl) (by kernel_rfl) (fun _ _ _ h => h) (by rfl) ?_ (by first | rfl | trivial | assumption) ?_
      rotate_left
      · (intro V hSw; (try (have hF := HSX.out V hSw)); (try (cases hSw)); (try go_split_ands); go_simp; try with_reducible rfl)
      simp only [Act.put, List.setIfInBounds_toArray, List.set_cons_zero, List.set_cons_succ]
      refine take_ (i := 16) (d := some 47) (v := ?_) rfl rfl (by kernel_rfl) (by kernel_rfl) (by kernel_rfl) (fun _ _ _ h => h) (by rfl) ?_ (by first | rfl | trivial | assumption) ?_
      rotate_left
      · (intro V hSw; (try (have hF := HSX.out V hSw)); (try (cases hSw)); (try go_split_ands); go_simp; try with_reducible rfl)
      simp only [Act.put, List.setIfInBounds_toArray, List.set_cons_zero, List.set_cons_succ]
      refine take_ (i := 17) (d := some 48) (v := ?_) rfl rfl (by kernel_rfl) (by kernel_rfl) (by kernel_rfl) (fun _ _ _ h => h) (by rfl) ?_ (by first | rfl | trivial | assumption) ?_
      rotate_left
      · (intro V hSw; (try (have hF := HSX.out V hSw)); (try (cases hSw)); (try go_split_ands); go_simp; try with_reducible rfl)
      simp only [Act.put, List.setIfInBounds_toArray, List.set_cons_zero, List.set_cons_succ]
      refine take_ (i := 18) (d := some 49) (v := ?_) rfl rfl (by kernel_rfl) (by kernel_rfl) (by kernel_rfl) (fun _ _ _ h => h) (by rfl) ?_ (by first | rfl | trivial | assumption) ?_
      rotate_left
      · (intro V hSw; (try (have hF := HSX.out V hSw)); (try (cases hSw)); (try go_split_ands); go_simp; try with_reducible rfl)
      simp only [Act.put, List.setIfInBounds_toArray, List.set_cons_zero, List.set_cons_succ]
      refine take_ (i := 19) (d := some 50) (v := ?_) rfl rfl (by kernel_rfl) (by kernel_rfl) (by kernel_rfl) (fun _ _ _ h => h) (by rfl) ?_ (by first | rfl | trivial | assumption) ?_
      rotate_left
      · (intro V hSw; (try (have hF := HSX.out V hSw)); (try (cases hSw)); (try go_split_ands); go_simp; try with_reducible rfl)
      simp only [Act.put, List.setIfInBounds_toArray, List.set_cons_zero, List.set_cons_succ]
      refine take_ (i := 20) (d := some 51) (v := ?_) rfl rfl (by kernel_rfl) (by kernel_rfl) (by kernel_rfl) (fun _ _ _ h => h) (by rfl) ?_ (by first | rfl | trivial | assumption) ?_
      rotate_left
      · (intro V hSw; (try (have hF := HSX.out V hSw)); (try (cases hSw)); (try go_split_ands); go_simp; try with_reducible rfl)
      simp only [Act.put, List.setIfInBounds_toArray, List.set_cons_zero, List.set_cons_succ]
      refine take_ (i := 21) (d := some 52) (v := ?_) rfl rfl (by kernel_rfl) (by kernel_rfl) (by kernel_rfl) (fun _ _ _ h => h) (by rfl) ?_ (by first | rfl | trivial | assumption) ?_
      rotate_left
      · (intro V hSw; (try (have hF := HSX.out V hSw)); (try (cases hSw)); (try go_split_ands); go_simp; try with_reducible rfl)
      simp only [Act.put, List.setIfInBounds_toArray, List.set_cons_zero, List.set_cons_succ]
      refine take_ (i := 22) (d := some 53) (v := ?_) rfl rfl (by kernel_rfl) (by kernel_rfl) (by kernel_rfl) (fun _ _ _ h => h) (by rfl) ?_ (by first | rfl | trivial | assumption) ?_
      rotate_left
      · (intro V hSw; (try (have hF := HSX.out V hSw)); (try (cases hSw)); (try go_split_ands); go_simp; try with_reducible rfl)
      simp only [Act.put, List.setIfInBounds_toArray, List.set_cons_zero, List.set_cons_succ]
      refine take_ (i := 23) (d := some 54) (v := ?_) rfl rfl (by kernel_rfl) (by kernel_rfl) (by kernel_rfl) (fun _ _ _ h => h) (by rfl) ?_ (by first | rfl | trivial | assumption) ?_
      rotate_left
      · (intro V hSw; (try (have hF := HSX.out V hSw)); (try (cases hSw)); (try go_split_ands); go_simp; try with_reducible rfl)
      simp only [Act.put, List.setIfInBounds_toArray, List.set_cons_zero, List.set_cons_succ]
      refine take_ (i := 24) (d := some 55) (v := ?_) rfl rfl (by kernel_rfl) (by kernel_rfl) (by kernel_rfl) (fun _ _ _ h => h) (by rfl) ?_ (by first | rfl | trivial | assumption) ?_
      rotate_left
      · (intro V hSw; (try (have hF := HSX.out V hSw)); (try (cases hSw)); (try go_split_ands); go_simp; try with_reducible rfl)
      simp only [Act.put, List.setIfInBounds_toArray, List.set_cons_zero, List.set_cons_succ]
      refine take_ (i := 25) (d := some 56) (v := ?_) rfl rfl (by kernel_rfl) (by kernel_rfl) (by kernel_rfl) (fun _ _ _ h => h) (by rfl) ?_ (by first | rfl | trivial | assumption) ?_
      rotate_left
      · (intro V hSw; (try (have hF := HSX.out V hSw)); (try (cases hSw)); (try go_split_ands); go_simp; try with_reducible rfl)
      simp only [Act.put, List.setIfInBounds_toArray, List.set_cons_zero, List.set_cons_succ]
      refine take_ (i := 26) (d := some 57) (v := ?_) rfl rfl (by kernel_rfl) (by kernel_rfl) (by kernel_rfl) (fun _ _ _ h => h) (by rfl) ?_ (by first | rfl | trivial | assumption) ?_
      rotate_left
      · (intro V hSw; (try (have hF := HSX.out V hSw)); (try (cases hSw)); (try go_split_ands); go_simp; try with_reducible rfl)
      simp only [Act.put, List.setIfInBounds_toArray, List.set_cons_zero, List.set_cons_succ]
      refine take_ (i := 27) (d := some 58) (v := ?_) rfl rfl (by kernel_rfl) (by kernel_rfl) (by kernel_rfl) (fun _ _ _ h => h) (by rfl) ?_ (by first | rfl | trivial | assumption) ?_
      rotate_left
      · (intro V hSw; (try (have hF := HSX.out V hSw)); (try (cases hSw)); (try go_split_ands); go_simp; try with_reducible rfl)
      simp only [Act.put, List.setIfInBounds_toArray, List.set_cons_zero, List.set_cons_succ]
      refine take_ (i := 28) (d := some 59) (v := ?_) rfl rfl (by kernel_rfl) (by kernel_rfl) (by kernel_rfl) (fun _ _ _ h => h) (by rfl) ?_ (by first | rfl | trivial | assumption) ?_
      rotate_left
      · (intro V hSw; (try (have hF := HSX.out V hSw)); (try (cases hSw)); (try go_split_ands); go_simp; try with_reducible rfl)
      simp only [Act.put, List.setIfInBounds_toArray, List.set_cons_zero, List.set_cons_succ]
      refine take_ (i := 29) (d := some 60) (v := ?_) rfl rfl (by kernel_rfl) (by kernel_rfl) (by kernel_rfl) (fun _ _ _ h => h) (by rfl) ?_ (by first | rfl | trivial | assumption) ?_
      rotate_left
      · (intro V hSw; (try (have hF := HSX.out V hSw)); (try (cases hSw)); (try go_split_ands); go_simp; try with_reducible rfl)
      simp only [Act.put, List.setIfInBounds_toArray, List.set_cons_zero, List.set_cons_succ]
      refine take_ (i := 30) (d := some 61) (v := ?_) rfl rfl (by kernel_rfl) (by kernel_rfl) (by kernel_rfl) (fun _ _ _ h => h) (by rfl) ?_ (by first | rfl | trivial | assumption) ?_
      rotate_left
      · (intro V hSw; (try (have hF := HSX.out V hSw)); (try (cases hSw)); (try go_split_ands); go_simp; try with_reducible rfl)
      simp only [Act.put, List.setIfInBounds_toArray, List.set_cons_zero, List.set_cons_succ]
      refine take_ (i := 31) (d := some 62) (v := ?_) rfl rfl (by kernel_rfl) (by kernel_rfl) (by kernel_rfl) (fun _ _ _ h => h) (by rfl) ?_ (by first | rfl | trivial | assumption) ?_
      rotate_left
      · (intro V hSw; (try (have hF := HSX.out V hSw)); (try (cases hSw)); (try go_split_ands); go_simp; try with_reducible rfl)
      simp only [Act.put, List.setIfInBounds_toArray, List.set_cons_zero, List.set_cons_succ]
      refine take_ (i := 32) (d := some 63) (v := ?_) rfl rfl (by kernel_rfl) (by kernel_rfl) (by kernel_rfl) (fun _ _ _ h => h) (by rfl) ?_ (by first | rfl | trivial | assumption) ?_
      rotate_left
      · (intro V hSw; (try (have hF := HSX.out V hSw)); (try (cases hSw)); (try go_split_ands); go_simp; try with_reducible rfl)
      simp only [Act.put, List.setIfInBounds_toArray, List.set_cons_zero, List.set_cons_succ]
      refine take_ (i := 33) (d := some 64) (v := ?_) rfl rfl (by kernel_rfl) (by kernel_rfl) (by kernel_rfl) (fun _ _ _ h => h) (by rfl) ?_ (by first | rfl | trivial | assumption) ?_
      rotate_left
      · (intro V hSw; (try (have hF := HSX.out V hSw)); (try (cases hSw)); (try go_split_ands); go_simp; try with_reducible rfl)
      simp only [Act.put, List.setIfInBounds_toArray, List.set_cons_zero, List.set_cons_succ]
      refine wpAnyH_done (by kernel_rfl) ?_ _
      go_wp2_with fail
      exact ⟨⟨k + 1, by omega, by go_num, Chain.below hb7 H4.out, Bel.step hbl hb7⟩, by simp [intOf]; omega⟩
    · obtain rfl : k = n := by omega
      rw [List.drop_of_length_le (by have := hr1.1; omega)] at hch
      unfold Chain at hch
      subst hch
      have x1 := Below.cellOf hbl (Nat.le_refl _) hx1
      have gr := Below.cellOf hbl (Nat.le_refl _) hg1
      have z := hbl.size
      clear hx0 hr1 hx1
      go_wp2_with fail
      (refine calls_named ?_; intro W5 hW5)
      have hbr : Below wr.heap.size wr W5 := by rw [hW5]; exact (by repeat (first | exact Below.refl _ _ | assumption | apply Below.drew | apply below_drewN | apply Bel.alloc | (refine Bel.setCell_ ?_ ?_; rotate_left; omega) | (refine Bel.step ?_ (by assumption))))
      have ht5 : W5.cell? ⟨wr.heap.size + 1, 0, none⟩ = some (.int .i64 0) := by rw [hW5]; simp
      have hf5 : W5.frozen? ⟨wr.heap.size + 1, 0, none⟩ = false := by rw [hW5]; simp
      have g5 := Below.cellOf hbr (Nat.le_refl _) gr
      have z5 := lt_of_cell ht5
      clear hW5
      with_reducible refine (as_none c0 wr.heap.size _ g5).mono ?_
      rintro e w6 ⟨rfl, hb6⟩
      have hb56 := hbr.trans (hb6.mono hbr.size)
      go_wp2_with fail
      with_reducible refine (as_errno c0 (wr.heap.size + 1) _ _ (Below.cellOf hb6 (Nat.le_refl _) g5) (Below.cellOf hb6 (Nat.le_refl _) ht5) ((Below.frozenOf hb6 z5).trans hf5)).mono ?_
      rintro e w7 ⟨rfl, ht7, hb7⟩
      have hb8 : Below wr.heap.size wr w7 := hb56.trans (hb7.mono (Nat.le_succ _))
      have x7 := Below.cellOf hb8 (Nat.le_refl _) x1
      clear hb6 hb7 hb56 ht5 hf5
      go_wp2_with fail
      go_ret
      exact ⟨rfl, (by repeat (first | exact Below.refl _ _ | assumption | apply Below.drew | apply below_drewN | apply Bel.alloc | (refine Bel.setCell_ ?_ ?_; rotate_left; omega) | (refine Bel.step ?_ (by assumption))))⟩
end Go.Proofs.YtgkeolddpielpaaGreatDoor

/- What may be is told so: CheckTable, CheckNet, law3.Few, law3.May. -/
namespace Go.Proofs.YtgkeolddpielpaaGreatDoor
open Go.RowKit

attribute [local go_sem ↓] Go.wp_at_zero Go.wp_at_succ

set_option maxHeartbeats 1000000 in
theorem refCheckTable_yes (A : Option Addr) (n c : Nat) (t : TabD) (w : World) (h : RdI w A n t.costs) (ht : TabOk t) :
    Calls Tryz.prog 85 #[.agg #[.int .i64 t.ins, .int .i64 t.outs, .slice A n c]] w fun e w' => e = .returned (.agg #[.slice none 0 0, .int .i64 0]) ∧ Below w.heap.size w w' := by
  obtain ⟨i, o, cs⟩ := t
  have h : RdI w A n cs := h
  simp only
  have i0 : ¬ i < 0 := by have := ht.i0; simp only at this; omega
  have i1 : ¬ i > 16 := by have := ht.i16; simp only at this; omega
  have o0 : ¬ o < 0 := by have := ht.o0; simp only at this; omega
  have o1 : ¬ o > 16 := by have := ht.o16; simp only at this; omega
  have hm := mul_bd (a := i) (b := o) (by omega) (by omega) (by omega) (by omega)
  have j1 : IntKind.i64.wrap (i * o) = i * o := IntWalk.i64_in _ (by omega)
  have hl : (n : Int) = i * o := by have := ht.len; simp only at this; rw [h.1] at this; exact this
  have HOK := Lib.hid ht.ok
  clear ht
  have j2 : ((n : Int) != i * o) = false := by simpa using hl
  have j3 : ((n : Int) == i * o) = true := by simpa using hl
  have hn : n ≤ 256 := by omega
  have HL := Lib.hid hl
  clear hl
  go_enter Tryz.func85, Tryz.ntmps85
  go_wp2_with fail
  (refine wp_named ?_; intro w1 hw1)
  have hb1 : Below w.heap.size w w1 := by rw [hw1]; exact (by repeat (first | exact Below.refl _ _ | assumption | apply Below.drew | apply below_drewN | apply Bel.alloc | (refine Bel.setCell_ ?_ ?_; rotate_left; omega) | (refine Bel.step ?_ (by assumption))))
  have hT1 : Blk w1 w.heap.size 117 #[.int .i64 i, .int .i64 o, .slice A n c] := by rw [hw1]; exact (by repeat (first | assumption | (refine Blk.new' _ _ _ ?_; first | with_unfolding_all rfl | (simp; done)) | apply Blk.drewN | apply Blk.drew | apply Blk.alloc | (refine Blk.far_ ?_ ?_ _; rotate_left; omega)))
  have hB1 : Blk w1 (w.heap.size + 1) 44 #[.slice none 0 0, .int .i64 0] := by rw [hw1]; exact (by repeat (first | assumption | (refine Blk.new' _ _ _ ?_; first | with_unfolding_all rfl | (simp; done)) | apply Blk.drewN | apply Blk.drew | apply Blk.alloc | (refine Blk.far_ ?_ ?_ _; rotate_left; omega)))
  clear hw1
  go_loopw [3] (fun q W => ∃ k : Nat, k ≤ n ∧ q = .int .i64 k ∧ Below w.heap.size w W ∧ Blk W w.heap.size 117 #[.int .i64 i, .int .i64 o, .slice A n c] ∧ Blk W (w.heap.size + 1) 44 #[.slice none 0 0, .int .i64 0]) (fun q _ => n - (intOf q).toNat)
  case atStart => exact ⟨0, Nat.zero_le _, rfl, hb1, hT1, hB1⟩
  case round =>
    clear hb1 hT1 hB1
    obtain ⟨k, hk, rfl, hbl, hT, hB⟩ := hrel
    obtain ⟨t0, t1, t2⟩ := hT.three
    have zT := hT.lt
    by_cases hlt : k < n
    · obtain ⟨b, oo, x, rfl, hx, hc⟩ := (h.below hbl).at_ hlt
      have i2 : (0 : Int) ≤ (k : Int) := by omega
      have i3 : (k : Int) < (n : Int) := by omega
      have HX := Lib.hid hx
      clear hx
      have hw : wOk x = true := HOK.out x (List.mem_of_getElem? HX.out)
      have HW := Lib.hid (show ∀ V, Calls Tryz.prog 78 #[.int .i64 x] V fun e w' => e = .returned (.bool true) ∧ V = w' from fun V => by
        have := refWeight_any x V
        rw [hw] at this
        exact this)
      clear hw
      go_wp2_with fail
      with_reducible refine (HW.out _).mono ?_
      rintro e w' ⟨rfl, rfl⟩
      go_wp2_with fail
      go_roundw
      case rel => exact ⟨k + 1, by omega, by go_num, hbl, hT, hB⟩
      case measure => simp [intOf]; omega
    · obtain rfl : k = n := by omega
      have zB := hB.lt
      obtain ⟨c0, c1, f0, f1⟩ := hB.two
      go_wp2_with fail
      refine bodyPost_ret (v := .agg #[.slice none 0 0, .int .i64 0]) (by simp [results, Tryz.results85, go_sem, c0, c1]) rfl ?_
      exact ⟨rfl, (by repeat (first | exact Below.refl _ _ | assumption | apply Below.drew | apply below_drewN | apply Bel.alloc | (refine Bel.setCell_ ?_ ?_; rotate_left; omega) | (refine Bel.step ?_ (by assumption))))⟩
set_option maxHeartbeats 6000000 in
set_option maxRecDepth 100000 in
theorem refCheckNet_yes (A B C : Option Addr) (n m k c d e : Nat) (N : NetD) (w : World) (h : RdNet w A B C n m k N) (hN : NetOk N) :
    Calls Tryz.prog 55 #[.agg #[.slice A n c, .slice B m d, .slice C k e]] w fun e w' => e = .returned (.agg #[.slice none 0 0, .int .i64 0]) ∧ Below w.heap.size w w' := by
  have HH := Lib.hid h
  have HLV := Lib.hid h.1.1
  have HLA := Lib.hid h.2.1.1
  have HLT := Lib.hid h.2.2.1
  clear h
  have HNO := Lib.hid hN
  have q0 : ¬ (n : Int) > 4096 := by have := hN.lv; rw [HLV.out] at this; omega
  have q1 : ¬ (m : Int) > 16384 := by have := hN.la; rw [HLA.out] at this; omega
  have q2 : ¬ (k : Int) > 256 := by have := hN.lt; rw [HLT.out] at this; omega
  clear hN
  go_enter Tryz.func55, Tryz.ntmps55
  go_wp2_with fail
  (refine wp_named ?_; intro w1 hw1)
  have hb1 : Below w.heap.size w w1 := by rw [hw1]; exact (by repeat (first | exact Below.refl _ _ | assumption | apply Below.drew | apply below_drewN | apply Bel.alloc | (refine Bel.setCell_ ?_ ?_; rotate_left; omega) | (refine Bel.step ?_ (by assumption))))
  have hN1 : Blk w1 w.heap.size 26 #[.slice A n c, .slice B m d, .slice C k e] := by rw [hw1]; exact (by repeat (first | assumption | (refine Blk.new' _ _ _ ?_; first | with_unfolding_all rfl | (simp; done)) | apply Blk.drewN | apply Blk.drew | apply Blk.alloc | (refine Blk.far_ ?_ ?_ _; rotate_left; omega)))
  have hR1 : Blk w1 (w.heap.size + 1) 44 #[.slice none 0 0, .int .i64 0] := by rw [hw1]; exact (by repeat (first | assumption | (refine Blk.new' _ _ _ ?_; first | with_unfolding_all rfl | (simp; done)) | apply Blk.drewN | apply Blk.drew | apply Blk.alloc | (refine Blk.far_ ?_ ?_ _; rotate_left; omega)))
  clear hw1
  go_loopw [3] (fun q W => ∃ i : Nat, i ≤ k ∧ q = .int .i64 i ∧ Below w.heap.size w W ∧ Blk W w.heap.size 26 #[.slice A n c, .slice B m d, .slice C k e] ∧ Blk W (w.heap.size + 1) 44 #[.slice none 0 0, .int .i64 0]) (fun q _ => k - (intOf q).toNat)
  case atStart => exact ⟨0, Nat.zero_le _, rfl, hb1, hN1, hR1⟩
  case round =>
    clear hb1 hN1 hR1
    obtain ⟨i, hi, rfl, hbl, hNN, hRR⟩ := hrel
    obtain ⟨n0, n1, n2⟩ := hNN.three
    have zN := hNN.lt
    have zR := hRR.lt
    by_cases hlt : i < k
    · obtain ⟨b, o, t, rfl, ht, k0, k1, A', n', c', k2, hr, hc1, hc2⟩ := (HH.out.2.2.below hbl).at_ hlt
      have i1 : (0 : Int) ≤ (i : Int) := by omega
      have i2 : (i : Int) < (k : Int) := by omega
      have HT := Lib.hid ht
      clear ht
      have HTC := Lib.hid (refCheckTable_yes A' n' c' t wr hr (HNO.out.tabs t (List.mem_of_getElem? HT.out)))
      go_wp2_with fail
      with_reducible refine (HTC.out).mono ?_
      rintro e w2 ⟨rfl, hb2⟩
      have hN2 := hNN.below hb2 hNN.lt
      have hR2 := hRR.below hb2 hRR.lt
      have hbl2 : Below w.heap.size w w2 := Bel.step hbl hb2
      clear n0 n1 n2 k0 k1 k2
      go_wp2_with fail
      go_roundw
      case rel => exact ⟨i + 1, by omega, by go_num, Bel.alloc hbl2, hN2.alloc _, hR2.alloc _⟩
      case measure => simp [intOf]; omega
    · obtain rfl : i = k := by omega
      obtain ⟨w2, hw2⟩ : ∃ w2, w2 = wr := ⟨_, rfl⟩
      subst hw2
      go_wp2_with fail
      clear n0 n1 n2 zN zR hlt hi
      go_loopw [5] (fun q W => ∃ j : Nat, j ≤ n ∧ q = .int .i64 j ∧ Below w.heap.size w W ∧ Blk W w.heap.size 26 #[.slice A n c, .slice B m d, .slice C i e] ∧ Blk W (w.heap.size + 1) 44 #[.slice none 0 0, .int .i64 0]) (fun q _ => n - (intOf q).toNat)
      case atStart => exact ⟨0, Nat.zero_le _, rfl, hbl, hNN, hRR⟩
      case round =>
        clear hbl hNN hRR
        obtain ⟨j, hj, rfl, hbl, hNN, hRR⟩ := hrel
        obtain ⟨n0, n1, n2⟩ := hNN.three
        have zN := hNN.lt
        have zR := hRR.lt
        by_cases hlt : j < n
        · obtain ⟨b, o, x, y, z, rfl, hx, cx, cy, cz⟩ := (HH.out.1.below hbl).at_ hlt
          have i1 : (0 : Int) ≤ (j : Int) := by omega
          have i2 : (j : Int) < (n : Int) := by omega
          have HX := Lib.hid hx
          clear hx
          have HF1 := Lib.hid (show ∀ V, Calls Tryz.prog 86 #[.int .i64 x] V fun e w' => e = .returned (.bool (coordB x)) ∧ V = w' from fun V => coord_any x V)
          have HF2 := Lib.hid (show ∀ V, Calls Tryz.prog 86 #[.int .i64 y] V fun e w' => e = .returned (.bool (coordB y)) ∧ V = w' from fun V => coord_any y V)
          have hvo := HNO.out.verts _ (List.mem_of_getElem? HX.out)
          have e1 : coordB x = true := hvo.x
          have e2 : coordB y = true := hvo.y
          have z0 : ¬ z < 0 := by have := hvo.t0; simp only at this; omega
          have z1 : ¬ z ≥ (i : Int) := by have := hvo.t1; simp only at this; rw [HLT.out] at this; omega
          rw [e1] at HF1
          rw [e2] at HF2
          clear e1 e2 hvo
          go_wp2_with fail
          with_reducible refine (HF1.out _).mono ?_
          rintro e w' ⟨rfl, rfl⟩
          go_wp2_with fail
          with_reducible refine (HF2.out _).mono ?_
          rintro e w' ⟨rfl, rfl⟩
          go_wp2_with fail
          go_roundw
          case rel => exact ⟨j + 1, by omega, by go_num, Bel.alloc hbl, hNN.alloc _, hRR.alloc _⟩
          case measure => simp [intOf]; omega
        · obtain rfl : j = n := by omega
          obtain ⟨w3, hw3⟩ : ∃ w3, w3 = wr := ⟨_, rfl⟩
          subst hw3
          have hmk := run_makeI j (by omega)
          go_wp2_with fail
          (refine wp_named ?_; intro w4 hw4)
          have hb4 : Below w.heap.size w w4 := by rw [hw4]; exact (by repeat (first | exact Below.refl _ _ | assumption | apply Below.drew | apply below_drewN | apply Bel.alloc | (refine Bel.setCell_ ?_ ?_; rotate_left; omega) | (refine Bel.step ?_ (by assumption))))
          have hN4 : Blk w4 w.heap.size 26 #[.slice A j c, .slice B m d, .slice C i e] := by rw [hw4]; exact (by repeat (first | assumption | apply Blk.drewN | apply Blk.drew | apply Blk.alloc | (refine Blk.far_ ?_ ?_ _; rotate_left; omega)))
          have hR4 : Blk w4 (w.heap.size + 1) 44 #[.slice none 0 0, .int .i64 0] := by rw [hw4]; exact (by repeat (first | assumption | apply Blk.drewN | apply Blk.drew | apply Blk.alloc | (refine Blk.far_ ?_ ?_ _; rotate_left; omega)))
          have hI4 : Blk w4 w3.heap.size 3 (zeros (.int .i64 0) j) := by rw [hw4]; exact (by repeat (first | assumption | (refine Blk.new' _ _ _ ?_; first | with_unfolding_all rfl | (simp; done)) | apply Blk.drewN | apply Blk.drew | apply Blk.alloc | (refine Blk.far_ ?_ ?_ _; rotate_left; omega)))
          have hO4 : Blk w4 (w3.heap.size + 1) 3 (zeros (.int .i64 0) j) := by rw [hw4]; exact (by repeat (first | assumption | (refine Blk.new' _ _ _ ?_; first | with_unfolding_all rfl | (simp; done)) | apply Blk.drewN | apply Blk.drew | apply Blk.alloc | (refine Blk.far_ ?_ ?_ _; rotate_left; omega)))
          obtain ⟨g, hg⟩ : ∃ g, g = w3.heap.size := ⟨_, rfl⟩
          rw [← hg] at hI4 hO4 zR
          rw [← hg]
          clear hw4 hmk n0 n1 n2 zN hbl hNN hRR hj hlt hg
          go_loopw [9] (fun q W => ∃ r : Nat, r ≤ m ∧ q = .int .i64 r ∧ Below w.heap.size w W ∧ Blk W w.heap.size 26 #[.slice A j c, .slice B m d, .slice C i e] ∧ Blk W (w.heap.size + 1) 44 #[.slice none 0 0, .int .i64 0] ∧ Blk W g 3 (ints (cnts (·.2.1) (N.ar.take r) j)) ∧ Blk W (g + 1) 3 (ints (cnts (·.1) (N.ar.take r) j))) (fun q _ => m - (intOf q).toNat)
          case atStart => exact ⟨0, Nat.zero_le _, rfl, hb4, hN4, hR4, by rw [List.take_zero, cnts_zero]; exact hI4, by rw [List.take_zero, cnts_zero]; exact hO4⟩
          case round =>
            clear hb4 hN4 hR4 hI4 hO4
            obtain ⟨r, hr, rfl, hbl, hNN, hRR, hI, hO⟩ := hrel
            obtain ⟨n0, n1, n2⟩ := hNN.three
            have zN := hNN.lt
            have zI := hI.lt
            have zO := hO.lt
            by_cases hlt : r < m
            · obtain ⟨b, o, x, y, z, rfl, hx, cx, cy, cz⟩ := (HH.out.2.1.below hbl).at_ hlt
              have i1 : (0 : Int) ≤ (r : Int) := by omega
              have i2 : (r : Int) < (m : Int) := by omega
              have HX := Lib.hid hx
              clear hx
              have hao := HNO.out.arcs _ (List.mem_of_getElem? HX.out)
              have x0 : ¬ x < 0 := by have := hao.f0; simp only at this; omega
              have x1 : ¬ x ≥ (j : Int) := by have := hao.f1; simp only at this; rw [HLV.out] at this; omega
              have y0 : ¬ y < 0 := by have := hao.g0; simp only at this; omega
              have y1 : ¬ y ≥ (j : Int) := by have := hao.g1; simp only at this; rw [HLV.out] at this; omega
              have HF1 := Lib.hid (show ∀ V, Calls Tryz.prog 78 #[.int .i64 z] V fun e w' => e = .returned (.bool (wOk z)) ∧ V = w' from fun V => refWeight_any z V)
              have e1 : wOk z = true := hao.w
              rw [e1] at HF1
              clear e1 hao
              obtain ⟨u, rfl⟩ : ∃ u : Nat, x = u := ⟨x.toNat, by omega⟩
              obtain ⟨v, rfl⟩ : ∃ v : Nat, y = v := ⟨y.toNat, by omega⟩
              have hu : u < j := by omega
              have hvn : v < j := by omega
              have HX1 := Lib.hid (cnts_next (f := (·.2.1)) (n := j) (v := v) HX.out rfl hvn)
              have HX2 := Lib.hid (cnts_next (f := (·.1)) (n := j) (v := u) HX.out rfl hu)
              have c1 := hI.cellI (cnts_get (f := (·.2.1)) (l := N.ar.take r) hvn)
              have c2 := hO.cellI (cnts_get (f := (·.1)) (l := N.ar.take r) hu)
              have d1 := cnts_bd (·.2.1) N.ar r v
              have d2 := cnts_bd (·.1) N.ar r u
              generalize (N.ar.take r).countP (fun a => a.2.1 == (v : Int)) = p at *
              generalize (N.ar.take r).countP (fun a => a.1 == (u : Int)) = q at *
              have f1 := hI.frozen v
              have f2 := hO.frozen u
              obtain ⟨W2, hW2⟩ : ∃ W2, W2 = ((wr.setCell ⟨g + 1, u, none⟩ (.int .i64 ((q : Int) + 1))).setCell ⟨g, v, none⟩ (.int .i64 ((p : Int) + 1))).alloc (.cells #[.int .i64 u, .int .i64 v, .int .i64 z] 121) := ⟨_, rfl⟩
              have HW2 := Lib.hid hW2
              have hb2 : Below w.heap.size w W2 := by rw [hW2]; exact Bel.alloc ((hbl.setCell (by simp only; omega) _).setCell (by simp only; omega) _)
              have HN2 := Lib.hid (show Blk W2 w.heap.size 26 #[.slice A j c, .slice (some ⟨b, o, none⟩) m d, .slice C i e] from by rw [hW2]; exact (by repeat (first | assumption | apply Blk.drewN | apply Blk.drew | apply Blk.alloc | (refine Blk.far_ ?_ ?_ _; rotate_left; omega))))
              have HR2 := Lib.hid (show Blk W2 (w.heap.size + 1) 44 #[.slice none 0 0, .int .i64 0] from by rw [hW2]; exact (by repeat (first | assumption | apply Blk.drewN | apply Blk.drew | apply Blk.alloc | (refine Blk.far_ ?_ ?_ _; rotate_left; omega))))
              have HI2 := Lib.hid (show Blk W2 g 3 (ints (cnts (·.2.1) (N.ar.take (r + 1)) j)) from by
                rw [hW2]; exact (Blk.setI (hI.far_ (by omega) _) HX1.out).alloc _)
              have HO2 := Lib.hid (show Blk W2 (g + 1) 3 (ints (cnts (·.1) (N.ar.take (r + 1)) j)) from by
                rw [hW2]; exact ((hO.setI HX2.out).far_ (by omega) _).alloc _)
              clear hW2 hI hO hNN hRR
              go_wp2_with fail
              with_reducible refine (HF1.out _).mono ?_
              rintro e w' ⟨rfl, rfl⟩
              go_wp2_with fail
              rw [← HW2.out]
              go_roundw
              case rel =>
                exact ⟨r + 1, by omega, by go_num, hb2, HN2.out, HR2.out, HI2.out, HO2.out⟩
              case measure => simp [intOf]; omega
            · obtain rfl : r = m := by omega
              rw [List.take_of_length_le (by rw [HLA.out]; exact Nat.le_refl _)] at hI hO
              obtain ⟨w6, hw6⟩ : ∃ w6, w6 = wr := ⟨_, rfl⟩
              subst hw6
              go_wp2_with fail
              clear n0 n1 n2 hlt hr
              go_loopw [11] (fun q W => ∃ s : Nat, s ≤ j ∧ q = .int .i64 s ∧ Below w6.heap.size w6 W) (fun q _ => j - (intOf q).toNat)
              case atStart => exact ⟨0, Nat.zero_le _, rfl, Below.refl _ _⟩
              case round =>
                obtain ⟨s, hs, rfl, hb2⟩ := hrel
                have hNr := hNN.below hb2 zN
                have hRr := hRR.below hb2 hRR.lt
                have hIr := hI.below hb2 zI
                have hOr := hO.below hb2 zO
                have hblr : Below w.heap.size w wr := Bel.step hbl hb2
                obtain ⟨n0, n1, n2⟩ := hNr.three
                have zr := hb2.size
                by_cases hlt2 : s < j
                · obtain ⟨b, o, x, y, z, rfl, hx, cx, cy, cz⟩ := (HH.out.1.below hblr).at_ hlt2
                  have hok := HNO.out.verts _ (List.mem_of_getElem? hx)
                  have t0 := hok.t0
                  have t1 := hok.t1
                  simp only at t0 t1
                  rw [HLT.out] at t1
                  obtain ⟨u, rfl⟩ : ∃ u : Nat, z = u := ⟨z.toNat, by omega⟩
                  have hu : u < i := by omega
                  obtain ⟨b', o', t, rfl, htt, k0, k1, A', n', c', k2, _, _, _⟩ := (HH.out.2.2.below hblr).at_ hu
                  obtain ⟨ti, to_, tc⟩ := t
                  simp only at k0 k1
                  have HX := Lib.hid hx
                  have HTT := Lib.hid htt
                  have c1 := hIr.cellI (cnts_get (f := (·.2.1)) (l := N.ar) hlt2)
                  have c2 := hOr.cellI (cnts_get (f := (·.1)) (l := N.ar) hlt2)
                  obtain ⟨p, hp⟩ : ∃ p, p = N.ar.countP (fun a => a.2.1 == (s : Int)) := ⟨_, rfl⟩
                  obtain ⟨q, hq⟩ : ∃ q, q = N.ar.countP (fun a => a.1 == (s : Int)) := ⟨_, rfl⟩
                  rw [← hp] at c1
                  rw [← hq] at c2
                  have HP := Lib.hid hp
                  have HQ := Lib.hid hq
                  have HSX := Lib.hid (show ∀ V, Below wr.heap.size wr V → V.cell? ⟨w.heap.size, 0, none⟩ = some (.slice (some ⟨b, o, none⟩) j c) ∧ V.cell? ⟨w.heap.size, 2, none⟩ = some (.slice (some ⟨b', o', none⟩) i e) ∧ V.cell? ⟨b, o + s * 3 + 2, none⟩ = some (.int .i64 u) ∧ V.cell? ⟨b', o' + u * 3, none⟩ = some (.int .i64 ti) ∧ V.cell? ⟨b', o' + u * 3 + 1, none⟩ = some (.int .i64 to_) ∧ V.cell? ⟨b', o' + u * 3 + 2, none⟩ = some (.slice A' n' c') from fun V hV =>
                    ⟨Below.cellOf hV (Nat.le_refl _) n0, Below.cellOf hV (Nat.le_refl _) n2, Below.cellOf hV (Nat.le_refl _) cz, Below.cellOf hV (Nat.le_refl _) k0, Below.cellOf hV (Nat.le_refl _) k1, Below.cellOf hV (Nat.le_refl _) k2⟩)
                  have i1 : (0 : Int) ≤ (s : Int) := by omega
                  have i2 : (s : Int) < (j : Int) := by omega
                  have i3 : (0 : Int) ≤ (u : Int) := by omega
                  have i4 : (u : Int) < (i : Int) := by omega
                  clear hx htt hok hp hq cx cy cz k0 k1 k2 n1
                  go_wp2_with fail
                  refine wp_region_held_drew (S := fun V => Below wr.heap.size wr V) (by kernel_rfl) (Below.refl _ _).drew (fun _ => ?_)
                  refine take_ (i := 0) (d := some 160) (v := ?_) rfl rfl (by kernel_rfl) (by kernel_rfl) (by kernel_rfl) (fun _ _ _ h => h) (by rfl) ?_ (by first | rfl | trivial | assumption) ?_
                  rotate_left
                  · (intro V hSw; (try (have hF := HSX.out V hSw)); (try (cases hSw)); (try go_split_ands); go_simp; try with_reducible rfl)
                  simp only [Act.put, List.setIfInBounds_toArray, List.set_cons_zero, List.set_cons_succ]
                  refine take_ (i := 1) (d := some 161) (v := ?_) rfl rfl (by kernel_rfl) (by kernel_rfl) (by kernel_rfl) (fun _ _ _ h => h) (by rfl) ?_ (by first | rfl | trivial | assumption) ?_
                  rotate_left
                  · (intro V hSw; (try (have hF := HSX.out V hSw)); (try (cases hSw)); (try go_split_ands); go_simp; try with_reducible rfl)
                  simp only [Act.put, List.setIfInBounds_toArray, List.set_cons_zero, List.set_cons_succ]
                  refine take_ (i := 2) (d := some 162) (v := ?_) rfl rfl (by kernel_rfl) (by kernel_rfl) (by kernel_rfl) (fun _ _ _ h => h) (by rfl) ?_ (by first | rfl | trivial | assumption) ?_
                  rotate_left
                  · (intro V hSw; (try (have hF := HSX.out V hSw)); (try (cases hSw)); (try go_split_ands); go_simp; try with_reducible rfl)
                  simp only [Act.put, List.setIfInBounds_toArray, List.set_cons_zero, List.set_cons_succ]
                  refine take_ (i := 3) (d := some 163) (v := ?_) rfl rfl (by kernel_rfl) (by kernel_rfl) (by kernel_rfl) (fun _ _ _ h => h) (by rfl) ?_ (by first | rfl | trivial | assumption) ?_
                  rotate_left
                  · (intro V hSw; (try (have hF := HSX.out V hSw)); (try (cases hSw)); (try go_split_ands); go_simp; try with_reducible rfl)
                  simp only [Act.put, List.setIfInBounds_toArray, List.set_cons_zero, List.set_cons_succ]
                  refine take_ (i := 4) (d := some 164) (v := ?_) rfl rfl (by kernel_rfl) (by kernel_rfl) (by kernel_rfl) (fun _ _ _ h => h) (by rfl) ?_ (by first | rfl | trivial | assumption) ?_
                  rotate_left
                  · (intro V hSw; (try (have hF := HSX.out V hSw)); (try (cases hSw)); (try go_split_ands); go_simp; try with_reducible rfl)
                  simp only [Act.put, List.setIfInBounds_toArray, List.set_cons_zero, List.set_cons_succ]
                  refine take_ (i := 5) (d := some 165) (v := ?_) rfl rfl (by kernel_rfl) (by kernel_rfl) (by kernel_rfl) (fun _ _ _ h => h) (by rfl) ?_ (by first | rfl | trivial | assumption) ?_
                  rotate_left
                  · (intro V hSw; (try (have hF := HSX.out V hSw)); (try (cases hSw)); (try go_split_ands); go_simp; try with_reducible rfl)
                  simp only [Act.put, List.setIfInBounds_toArray, List.set_cons_zero, List.set_cons_succ]
                  refine take_ (i := 6) (d := some 166) (v := ?_) rfl rfl (by kernel_rfl) (by kernel_rfl) (by kernel_rfl) (fun _ _ _ h => h) (by rfl) ?_ (by first | rfl | trivial | assumption) ?_
                  rotate_left
                  · (intro V hSw; (try (have hF := HSX.out V hSw)); (try (cases hSw)); (try go_split_ands); go_simp; try with_reducible rfl)
                  simp only [Act.put, List.setIfInBounds_toArray, List.set_cons_zero, List.set_cons_succ]
                  refine take_ (i := 7) (d := some 167) (v := ?_) rfl rfl (by kernel_rfl) (by kernel_rfl) (by kernel_rfl) (fun _ _ _ h => h) (by rfl) ?_ (by first | rfl | trivial | assumption) ?_
                  rotate_left
                  · (intro V hSw; (try (have hF := HSX.out V hSw)); (try (cases hSw)); (try go_split_ands); go_simp; try with_reducible rfl)
                  simp only [Act.put, List.setIfInBounds_toArray, List.set_cons_zero, List.set_cons_succ]
                  refine take_ (i := 8) (d := some 168) (v := ?_) rfl rfl (by kernel_rfl) (by kernel_rfl) (by kernel_rfl) (fun _ _ _ h => h) (by rfl) ?_ (by first | rfl | trivial | assumption) ?_
                  rotate_left
                  · (intro V hSw; (try (have hF := HSX.out V hSw)); (try (cases hSw)); (try go_split_ands); go_simp; try with_reducible rfl)
                  simp only [Act.put, List.setIfInBounds_toArray, List.set_cons_zero, List.set_cons_succ]
                  refine take_ (i := 9) (d := some 169) (v := ?_) rfl rfl (by kernel_rfl) (by kernel_rfl) (by kernel_rfl) (fun _ _ _ h => h) (by rfl) ?_ (by first | rfl | trivial | assumption) ?_
                  rotate_left
                  · (intro V hSw; (try (have hF := HSX.out V hSw)); (try (cases hSw)); (try go_split_ands); go_simp; try with_reducible rfl)
                  simp only [Act.put, List.setIfInBounds_toArray, List.set_cons_zero, List.set_cons_succ]
                  refine wpAnyH_ready (rs := [10]) (by kernel_rfl) (by simp) ?_
                  refine AllReadyH.cons (o := _) rfl (fun K hK => ?_) AllReadyH.nil
                  go_simp
                  refine hK.out _ _ (by repeat (first | exact Below.refl _ _ | apply Below.drew | apply Bel.alloc)) (fun _ => ?_)
                  clear hK K
                  refine wpAnyH_ready (rs := [11]) (by kernel_rfl) (by simp) ?_
                  refine AllReadyH.cons (o := _) rfl (fun K hK => ?_) AllReadyH.nil
                  go_simp
                  obtain ⟨w7, hw7⟩ : ∃ w7, w7 = (wr.alloc (.cells #[.int .i64 ti, .int .i64 to_, .slice A' n' c'] 117)).drew := ⟨_, rfl⟩
                  rw [← hw7]
                  have hb7 : Below wr.heap.size wr w7 := by rw [hw7]; exact ((Below.refl _ _).alloc (Nat.le_refl _) _).drew
                  have hT7 : Blk w7 wr.heap.size 117 #[.int .i64 ti, .int .i64 to_, .slice A' n' c'] := by rw [hw7]; exact (by repeat (first | assumption | (refine Blk.new' _ _ _ ?_; first | with_unfolding_all rfl | (simp; done)) | apply Blk.drewN | apply Blk.drew | apply Blk.alloc | (refine Blk.far_ ?_ ?_ _; rotate_left; omega)))
                  refine hK.out _ _ hb7 (fun _ => ?_)
                  clear hK K hw7
                  refine wpAnyH_done (by kernel_rfl) ?_ _
                  have hR7 := hRr.below hb7 hRr.lt
                  have hbl7 : Below w.heap.size w w7 := Bel.step hblr hb7
                  have c1' := Below.cellOf hb7 (Nat.le_refl _) c1
                  have c2' := Below.cellOf hb7 (Nat.le_refl _) c2
                  obtain ⟨e0, e1, _⟩ := hT7.three
                  clear c1 c2 n0 n2
                  have hmt := HNO.out.meet s _ _ HX.out (by simpa using HTT.out)
                  have htk := HNO.out.tabs _ (List.mem_of_getElem? HTT.out)
                  have m1 : (p : Int) = ti := by rw [HP.out]; exact hmt.1
                  have m2 : (q : Int) = to_ := by rw [HQ.out]; exact hmt.2
                  have p16 : ¬ (p : Int) > 16 := by have := htk.i16; simp only at this; omega
                  have q16 : ¬ (q : Int) > 16 := by have := htk.o16; simp only at this; omega
                  clear hmt htk
                  subst m1
                  have d1 : (((p : Nat) : Int) != ((p : Nat) : Int)) = false := by simp
                  subst m2
                  have d2 : (((q : Nat) : Int) != ((q : Nat) : Int)) = false := by simp
                  go_wp2_with fail
                  go_quiet (fail)
                  go_wp2_with fail
                  go_roundw
                  case rel =>
                    exact ⟨s + 1, by omega, by go_num, below_drewN (Bel.step hb2 hb7) _⟩
                  case measure => simp [intOf]; omega
                · obtain rfl : s = j := by omega
                  obtain ⟨c0, c1, f0, f1⟩ := hRr.two
                  go_wp2_with fail
                  refine bodyPost_ret (v := .agg #[.slice none 0 0, .int .i64 0]) (by simp [results, Tryz.results55, go_sem, c0, c1]) rfl ?_
                  exact ⟨rfl, (by repeat (first | exact Below.refl _ _ | assumption | apply Below.drew | apply below_drewN | apply Bel.alloc | (refine Bel.setCell_ ?_ ?_; rotate_left; omega) | (refine Bel.step ?_ (by assumption))))⟩
set_option maxHeartbeats 1000000 in
theorem few_yes (A B C : Option Addr) (n m k c d e : Nat) (N : NetD) (w : World) (h : RdNet w A B C n m k N) (hF : FewOk N) :
    Calls Tryz.prog 54 #[.agg #[.slice A n c, .slice B m d, .slice C k e]] w fun e w' => e = .returned (.bool true) ∧ Below w.heap.size w w' := by
  have HH := Lib.hid h
  have HLV := Lib.hid h.1.1
  have HLA := Lib.hid h.2.1.1
  have HLT := Lib.hid h.2.2.1
  clear h
  have HFO := Lib.hid hF
  have q0 : ¬ (n : Int) > 80 := by have := hF.v; rw [HLV.out] at this; omega
  have q1 : ¬ (m : Int) > 300 := by have := hF.a; rw [HLA.out] at this; omega
  have q2 : ¬ (k : Int) > 80 := by have := hF.t; rw [HLT.out] at this; omega
  clear hF
  go_enter Tryz.func54, Tryz.ntmps54
  go_wp2_with fail
  (refine wp_named ?_; intro w1 hw1)
  have hb1 : Below w.heap.size w w1 := by rw [hw1]; exact (by repeat (first | exact Below.refl _ _ | assumption | apply Below.drew | apply below_drewN | apply Bel.alloc | (refine Bel.setCell_ ?_ ?_; rotate_left; omega) | (refine Bel.step ?_ (by assumption))))
  have hN1 : Blk w1 w.heap.size 26 #[.slice A n c, .slice B m d, .slice C k e] := by rw [hw1]; exact Blk.new _ _ _
  clear hw1
  obtain ⟨n0, n1, n2⟩ := hN1.three
  have zN := hN1.lt
  have H1 := Lib.hid (HH.out.below hb1)
  go_loop [3] (fun q => ∃ i : Nat, i ≤ k ∧ q = .int .i64 i) (fun q => k - (intOf q).toNat)
  case atStart => exact ⟨0, Nat.zero_le _, rfl⟩
  case round =>
    obtain ⟨i, hi, rfl⟩ := hrel
    by_cases hlt : i < k
    · obtain ⟨b, o, t, rfl, ht, k0, k1, A', n', c', k2, hr, hc1, hc2⟩ := H1.out.2.2.at_ hlt
      have i1 : (0 : Int) ≤ (i : Int) := by omega
      have i2 : (i : Int) < (k : Int) := by omega
      have HT := Lib.hid ht
      have HC := Lib.hid hr.1
      clear ht hr
      have q3 : ¬ (n' : Int) > 300 := by have := HFO.out.c t (List.mem_of_getElem? HT.out); rw [HC.out] at this; omega
      go_wp2_with fail
      go_round
      case rel => exact ⟨i + 1, by omega, by go_num⟩
      case measure => simp [intOf]; omega
    · obtain rfl : i = k := by omega
      go_wp2_with fail
      go_ret
      exact ⟨rfl, hb1⟩
set_option maxHeartbeats 400000 in
set_option maxRecDepth 20000 in
theorem may3_yes (A B C : Option Addr) (n m k c d e : Nat) (N : NetD) (w : World) (h : RdNet w A B C n m k N) (hF : FewOk N) (hN : NetOk N) :
    Calls Tryz.prog 24 #[.agg #[.slice A n c, .slice B m d, .slice C k e]] w fun e w' => e = .returned (.bool true) ∧ Below w.heap.size w w' := by
  go_enter Tryz.func24, Tryz.ntmps24
  go_wp2_with fail
  (refine calls_named ?_; intro w1 hw1)
  have hb1 : Below w.heap.size w w1 := by rw [hw1]; exact (by repeat (first | exact Below.refl _ _ | assumption | apply Below.drew | apply below_drewN | apply Bel.alloc | (refine Bel.setCell_ ?_ ?_; rotate_left; omega) | (refine Bel.step ?_ (by assumption))))
  have hN1 : Blk w1 w.heap.size 26 #[.slice A n c, .slice B m d, .slice C k e] := by rw [hw1]; exact Blk.new _ _ _
  clear hw1
  with_reducible refine (few_yes A B C n m k c d e N w1 (h.below hb1) hF).mono ?_
  rintro e' w2 ⟨rfl, hb2⟩
  have hb2' := Bel.step hb1 hb2
  obtain ⟨n0, n1, n2⟩ := (hN1.below hb2 hN1.lt).three
  go_wp2_with fail
  with_reducible refine (refCheckNet_yes A B C n m k c d e N w2 (h.below hb2') hN).mono ?_
  rintro e' w3 ⟨rfl, hb3⟩
  have hb3' := Bel.step hb2' hb3
  have hfe := fieldErr none 0 0 0 w3
  clear h n0 n1 n2
  go_wp2_with fail
  go_ret
  exact ⟨rfl, hb3'⟩
end Go.Proofs.YtgkeolddpielpaaGreatDoor
