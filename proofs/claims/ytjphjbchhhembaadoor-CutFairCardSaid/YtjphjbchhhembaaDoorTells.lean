/- roundsmanlaw1.Tells: where an error is a chain, and it is told as that: true. -/
import Derived.Test.YtjphjbchhhembaaDoorAs
import Derived.Test.YtjphjbchhhembaaDoorCost
import Derived.Deep.RegionHeld3
import Derived.Deep.DrawnRows
namespace Go.Proofs.YtjphjbchhhembaaDoor
open Go.RowKit Go.Extern.Stop Go.Stop Go.Extern

theorem asW_below (t : Addr) (p : Nat) (w : World) : Below w.heap.size w (asX t p w) := (by repeat (first | exact Below.refl _ _ | assumption | apply Below.drew | apply below_drewN | apply Bel.alloc | (refine Bel.setCell_ ?_ ?_; rotate_left; omega) | (refine Bel.step ?_ (by assumption))))

/-- errors.As: the error's own type is the target's: what is behind it. -/
theorem as_fault (b o g : Nat) (old : Value) (w : World) (hg : w.cell? ⟨0, 0, none⟩ = some errT) (ht0 : w.cell? ⟨g, 0, none⟩ = some old) (hf0 : w.frozen? ⟨g, 0, none⟩ = false) :
    Calls Tryd.prog 60 #[fltV b o, .iface 109 (.pointer (some ⟨g, 0, none⟩))] w fun ev w' => ev = .returned (.bool true) ∧ w'.cell? ⟨g, 0, none⟩ = some (.pointer (some ⟨b, o, none⟩)) ∧ Below g w w' :=
  (as_hitF ⟨b, o, none⟩ ⟨g, 0, none⟩ old w hg ht0 hf0).mono fun e w' ⟨he, hw⟩ => by
    have hlt := lt_of_cell ht0
    have hb : Below g w (asX ⟨g, 0, none⟩ 109 w) := (asW_below _ _ w).mono (Nat.le_of_lt hlt)
    have hb2 : Below g w ((asX ⟨g, 0, none⟩ 109 w).alloc (.cells #[.pointer (some ⟨b, o, none⟩)] 107)) := hb.alloc (Nat.le_trans (Nat.le_of_lt hlt) (asW_below _ _ w).size) _
    refine ⟨he, ?_, ?_⟩
    · rw [hw]
      have hc : ((asX ⟨g, 0, none⟩ 109 w).alloc (.cells #[.pointer (some ⟨b, o, none⟩)] 107)).cell? ⟨g, 0, none⟩ = some old :=
        Below.cellOf (Bel.alloc (asW_below ⟨g, 0, none⟩ 109 w)) (Nat.le_refl _) ht0
      exact World.cell?_setCell_same _ _ _ hc
    · rw [hw]; exact hb2.setCell (Nat.le_refl _) _
theorem as_errno (c : Int) (g : Nat) (old : Value) (w : World) (hg : w.cell? ⟨0, 0, none⟩ = some errT) (ht0 : w.cell? ⟨g, 0, none⟩ = some old) (hf0 : w.frozen? ⟨g, 0, none⟩ = false) :
    Calls Tryd.prog 60 #[errV c, .iface 114 (.pointer (some ⟨g, 0, none⟩))] w fun ev w' => ev = .returned (.bool true) ∧ w'.cell? ⟨g, 0, none⟩ = some (.int .i64 c) ∧ Below g w w' :=
  (as_hitE c ⟨g, 0, none⟩ old w hg ht0 hf0).mono fun e w' ⟨he, hw⟩ => by
    have hlt := lt_of_cell ht0
    have hb : Below g w (asX ⟨g, 0, none⟩ 114 w) := (asW_below _ _ w).mono (Nat.le_of_lt hlt)
    have hb2 : Below g w ((asX ⟨g, 0, none⟩ 114 w).alloc (.cells #[.int .i64 c] 106)) := hb.alloc (Nat.le_trans (Nat.le_of_lt hlt) (asW_below _ _ w).size) _
    refine ⟨he, ?_, ?_⟩
    · rw [hw]
      have hc : ((asX ⟨g, 0, none⟩ 114 w).alloc (.cells #[.int .i64 c] 106)).cell? ⟨g, 0, none⟩ = some old :=
        Below.cellOf (Bel.alloc (asW_below ⟨g, 0, none⟩ 114 w)) (Nat.le_refl _) ht0
      exact World.cell?_setCell_same _ _ _ hc
    · rw [hw]; exact hb2.setCell (Nat.le_refl _) _
theorem as_none (c : Int) (g : Nat) (w : World) (hg : w.cell? ⟨0, 0, none⟩ = some errT) :
    Calls Tryd.prog 60 #[errV c, .iface 109 (.pointer (some ⟨g, 0, none⟩))] w fun ev w' => ev = .returned (.bool false) ∧ Below w.heap.size w w' :=
  (as_miss c ⟨g, 0, none⟩ w hg).mono fun e w' ⟨he, hw⟩ => ⟨he, by rw [hw]; exact asW_below _ _ w⟩

set_option maxHeartbeats 1000000 in
/-- of no error: OK. -/
theorem tells_nil (A : Option Addr) (n c : Nat) (w : World) :
    Calls Tryd.prog 28 #[.nilIface, .agg #[.slice A n c, .int .i64 0]] w fun e w' => e = .returned (.bool true) ∧ Below w.heap.size w w' := by
  go_enter Tryd.func28, Tryd.ntmps28
  go_wp2
  go_ret
  exact ⟨rfl, (by repeat (first | exact Below.refl _ _ | assumption | apply Below.drew | apply below_drewN | apply Bel.alloc | (refine Bel.setCell_ ?_ ?_; rotate_left; omega) | (refine Bel.step ?_ (by assumption))))⟩

theorem Below.frozenOf {B : Nat} {w w' : World} (h : Below B w w') {a : Addr} (hB : a.block < B) : w'.frozen? a = w.frozen? a := by
  unfold World.frozen?
  rw [h.block _ hB]

theorem calls_named {P : Program} {f : Nat} {args : Array Value} {w : World} {Q : Ending → World → Prop} (h : ∀ W, W = w → Calls P f args W Q) : Calls P f args w Q := h w rfl
theorem wpAnyH_mono {P : Program} {ops : Array Oper} {Q : Exit → Act → World → Prop} {md : Region.Mode} {S S' : World → Prop} (h : ∀ w, S' w → S w) :
    ∀ (fuel : Nat) (listed : Array Bool) (a : Act) (w : World), wpAnyH P md ops Q S' fuel listed a w → wpAnyH P md ops Q S fuel listed a w
  | 0, _, _, _, g => g
  | fuel + 1, _, _, _, g => ⟨g.1, fun i hi => wpOp_mono (fun a' w' h' => ⟨h _ h'.1, wpAnyH_mono h fuel _ a' w' h'.2⟩) (g.2 i hi)⟩
theorem take_ {P : Program} {ops : Array Oper} {Q : Exit → Act → World → Prop} {md : Region.Mode} {S : World → Prop} {i : Nat} {oi : Oper} {d : Option Tmp} {v : Value} {fuel : Nat} {listed : Array Bool} {a : Act} {w : World} (hi : ops[i]? = some oi) (hd : oi.dst = d)
    (hs : Region.noSelect ops = true) (hf : Region.free md ops listed i = true) (hr : (Region.ready md ops listed).contains i = true)
    (hQ : ∀ c a w, Q (.panic c) (a.put oi.dst v) w → Q (.panic c) a w) (hw : Region.wanted oi (yielded ops a.tmps) = true) (hy : ∀ w, S w → (execOp a.eval oi).run P w = .ok (.value v) w) (hS : S w)
    (h : wpAnyH P md ops Q S fuel (listed.setIfInBounds i true) (a.put d v) w) : wpAnyH P md ops Q S (fuel + 1) listed a w := by
  subst hd
  exact wpAnyH_take hi hs hf hr hQ (Or.inl ⟨hw, hy⟩) hS h
theorem chain_drop {w : World} {v : Value} {ps : List (ByteArray × Int)} {c : Int} {k : Nat} {p : ByteArray × Int} (hk : ps[k]? = some p) (h : Chain w v (ps.drop k) c) :
    ∃ b o u, v = fltV b o ∧ w.cell? ⟨b, o, none⟩ = some (.string p.1) ∧ w.cell? ⟨b, o + 1, none⟩ = some (.int .i64 p.2) ∧ w.cell? ⟨b, o + 2, none⟩ = some u ∧ Chain w u (ps.drop (k + 1)) c := by
  have hlt := (List.getElem?_eq_some_iff.1 hk).1
  rw [List.drop_eq_getElem_cons hlt] at h
  have e : ps[k] = p := (List.getElem?_eq_some_iff.1 hk).2
  rw [e] at h
  exact h

attribute [local go_sem ↓] Go.wp_at_zero Go.wp_at_succ

set_option maxHeartbeats 4000000 in
theorem tells_any (v : Value) (A : Option Addr) (n c : Nat) (ps : List (ByteArray × Int)) (c0 : Int) (w : World) (h : Chain w v ps c0) (hr : RdW w A n ps) (hc0 : c0 ≠ 0) (hg : w.cell? ⟨0, 0, none⟩ = some errT) (hn : n ≤ 4000000000000000000) :
    Calls Tryd.prog 28 #[v, .agg #[.slice A n c, .int .i64 c0]] w fun e w' => e = .returned (.bool true) ∧ Below w.heap.size w w' := by
  have HI : ∀ (W : World), Below w.heap.size w W → Calls Tryd.prog 59 #[v, errV c0] W fun e w' => e = .returned (.bool true) ∧ w' = W := fun W hb => errorsIs v ps c0 W (Chain.below hb h)
  have HI' := Lib.hid HI; clear HI
  obtain ⟨tv, xv, hv⟩ := chain_not_nil h
  have hlt0 := lt_of_cell hg
  have HC := Lib.hid hc0
  have HCH := Lib.hid h
  subst hv
  clear h
  go_enter Tryd.func28, Tryd.ntmps28
  go_wp2_with fail
  with_reducible refine (HI'.out _ (by repeat (first | exact Below.refl _ _ | assumption | apply Below.drew | apply below_drewN | apply Bel.alloc | (refine Bel.setCell_ ?_ ?_; rotate_left; omega) | (refine Bel.step ?_ (by assumption))))).mono ?_
  rintro e w' ⟨rfl, rfl⟩
  clear HI'
  go_wp2_with fail
  (refine wp_named ?_; intro w1 hw1)
  have hb1 : Below w.heap.size w w1 := by rw [hw1]; exact (by repeat (first | exact Below.refl _ _ | assumption | apply Below.drew | apply below_drewN | apply Bel.alloc | (refine Bel.setCell_ ?_ ?_; rotate_left; omega) | (refine Bel.step ?_ (by assumption))))
  have hx0 : w1.cell? ⟨w.heap.size, 0, none⟩ = some (.slice A n c) := by rw [hw1]; simp
  have hx1 : w1.cell? ⟨w.heap.size, 1, none⟩ = some (.int .i64 c0) := by rw [hw1]; simp
  have hg1 : w1.cell? ⟨0, 0, none⟩ = some errT := Below.cellOf hb1 (Nat.le_refl _) hg
  have hr1 := hr.below hb1
  have hch := Chain.below hb1 HCH.out
  have HCH1 := Lib.hid hch
  clear hch HCH hr hw1 hg
  go_loopw [0, 5] (fun u i W => ∃ (k : Nat), k ≤ n ∧ i = .int .i64 k ∧ Chain W u (ps.drop k) c0 ∧ Below w1.heap.size w1 W) (fun _ i _ => n - (intOf i).toNat)
  case atStart => exact ⟨0, Nat.zero_le _, rfl, HCH1.out, Below.refl _ _⟩
  case round =>
    obtain ⟨k, hk, rfl, hch, hbl⟩ := hrel
    have y0 := Below.cellOf hbl (Nat.le_refl _) hx0
    by_cases hlt : k < n
    · have hlen := hr1.1
      obtain ⟨p, hp⟩ : ∃ p, ps[k]? = some p := ⟨ps[k], List.getElem?_eq_getElem (by omega)⟩
      obtain ⟨pb, po, rfl, hp1, hp2⟩ := hr1.2 k p hp
      obtain ⟨b, o, u, rfl, hc1, hc2, hc3, hc4⟩ := chain_drop hp hch
      obtain ⟨tu, xu, hu⟩ := chain_not_nil hc4
      have HP := Lib.hid hp
      have H4 := Lib.hid hc4
      have z := hbl.size
      clear hp hch hlen hc4
      subst hu
      obtain ⟨s, q0⟩ := p
      go_wp2_with fail
      (refine wp_named ?_; intro W5 hW5)
      have hb5 : Below w1.heap.size w1 W5 := by rw [hW5]; exact (by repeat (first | exact Below.refl _ _ | assumption | apply Below.drew | apply below_drewN | apply Bel.alloc | (refine Bel.setCell_ ?_ ?_; rotate_left; omega) | (refine Bel.step ?_ (by assumption))))
      have hbr : Below wr.heap.size wr W5 := by rw [hW5]; exact (by repeat (first | exact Below.refl _ _ | assumption | apply Below.drew | apply below_drewN | apply Bel.alloc | (refine Bel.setCell_ ?_ ?_; rotate_left; omega) | (refine Bel.step ?_ (by assumption))))
      have ht5 : W5.cell? ⟨wr.heap.size, 0, none⟩ = some (.pointer none) := by rw [hW5]; simp
      have hf5 : W5.frozen? ⟨wr.heap.size, 0, none⟩ = false := by rw [hW5]; simp
      have hg5 := Below.cellOf hb5 (Nat.le_refl _) hg1
      have hz5 := lt_of_cell ht5
      have HA : ∀ V, Below W5.heap.size W5 V → Calls Tryd.prog 60 #[fltV b o, .iface 109 (.pointer (some ⟨wr.heap.size, 0, none⟩))] V fun ev w' => ev = .returned (.bool true) ∧ w'.cell? ⟨wr.heap.size, 0, none⟩ = some (.pointer (some ⟨b, o, none⟩)) ∧ Below wr.heap.size W5 w' := fun V hV =>
        (as_fault b o wr.heap.size _ V (Below.cellOf hV (Nat.le_refl _) hg5) (Below.cellOf hV (Nat.le_refl _) ht5) ((Below.frozenOf hV hz5).trans hf5)).mono fun _ _ ⟨h1, h2, h3⟩ => ⟨h1, h2, (hV.mono (Nat.le_of_lt hz5)).trans h3⟩
      have HA' := Lib.hid HA; clear HA
      clear hW5 hf5 hg5
      refine wp_region_held_drew (S := fun _ => True) (by kernel_rfl) trivial (fun _ => ?_)
      refine take_ (i := 0) (d := some 31) (v := ?_) rfl rfl (by kernel_rfl) (by kernel_rfl) (by kernel_rfl) (fun _ _ _ h => h) (by rfl) ?_ (by first | rfl | trivial | assumption) ?_
      rotate_left
      · (intro V hSw; (try (have hF := HSX.out V hSw)); (try (cases hSw)); (try go_split_ands); go_simp; try with_reducible rfl)
      simp only [Act.put, List.setIfInBounds_toArray, List.set_cons_zero, List.set_cons_succ]
      refine take_ (i := 1) (d := some 32) (v := ?_) rfl rfl (by kernel_rfl) (by kernel_rfl) (by kernel_rfl) (fun _ _ _ h => h) (by rfl) ?_ (by first | rfl | trivial | assumption) ?_
      rotate_left
      · (intro V hSw; (try (have hF := HSX.out V hSw)); (try (cases hSw)); (try go_split_ands); go_simp; try with_reducible rfl)
      simp only [Act.put, List.setIfInBounds_toArray, List.set_cons_zero, List.set_cons_succ]
      refine wpAnyH_ready (rs := [2]) (by kernel_rfl) (by simp) ?_
      refine AllReadyH.cons (o := _) rfl (fun K hK => ?_) AllReadyH.nil
      go_simp
      go_at_call 60
      with_reducible refine (HA'.out _ (by repeat (first | exact Below.refl _ _ | assumption | apply Below.drew | apply below_drewN | apply Bel.alloc | (refine Bel.setCell_ ?_ ?_; rotate_left; omega) | (refine Bel.step ?_ (by assumption))))).mono ?_
      rintro e w6 ⟨rfl, ht6, hb6⟩
      have hb7 : Below wr.heap.size wr w6 := hbr.trans hb6
      have c6 := Below.cellOf hb7 (Nat.le_refl _) hc1
      have d6 := Below.cellOf hb7 (Nat.le_refl _) hc2
      have e6 := Below.cellOf hb7 (Nat.le_refl _) hc3
      have y6 := Below.cellOf hb7 (Nat.le_refl _) y0
      have p6 := Below.cellOf hb7 (Nat.le_refl _) (Below.cellOf hbl (Nat.le_refl _) hp1)
      have q6 := Below.cellOf hb7 (Nat.le_refl _) (Below.cellOf hbl (Nat.le_refl _) hp2)
      go_wp2_with fail
      refine hK.out _ _ trivial (fun _ => ?_)
      clear hK K
      refine wpAnyH_mono (S' := fun V => V = w6) (fun _ _ => trivial) _ _ _ _ ?_
      have i1 : (0 : Int) ≤ (k : Int) := by omega
      have i2 : (k : Int) < (n : Int) := by omega
      clear hc1 hc2 hc3 y0 hp1 hp2 HA' hx1 hb5 hbr ht5 hz5
      refine take_ (i := 3) (d := some 34) (v := ?_) rfl rfl (by kernel_rfl) (by kernel_rfl) (by kernel_rfl) (fun _ _ _ h => h) (by rfl) ?_ (by first | rfl | trivial | assumption) ?_
      rotate_left
      · (intro V hSw; (try (have hF := HSX.out V hSw)); (try (cases hSw)); (try go_split_ands); go_simp; try with_reducible rfl)
      simp only [Act.put, List.setIfInBounds_toArray, List.set_cons_zero, List.set_cons_succ]
      refine take_ (i := 4) (d := some 35) (v := ?_) rfl rfl (by kernel_rfl) (by kernel_rfl) (by kernel_rfl) (fun _ _ _ h => h) (by rfl) ?_ (by first | rfl | trivial | assumption) ?_
      rotate_left
      · (intro V hSw; (try (have hF := HSX.out V hSw)); (try (cases hSw)); (try go_split_ands); go_simp; try with_reducible rfl)
      simp only [Act.put, List.setIfInBounds_toArray, List.set_cons_zero, List.set_cons_succ]
      refine take_ (i := 5) (d := some 36) (v := ?_) rfl rfl (by kernel_rfl) (by kernel_rfl) (by kernel_rfl) (fun _ _ _ h => h) (by rfl) ?_ (by first | rfl | trivial | assumption) ?_
      rotate_left
      · (intro V hSw; (try (have hF := HSX.out V hSw)); (try (cases hSw)); (try go_split_ands); go_simp; try with_reducible rfl)
      simp only [Act.put, List.setIfInBounds_toArray, List.set_cons_zero, List.set_cons_succ]
      refine take_ (i := 6) (d := some 37) (v := ?_) rfl rfl (by kernel_rfl) (by kernel_rfl) (by kernel_rfl) (fun _ _ _ h => h) (by rfl) ?_ (by first | rfl | trivial | assumption) ?_
      rotate_left
      · (intro V hSw; (try (have hF := HSX.out V hSw)); (try (cases hSw)); (try go_split_ands); go_simp; try with_reducible rfl)
      simp only [Act.put, List.setIfInBounds_toArray, List.set_cons_zero, List.set_cons_succ]
      refine take_ (i := 7) (d := some 38) (v := ?_) rfl rfl (by kernel_rfl) (by kernel_rfl) (by kernel_rfl) (fun _ _ _ h => h) (by rfl) ?_ (by first | rfl | trivial | assumption) ?_
      rotate_left
      · (intro V hSw; (try (have hF := HSX.out V hSw)); (try (cases hSw)); (try go_split_ands); go_simp; try with_reducible rfl)
      simp only [Act.put, List.setIfInBounds_toArray, List.set_cons_zero, List.set_cons_succ]
      refine take_ (i := 8) (d := some 39) (v := ?_) rfl rfl (by kernel_rfl) (by kernel_rfl) (by kernel_rfl) (fun _ _ _ h => h) (by rfl) ?_ (by first | rfl | trivial | assumption) ?_
      rotate_left
      · (intro V hSw; (try (have hF := HSX.out V hSw)); (try (cases hSw)); (try go_split_ands); go_simp; try with_reducible rfl)
      simp only [Act.put, List.setIfInBounds_toArray, List.set_cons_zero, List.set_cons_succ]
      refine take_ (i := 9) (d := some 40) (v := ?_) rfl rfl (by kernel_rfl) (by kernel_rfl) (by kernel_rfl) (fun _ _ _ h => h) (by rfl) ?_ (by first | rfl | trivial | assumption) ?_
      rotate_left
      · (intro V hSw; (try (have hF := HSX.out V hSw)); (try (cases hSw)); (try go_split_ands); go_simp; try with_reducible rfl)
      simp only [Act.put, List.setIfInBounds_toArray, List.set_cons_zero, List.set_cons_succ]
      refine take_ (i := 10) (d := some 41) (v := ?_) rfl rfl (by kernel_rfl) (by kernel_rfl) (by kernel_rfl) (fun _ _ _ h => h) (by rfl) ?_ (by first | rfl | trivial | assumption) ?_
      rotate_left
      · (intro V hSw; (try (have hF := HSX.out V hSw)); (try (cases hSw)); (try go_split_ands); go_simp; try with_reducible rfl)
      simp only [Act.put, List.setIfInBounds_toArray, List.set_cons_zero, List.set_cons_succ]
      refine take_ (i := 11) (d := some 42) (v := ?_) rfl rfl (by kernel_rfl) (by kernel_rfl) (by kernel_rfl) (fun _ _ _ h => h) (by rfl) ?_ (by first | rfl | trivial | assumption) ?_
      rotate_left
      · (intro V hSw; (try (have hF := HSX.out V hSw)); (try (cases hSw)); (try go_split_ands); go_simp; try with_reducible rfl)
      simp only [Act.put, List.setIfInBounds_toArray, List.set_cons_zero, List.set_cons_succ]
      refine take_ (i := 12) (d := some 43) (v := ?_) rfl rfl (by kernel_rfl) (by kernel_rfl) (by kernel_rfl) (fun _ _ _ h => h) (by rfl) ?_ (by first | rfl | trivial | assumption) ?_
      rotate_left
      · (intro V hSw; (try (have hF := HSX.out V hSw)); (try (cases hSw)); (try go_split_ands); go_simp; try with_reducible rfl)
      simp only [Act.put, List.setIfInBounds_toArray, List.set_cons_zero, List.set_cons_succ]
      refine take_ (i := 13) (d := some 44) (v := ?_) rfl rfl (by kernel_rfl) (by kernel_rfl) (by kernel_rfl) (fun _ _ _ h => h) (by rfl) ?_ (by first | rfl | trivial | assumption) ?_
      rotate_left
      · (intro V hSw; (try (have hF := HSX.out V hSw)); (try (cases hSw)); (try go_split_ands); go_simp; try with_reducible rfl)
      simp only [Act.put, List.setIfInBounds_toArray, List.set_cons_zero, List.set_cons_succ]
      refine take_ (i := 14) (d := some 45) (v := ?_) rfl rfl (by kernel_rfl) (by kernel_rfl) (by kernel_rfl) (fun _ _ _ h => h) (by rfl) ?_ (by first | rfl | trivial | assumption) ?_
      rotate_left
      · (intro V hSw; (try (have hF := HSX.out V hSw)); (try (cases hSw)); (try go_split_ands); go_simp; try with_reducible rfl)
      simp only [Act.put, List.setIfInBounds_toArray, List.set_cons_zero, List.set_cons_succ]
      refine take_ (i := 15) (d := some 46) (v := ?_) rfl rfl (by kernel_rfl) (by kernel_rfl) (by kernel_rfl) (fun _ _ _ h => h) (by rfl) ?_ (by first | rfl | trivial | assumption) ?_
      rotate_left
      · (intro V hSw; (try (have hF := HSX.out V hSw)); (try (cases hSw)); (try go_split_ands); go_simp; try with_reducible rfl)
      simp only [Act.put, List.setIfInBounds_toArray, List.set_cons_zero, List.set_cons_succ]
      refine take_ (i := 16) (d := some 47) (v := ?_) rfl rfl (by kernel_rfl) (by kernel_rfl) (by kernel_rfl) (fun _ _ _ h => h) (by rfl) ?_ (by first | rfl | trivial | assumption) ?_
      rotate_left
      · (intro V hSw; (try (have hF := HSX.out V hSw)); (try (cases hSw)); (try go_split_ands); go_simp; try with_reducible rfl)
      simp only [Act.put, List.setIfInBounds_toArray, List.set_cons_zero, List.set_cons_succ]
      refine take_ (i := 17) (d := some 48) (v := ?_) rfl rfl (by kernel_rfl) (by kernel_rfl) (by kernel_rfl) (fun _ _ _ h => h) (by rfl) ?_ (by first | rfl | trivial | assumption) ?_
      rotate_left
      · (intro V hSw; (try (have hF := HSX.out V hSw)); (try (cases hSw)); (try go_split_ands); go_simp; try with_reducible rfl)
      simp only [Act.put, List.setIfInBounds_toArray, List.set_cons_zero, List.set_cons_succ]
      refine take_ (i := 18) (d := some 49) (v := ?_) rfl rfl (by kernel_rfl) (by kernel_rfl) (by kernel_rfl) (fun _ _ _ h => h) (by rfl) ?_ (by first | rfl | trivial | assumption) ?_
      rotate_left
      · (intro V hSw; (try (have hF := HSX.out V hSw)); (try (cases hSw)); (try go_split_ands); go_simp; try with_reducible rfl)
      simp only [Act.put, List.setIfInBounds_toArray, List.set_cons_zero, List.set_cons_succ]
      refine take_ (i := 19) (d := some 50) (v := ?_) rfl rfl (by kernel_rfl) (by kernel_rfl) (by kernel_rfl) (fun _ _ _ h => h) (by rfl) ?_ (by first | rfl | trivial | assumption) ?_
      rotate_left
      · (intro V hSw; (try (have hF := HSX.out V hSw)); (try (cases hSw)); (try go_split_ands); go_simp; try with_reducible rfl)
      simp only [Act.put, List.setIfInBounds_toArray, List.set_cons_zero, List.set_cons_succ]
      refine take_ (i := 20) (d := some 51) (v := ?_) rfl rfl (by kernel_rfl) (by kernel_rfl) (by kernel_rfl) (fun _ _ _ h => h) (by rfl) ?_ (by first | rfl | trivial | assumption) ?_
      rotate_left
      · (intro V hSw; (try (have hF := HSX.out V hSw)); (try (cases hSw)); (try go_split_ands); go_simp; try with_reducible rfl)
      simp only [Act.put, List.setIfInBounds_toArray, List.set_cons_zero, List.set_cons_succ]
      refine take_ (i := 21) (d := some 52) (v := ?_) rfl rfl (by kernel_rfl) (by kernel_rfl) (by kernel_rfl) (fun _ _ _ h => h) (by rfl) ?_ (by first | rfl | trivial | assumption) ?_
      rotate_left
      · (intro V hSw; (try (have hF := HSX.out V hSw)); (try (cases hSw)); (try go_split_ands); go_simp; try with_reducible rfl)
      simp only [Act.put, List.setIfInBounds_toArray, List.set_cons_zero, List.set_cons_succ]
      refine take_ (i := 22) (d := some 53) (v := ?_) rfl rfl (by kernel_rfl) (by kernel_rfl) (by kernel_rfl) (fun _ _ _ h => h) (by rfl) ?_ (by first | rfl | trivial | assumption) ?_
      rotate_left
      · (intro V hSw; (try (have hF := HSX.out V hSw)); (try (cases hSw)); (try go_split_ands); go_simp; try with_reducible rfl)
      simp only [Act.put, List.setIfInBounds_toArray, List.set_cons_zero, List.set_cons_succ]
      refine take_ (i := 23) (d := some 54) (v := ?_) rfl rfl (by kernel_rfl) (by kernel_rfl) (by kernel_rfl) (fun _ _ _ h => h) (by rfl) ?_ (by first | rfl | trivial | assumption) ?_
      rotate_left
      · (intro V hSw; (try (have hF := HSX.out V hSw)); (try (cases hSw)); (try go_split_ands); go_simp; try with_reducible rfl)
      simp only [Act.put, List.setIfInBounds_toArray, List.set_cons_zero, List.set_cons_succ]
      refine take_ (i := 24) (d := some 55) (v := ?_) rfl rfl (by kernel_rfl) (by kernel_rfl) (by kernel_rfl) (fun _ _ _ h => h) (by rfl) ?_ (by first | rfl | trivial | assumption) ?_
      rotate_left
      · (intro V hSw; (try (have hF := HSX.out V hSw)); (try (cases hSw)); (try go_split_ands); go_simp; try with_reducible rfl)
      simp only [Act.put, List.setIfInBounds_toArray, List.set_cons_zero, List.set_cons_succ]
      refine take_ (i := 25) (d := some 56) (v := ?_) rfl rfl (by kernel_rfl) (by kernel_rfl) (by kernel_rfl) (fun _ _ _ h => h) (by rfl) ?_ (by first | rfl | trivial | assumption) ?_
      rotate_left
      · (intro V hSw; (try (have hF := HSX.out V hSw)); (try (cases hSw)); (try go_split_ands); go_simp; try with_reducible rfl)
      simp only [Act.put, List.setIfInBounds_toArray, List.set_cons_zero, List.set_cons_succ]
      refine take_ (i := 26) (d := some 57) (v := ?_) rfl rfl (by kernel_rfl) (by kernel_rfl) (by kernel_rfl) (fun _ _ _ h => h) (by rfl) ?_ (by first | rfl | trivial | assumption) ?_
      rotate_left
      · (intro V hSw; (try (have hF := HSX.out V hSw)); (try (cases hSw)); (try go_split_ands); go_simp; try with_reducible rfl)
      simp only [Act.put, List.setIfInBounds_toArray, List.set_cons_zero, List.set_cons_succ]
      refine take_ (i := 27) (d := some 58) (v := ?_) rfl rfl (by kernel_rfl) (by kernel_rfl) (by kernel_rfl) (fun _ _ _ h => h) (by rfl) ?_ (by first | rfl | trivial | assumption) ?_
      rotate_left
      · (intro V hSw; (try (have hF := HSX.out V hSw)); (try (cases hSw)); (try go_split_ands); go_simp; try with_reducible rfl)
      simp only [Act.put, List.setIfInBounds_toArray, List.set_cons_zero, List.set_cons_succ]
      refine take_ (i := 28) (d := some 59) (v := ?_) rfl rfl (by kernel_rfl) (by kernel_rfl) (by kernel_rfl) (fun _ _ _ h => h) (by rfl) ?_ (by first | rfl | trivial | assumption) ?_
      rotate_left
      · (intro V hSw; (try (have hF := HSX.out V hSw)); (try (cases hSw)); (try go_split_ands); go_simp; try with_reducible rfl)
      simp only [Act.put, List.setIfInBounds_toArray, List.set_cons_zero, List.set_cons_succ]
      refine take_ (i := 29) (d := some 60) (v := ?_) rfl rfl (by kernel_rfl) (by kernel_rfl) (by kernel_rfl) (fun _ _ _ h => h) (by rfl) ?_ (by first | rfl | trivial | assumption) ?_
      rotate_left
      · (intro V hSw; (try (have hF := HSX.out V hSw)); (try (cases hSw)); (try go_split_ands); go_simp; try with_reducible rfl)
      simp only [Act.put, List.setIfInBounds_toArray, List.set_cons_zero, List.set_cons_succ]
      refine take_ (i := 30) (d := some 61) (v := ?_) rfl rfl (by kernel_rfl) (by kernel_rfl) (by kernel_rfl) (fun _ _ _ h => h) (by rfl) ?_ (by first | rfl | trivial | assumption) ?_
      rotate_left
      · (intro V hSw; (try (have hF := HSX.out V hSw)); (try (cases hSw)); (try go_split_ands); go_simp; try with_reducible rfl)
      simp only [Act.put, List.setIfInBounds_toArray, List.set_cons_zero, List.set_cons_succ]
      refine take_ (i := 31) (d := some 62) (v := ?_) rfl rfl (by kernel_rfl) (by kernel_rfl) (by kernel_rfl) (fun _ _ _ h => h) (by rfl) ?_ (by first | rfl | trivial | assumption) ?_
      rotate_left
      · (intro V hSw; (try (have hF := HSX.out V hSw)); (try (cases hSw)); (try go_split_ands); go_simp; try with_reducible rfl)
      simp only [Act.put, List.setIfInBounds_toArray, List.set_cons_zero, List.set_cons_succ]
      refine take_ (i := 32) (d := some 63) (v := ?_) rfl rfl (by kernel_rfl) (by kernel_rfl) (by kernel_rfl) (fun _ _ _ h => h) (by rfl) ?_ (by first | rfl | trivial | assumption) ?_
      rotate_left
      · (intro V hSw; (try (have hF := HSX.out V hSw)); (try (cases hSw)); (try go_split_ands); go_simp; try with_reducible rfl)
      simp only [Act.put, List.setIfInBounds_toArray, List.set_cons_zero, List.set_cons_succ]
      refine take_ (i := 33) (d := some 64) (v := ?_) rfl rfl (by kernel_rfl) (by kernel_rfl) (by kernel_rfl) (fun _ _ _ h => h) (by rfl) ?_ (by first | rfl | trivial | assumption) ?_
      rotate_left
      · (intro V hSw; (try (have hF := HSX.out V hSw)); (try (cases hSw)); (try go_split_ands); go_simp; try with_reducible rfl)
      simp only [Act.put, List.setIfInBounds_toArray, List.set_cons_zero, List.set_cons_succ]
      refine wpAnyH_done (by kernel_rfl) ?_ _
      go_wp2_with fail
      exact ⟨⟨k + 1, by omega, by go_num, Chain.below hb7 H4.out, Bel.step hbl hb7⟩, by simp [intOf]; omega⟩
    · obtain rfl : k = n := by omega
      rw [List.drop_of_length_le (by have := hr1.1; omega)] at hch
      unfold Chain at hch
      subst hch
      have x1 := Below.cellOf hbl (Nat.le_refl _) hx1
      have gr := Below.cellOf hbl (Nat.le_refl _) hg1
      have z := hbl.size
      clear hx0 hr1 hx1
      go_wp2_with fail
      (refine calls_named ?_; intro W5 hW5)
      have hbr : Below wr.heap.size wr W5 := by rw [hW5]; exact (by repeat (first | exact Below.refl _ _ | assumption | apply Below.drew | apply below_drewN | apply Bel.alloc | (refine Bel.setCell_ ?_ ?_; rotate_left; omega) | (refine Bel.step ?_ (by assumption))))
      have ht5 : W5.cell? ⟨wr.heap.size + 1, 0, none⟩ = some (.int .i64 0) := by rw [hW5]; simp
      have hf5 : W5.frozen? ⟨wr.heap.size + 1, 0, none⟩ = false := by rw [hW5]; simp
      have g5 := Below.cellOf hbr (Nat.le_refl _) gr
      have z5 := lt_of_cell ht5
      clear hW5
      with_reducible refine (as_none c0 wr.heap.size _ g5).mono ?_
      rintro e w6 ⟨rfl, hb6⟩
      have hb56 := hbr.trans (hb6.mono hbr.size)
      go_wp2_with fail
      with_reducible refine (as_errno c0 (wr.heap.size + 1) _ _ (Below.cellOf hb6 (Nat.le_refl _) g5) (Below.cellOf hb6 (Nat.le_refl _) ht5) ((Below.frozenOf hb6 z5).trans hf5)).mono ?_
      rintro e w7 ⟨rfl, ht7, hb7⟩
      have hb8 : Below wr.heap.size wr w7 := hb56.trans (hb7.mono (Nat.le_succ _))
      have x7 := Below.cellOf hb8 (Nat.le_refl _) x1
      clear hb6 hb7 hb56 ht5 hf5
      go_wp2_with fail
      go_ret
      exact ⟨rfl, (by repeat (first | exact Below.refl _ _ | assumption | apply Below.drew | apply below_drewN | apply Bel.alloc | (refine Bel.setCell_ ?_ ?_; rotate_left; omega) | (refine Bel.step ?_ (by assumption))))⟩
end Go.Proofs.YtjphjbchhhembaaDoor
