/- Parts of the proof: Ch2, Ch3. -/
import Derived.Test.YtgkeolddpielpaaGreatDoorM14
/- turn.With. -/
namespace Go.Proofs.YtgkeolddpielpaaGreatDoor
open Go.RowKit

attribute [local go_sem ↓] Go.wp_at_zero Go.wp_at_succ

theorem Own.setAt {W : World} {B n c k s g o : Nat} {e : TypeId} {xs : List Value} (h : Own W B e s (some ⟨g, o, none⟩) n c xs) (v : Value) : Own (W.setCell ⟨g, o + k, none⟩ v) B e s (some ⟨g, o, none⟩) n c (xs.set k v) := by
  refine ⟨by rw [List.length_set]; exact h.1, ?_⟩
  rcases h.2 with ⟨h', _⟩ | ⟨g', cap', cur, h1, h2, h3, h4, h5, h6, h7⟩
  · cases h'
  · cases h1
    refine Or.inr ⟨g, c, cur.setIfInBounds (0 + k) v, rfl, h2, (show Blk W g e cur from h3).set_ (0 + k) _, h4, h5, by simpa using h6, ?_⟩
    rw [Array.toList_setIfInBounds, List.take_set, h7, Nat.zero_add]
theorem icells_setAt (l : List Int) (k : Nat) (x : Int) : (icells l).set k (.int .i64 x) = icells (l.set k x) := by simp [icells, List.map_set]
/-- The place of a turn in its table. -/
theorem turn_at {p q n i o : Nat} (hn : (n : Int) = (p : Int) * (q : Int)) (hi : i < p) (ho : o < q) : i * q + o < n := by
  have h1 : n = p * q := by exact_mod_cast hn
  have h2 : (i + 1) * q ≤ p * q := Nat.mul_le_mul_right _ hi
  rw [Nat.add_mul, Nat.one_mul] at h2
  omega

set_option maxHeartbeats 1000000 in
theorem tWith_ok (A : Option Addr) (n c p q i o : Nat) (cs : List Int) (u : Int) (w : World) (h : RdI w A n cs) (ht : TabOk ⟨p, q, cs⟩) (hi : i < p) (ho : o < q) (hu : wOk u = true) :
    Calls Tryz.prog 84 #[.agg #[.int .i64 p, .int .i64 q, .slice A n c], .int .i64 i, .int .i64 o, .int .i64 u] w fun e w' => ∃ A' c', e = .returned (.tuple #[.agg #[.int .i64 p, .int .i64 q, .slice A' n c'], .nilIface]) ∧ Own w' w.heap.size 2 1 A' n c' (icells (cs.set (i * q + o) u)) ∧ Below w.heap.size w w' := by
  have hlen : (n : Int) = (p : Int) * (q : Int) := by have := ht.len; simp only at this; rw [h.1] at this; exact this
  have hkn := turn_at hlen hi ho
  have hm := mul_bd ht.i0 ht.i16 ht.o0 ht.o16
  simp only at hm
  have hn : n ≤ 256 := by omega
  have HCK := Lib.hid (fun (V : World) (hV : Below w.heap.size w V) => turnCheck_ok A n c ⟨p, q, cs⟩ V (h.below hV) ht)
  simp only at HCK
  have HCL := Lib.hid (fun (V : World) (hV : Below w.heap.size w V) => cloneL_any A n c (icells cs) V ((h.below hV).rdsI) (icells_one _) (by omega))
  have HW := Lib.hid (show ∀ V, Calls Tryz.prog 81 #[.int .i64 u] V fun e w' => e = .returned (.bool true) ∧ V = w' from fun V => by
    have := costWeight_any u V
    rw [hu] at this
    exact this)
  have hq16 : q ≤ 16 := by have := ht.o16; simp only at this; omega
  have hp16 : p ≤ 16 := by have := ht.i16; simp only at this; omega
  obtain ⟨k0, hk0⟩ : ∃ k0, k0 = i * q := ⟨_, rfl⟩
  obtain ⟨k, hk⟩ : ∃ k, k = i * q + o := ⟨_, rfl⟩
  rw [← hk] at hkn
  have m1 : (i : Int) * (q : Int) = (k0 : Int) := by rw [hk0]; simp
  have m2 : (k0 : Int) + (o : Int) = (k : Int) := by omega
  have wk0 : IntKind.i64.wrap (k0 : Int) = (k0 : Int) := IntWalk.i64_in _ (by omega)
  have wk : IntKind.i64.wrap (k : Int) = (k : Int) := IntWalk.i64_in _ (by omega)
  have i1 : ¬ ((i : Int) < 0) := by omega
  have i2 : ¬ ((p : Int) ≤ (i : Int)) := by omega
  have i3 : ¬ ((o : Int) < 0) := by omega
  have i4 : ¬ ((q : Int) ≤ (o : Int)) := by omega
  have i5 : (0 : Int) ≤ (k : Int) := by omega
  have i6 : (k : Int) < (n : Int) := by omega
  rw [← hk]
  have HKN := Lib.hid hkn
  clear h ht hu hlen hm hk0 hk hkn hi ho hq16 hp16
  go_enter Tryz.func84, Tryz.ntmps84
  go_wp2_with fail
  with_reducible refine (HW.out _).mono ?_
  rintro r w' ⟨rfl, rfl⟩
  go_wp2_with fail
  (refine calls_named ?_; intro w1 hw1)
  have hb1 : Below w.heap.size w w1 := by rw [hw1]; exact (by repeat (first | exact Below.refl _ _ | assumption | apply Below.drew | apply below_drewN | apply Bel.alloc | (refine Bel.setCell_ ?_ ?_; rotate_left; omega) | (refine Bel.step ?_ (by assumption))))
  have hT1 : Blk w1 w.heap.size 129 #[.int .i64 p, .int .i64 q, .slice A n c] := by rw [hw1]; exact (by repeat (first | assumption | (refine Blk.new' _ _ _ ?_; first | with_unfolding_all rfl | (simp; done)) | apply Blk.drewN | apply Blk.drew | apply Blk.alloc | (refine Blk.far_ ?_ ?_ _; rotate_left; omega)))
  have hR1 : Blk w1 (w.heap.size + 1) 129 #[.int .i64 0, .int .i64 0, .slice none 0 0] := by rw [hw1]; exact (by repeat (first | assumption | (refine Blk.new' _ _ _ ?_; first | with_unfolding_all rfl | (simp; done)) | apply Blk.drewN | apply Blk.drew | apply Blk.alloc | (refine Blk.far_ ?_ ?_ _; rotate_left; omega)))
  have hz1 : w.heap.size + 2 ≤ w1.heap.size := by rw [hw1]; simp
  clear hw1
  with_reducible refine (HCK.out w1 hb1).mono ?_
  rintro r w2 ⟨rfl, hb2⟩
  have hb2' := Bel.step hb1 hb2
  have hT2 := hT1.below hb2 hT1.lt
  have hR2 := hR1.below hb2 hR1.lt
  have hz2 : w.heap.size + 2 ≤ w2.heap.size := Nat.le_trans hz1 hb2.size
  clear hT1 hR1 hb1 hb2 hz1
  obtain ⟨t0, t1, t2⟩ := hT2.three
  go_wp2_with fail
  with_reducible refine (HCL.out w2 hb2').mono ?_
  rintro r w3 ⟨A3, c3, rfl, hown, hb3⟩
  have hb3' := Bel.step hb2' hb3
  have hT3 := hT2.below hb3 hT2.lt
  have hR3 := hR2.below hb3 hR2.lt
  have hz3 : w.heap.size + 2 ≤ w3.heap.size := Nat.le_trans hz2 hb3.size
  have hown := hown.mono hz2
  clear hT2 hR2 hb2' hb3 hz2 t0 t1 t2
  obtain ⟨gb, cur, rfl, hg0, hgb, _, hcz, hcu⟩ := hown.block (by have := HKN.out; omega)
  obtain ⟨t0, t1, t2⟩ := hT3.three
  have ft2 := hT3.frozen 2
  have ne1 : ¬ gb = w.heap.size := by omega
  have ne2 : ¬ w.heap.size = gb := by omega
  obtain ⟨v0, hv0⟩ : ∃ v0, cur[k]? = some v0 := ⟨_, Array.getElem?_eq_getElem (by have := HKN.out; omega)⟩
  have ck : w3.cell? ⟨gb, k, none⟩ = some v0 := by rw [hgb.cell]; exact hv0
  have fk := hgb.frozen k
  obtain ⟨r0, r1, r2⟩ := hR3.three
  have fr0 := hR3.frozen 0
  have fr1 := hR3.frozen 1
  have fr2 := hR3.frozen 2
  have hO1 : Own (w3.setCell ⟨w.heap.size, 2, none⟩ (.slice (some ⟨gb, 0, none⟩) n c3)) (w.heap.size + 2) 2 1 (some ⟨gb, 0, none⟩) n c3 (icells cs) := ownsRow_setCell_below hown (by simp only; omega) _
  have HO := Lib.hid (hO1.setAt (k := k) (.int .i64 u))
  clear hO1
  clear hown hgb hcz hcu hv0
  go_wp2_with fail
  refine bodyPost_ret (v := .tuple #[.agg #[.int .i64 p, .int .i64 q, .slice (some ⟨gb, 0, none⟩) n c3], .nilIface]) (by simp [results, Tryz.results84, go_sem, r0, r1, r2]) rfl ?_
  refine ⟨_, _, rfl, ?_, ((((hb3'.setCell (Nat.le_refl _) _).setCell (by simp only; omega) _).setCell (by simp only; omega) _).setCell (by simp only; omega) _).setCell (by simp only; omega) _⟩
  have h1 := HO.out
  rw [Nat.zero_add, icells_setAt] at h1
  exact Own.mono (ownsRow_setCell_below (ownsRow_setCell_below (ownsRow_setCell_below h1 (a := ⟨w.heap.size + 1, 0, none⟩) (by simp only; omega) _) (a := ⟨w.heap.size + 1, 1, none⟩) (by simp only; omega) _) (a := ⟨w.heap.size + 1, 2, none⟩) (by simp only; omega) _) (by omega)
/-- What a turn that can't be changed is told as. -/
def withNo (p q i o u : Int) : Option (Int × Int) := if i < 0 ∨ p ≤ i then some (0, 5) else if o < 0 ∨ q ≤ o then some (1, 5) else if wOk u = false then some (2, 8) else none
set_option maxHeartbeats 1000000 in
theorem tWith_no (A : Option Addr) (n c : Nat) (p q i o u x y : Int) (w : World) (h : withNo p q i o u = some (x, y)) :
    Calls Tryz.prog 84 #[.agg #[.int .i64 p, .int .i64 q, .slice A n c], .int .i64 i, .int .i64 o, .int .i64 u] w fun e w' => ∃ v, e = .returned (.tuple #[.agg #[.int .i64 0, .int .i64 0, .slice none 0 0], v]) ∧ Chain w' v [((⟨#[116, 117, 114, 110]⟩ : ByteArray), x)] y ∧ Below w.heap.size w w' := by
  unfold withNo at h
  by_cases i1 : i < 0
  · rw [if_pos (.inl i1)] at h
    cases h
    go_enter Tryz.func84, Tryz.ntmps84
    go_wp2_with fail
    (refine calls_named ?_; intro w1 hw1)
    have hb1 : Below w.heap.size w w1 := by rw [hw1]; exact (by repeat (first | exact Below.refl _ _ | assumption | apply Below.drew | apply below_drewN | apply Bel.alloc | (refine Bel.setCell_ ?_ ?_; rotate_left; omega) | (refine Bel.step ?_ (by assumption))))
    have hR1 : Blk w1 (w.heap.size + 1) 129 #[.int .i64 0, .int .i64 0, .slice none 0 0] := by rw [hw1]; exact (by repeat (first | assumption | (refine Blk.new' _ _ _ ?_; first | with_unfolding_all rfl | (simp; done)) | apply Blk.drewN | apply Blk.drew | apply Blk.alloc | (refine Blk.far_ ?_ ?_ _; rotate_left; omega)))
    have hz1 : w.heap.size + 2 ≤ w1.heap.size := by rw [hw1]; simp
    clear hw1
    with_reducible refine (tFault_x _ _ _).mono ?_
    rintro r w2 ⟨rfl, hc, hb⟩
    have hb2 := Bel.step hb1 hb
    have hR2 := hR1.below hb hR1.lt
    clear hb hR1 hb1
    obtain ⟨r0, r1, r2⟩ := hR2.three
    have fr0 := hR2.frozen 0
    have fr1 := hR2.frozen 1
    have fr2 := hR2.frozen 2
    go_wp2_with fail
    refine bodyPost_ret (v := .tuple #[.agg #[.int .i64 0, .int .i64 0, .slice none 0 0], fltV w1.heap.size 0]) (by simp [results, Tryz.results84, go_sem, r0, r1, r2]) rfl ?_
    exact ⟨_, rfl, blk_chain (((hc.far (by simp only; omega) _).far (by simp only; omega) _).far (by simp only; omega) _), ((hb2.setCell (by simp only; omega) _).setCell (by simp only; omega) _).setCell (by simp only; omega) _⟩
  by_cases i2 : p ≤ i
  · rw [if_pos (.inr i2)] at h
    cases h
    go_enter Tryz.func84, Tryz.ntmps84
    go_wp2_with fail
    (refine calls_named ?_; intro w1 hw1)
    have hb1 : Below w.heap.size w w1 := by rw [hw1]; exact (by repeat (first | exact Below.refl _ _ | assumption | apply Below.drew | apply below_drewN | apply Bel.alloc | (refine Bel.setCell_ ?_ ?_; rotate_left; omega) | (refine Bel.step ?_ (by assumption))))
    have hR1 : Blk w1 (w.heap.size + 1) 129 #[.int .i64 0, .int .i64 0, .slice none 0 0] := by rw [hw1]; exact (by repeat (first | assumption | (refine Blk.new' _ _ _ ?_; first | with_unfolding_all rfl | (simp; done)) | apply Blk.drewN | apply Blk.drew | apply Blk.alloc | (refine Blk.far_ ?_ ?_ _; rotate_left; omega)))
    have hz1 : w.heap.size + 2 ≤ w1.heap.size := by rw [hw1]; simp
    clear hw1
    with_reducible refine (tFault_x _ _ _).mono ?_
    rintro r w2 ⟨rfl, hc, hb⟩
    have hb2 := Bel.step hb1 hb
    have hR2 := hR1.below hb hR1.lt
    clear hb hR1 hb1
    obtain ⟨r0, r1, r2⟩ := hR2.three
    have fr0 := hR2.frozen 0
    have fr1 := hR2.frozen 1
    have fr2 := hR2.frozen 2
    go_wp2_with fail
    refine bodyPost_ret (v := .tuple #[.agg #[.int .i64 0, .int .i64 0, .slice none 0 0], fltV w1.heap.size 0]) (by simp [results, Tryz.results84, go_sem, r0, r1, r2]) rfl ?_
    exact ⟨_, rfl, blk_chain (((hc.far (by simp only; omega) _).far (by simp only; omega) _).far (by simp only; omega) _), ((hb2.setCell (by simp only; omega) _).setCell (by simp only; omega) _).setCell (by simp only; omega) _⟩
  rw [if_neg (by omega)] at h
  by_cases o1 : o < 0
  · rw [if_pos (.inl o1)] at h
    cases h
    go_enter Tryz.func84, Tryz.ntmps84
    go_wp2_with fail
    (refine calls_named ?_; intro w1 hw1)
    have hb1 : Below w.heap.size w w1 := by rw [hw1]; exact (by repeat (first | exact Below.refl _ _ | assumption | apply Below.drew | apply below_drewN | apply Bel.alloc | (refine Bel.setCell_ ?_ ?_; rotate_left; omega) | (refine Bel.step ?_ (by assumption))))
    have hR1 : Blk w1 (w.heap.size + 1) 129 #[.int .i64 0, .int .i64 0, .slice none 0 0] := by rw [hw1]; exact (by repeat (first | assumption | (refine Blk.new' _ _ _ ?_; first | with_unfolding_all rfl | (simp; done)) | apply Blk.drewN | apply Blk.drew | apply Blk.alloc | (refine Blk.far_ ?_ ?_ _; rotate_left; omega)))
    have hz1 : w.heap.size + 2 ≤ w1.heap.size := by rw [hw1]; simp
    clear hw1
    with_reducible refine (tFault_x _ _ _).mono ?_
    rintro r w2 ⟨rfl, hc, hb⟩
    have hb2 := Bel.step hb1 hb
    have hR2 := hR1.below hb hR1.lt
    clear hb hR1 hb1
    obtain ⟨r0, r1, r2⟩ := hR2.three
    have fr0 := hR2.frozen 0
    have fr1 := hR2.frozen 1
    have fr2 := hR2.frozen 2
    go_wp2_with fail
    refine bodyPost_ret (v := .tuple #[.agg #[.int .i64 0, .int .i64 0, .slice none 0 0], fltV w1.heap.size 0]) (by simp [results, Tryz.results84, go_sem, r0, r1, r2]) rfl ?_
    exact ⟨_, rfl, blk_chain (((hc.far (by simp only; omega) _).far (by simp only; omega) _).far (by simp only; omega) _), ((hb2.setCell (by simp only; omega) _).setCell (by simp only; omega) _).setCell (by simp only; omega) _⟩
  by_cases o2 : q ≤ o
  · rw [if_pos (.inr o2)] at h
    cases h
    go_enter Tryz.func84, Tryz.ntmps84
    go_wp2_with fail
    (refine calls_named ?_; intro w1 hw1)
    have hb1 : Below w.heap.size w w1 := by rw [hw1]; exact (by repeat (first | exact Below.refl _ _ | assumption | apply Below.drew | apply below_drewN | apply Bel.alloc | (refine Bel.setCell_ ?_ ?_; rotate_left; omega) | (refine Bel.step ?_ (by assumption))))
    have hR1 : Blk w1 (w.heap.size + 1) 129 #[.int .i64 0, .int .i64 0, .slice none 0 0] := by rw [hw1]; exact (by repeat (first | assumption | (refine Blk.new' _ _ _ ?_; first | with_unfolding_all rfl | (simp; done)) | apply Blk.drewN | apply Blk.drew | apply Blk.alloc | (refine Blk.far_ ?_ ?_ _; rotate_left; omega)))
    have hz1 : w.heap.size + 2 ≤ w1.heap.size := by rw [hw1]; simp
    clear hw1
    with_reducible refine (tFault_x _ _ _).mono ?_
    rintro r w2 ⟨rfl, hc, hb⟩
    have hb2 := Bel.step hb1 hb
    have hR2 := hR1.below hb hR1.lt
    clear hb hR1 hb1
    obtain ⟨r0, r1, r2⟩ := hR2.three
    have fr0 := hR2.frozen 0
    have fr1 := hR2.frozen 1
    have fr2 := hR2.frozen 2
    go_wp2_with fail
    refine bodyPost_ret (v := .tuple #[.agg #[.int .i64 0, .int .i64 0, .slice none 0 0], fltV w1.heap.size 0]) (by simp [results, Tryz.results84, go_sem, r0, r1, r2]) rfl ?_
    exact ⟨_, rfl, blk_chain (((hc.far (by simp only; omega) _).far (by simp only; omega) _).far (by simp only; omega) _), ((hb2.setCell (by simp only; omega) _).setCell (by simp only; omega) _).setCell (by simp only; omega) _⟩
  rw [if_neg (by omega)] at h
  cases hu : wOk u
  · rw [if_pos hu] at h
    cases h
    have HW := Lib.hid (show ∀ V, Calls Tryz.prog 81 #[.int .i64 u] V fun e w' => e = .returned (.bool false) ∧ V = w' from fun V => by
      have := costWeight_any u V
      rw [hu] at this
      exact this)
    clear hu
    go_enter Tryz.func84, Tryz.ntmps84
    go_wp2_with fail
    with_reducible refine (HW.out _).mono ?_
    rintro r w' ⟨rfl, rfl⟩
    go_wp2_with fail
    (refine calls_named ?_; intro w1 hw1)
    have hb1 : Below w.heap.size w w1 := by rw [hw1]; exact (by repeat (first | exact Below.refl _ _ | assumption | apply Below.drew | apply below_drewN | apply Bel.alloc | (refine Bel.setCell_ ?_ ?_; rotate_left; omega) | (refine Bel.step ?_ (by assumption))))
    have hR1 : Blk w1 (w.heap.size + 1) 129 #[.int .i64 0, .int .i64 0, .slice none 0 0] := by rw [hw1]; exact (by repeat (first | assumption | (refine Blk.new' _ _ _ ?_; first | with_unfolding_all rfl | (simp; done)) | apply Blk.drewN | apply Blk.drew | apply Blk.alloc | (refine Blk.far_ ?_ ?_ _; rotate_left; omega)))
    have hz1 : w.heap.size + 2 ≤ w1.heap.size := by rw [hw1]; simp
    clear hw1
    with_reducible refine (tFault_x _ _ _).mono ?_
    rintro r w2 ⟨rfl, hc, hb⟩
    have hb2 := Bel.step hb1 hb
    have hR2 := hR1.below hb hR1.lt
    clear hb hR1 hb1
    obtain ⟨r0, r1, r2⟩ := hR2.three
    have fr0 := hR2.frozen 0
    have fr1 := hR2.frozen 1
    have fr2 := hR2.frozen 2
    go_wp2_with fail
    refine bodyPost_ret (v := .tuple #[.agg #[.int .i64 0, .int .i64 0, .slice none 0 0], fltV w1.heap.size 0]) (by simp [results, Tryz.results84, go_sem, r0, r1, r2]) rfl ?_
    exact ⟨_, rfl, blk_chain (((hc.far (by simp only; omega) _).far (by simp only; omega) _).far (by simp only; omega) _), ((hb2.setCell (by simp only; omega) _).setCell (by simp only; omega) _).setCell (by simp only; omega) _⟩
  · rw [if_neg (by rw [hu]; simp)] at h
    cases h
end Go.Proofs.YtgkeolddpielpaaGreatDoor

/- (*Graph).Bend. -/
namespace Go.Proofs.YtgkeolddpielpaaGreatDoor
open Go.RowKit

attribute [local go_sem ↓] Go.wp_at_zero Go.wp_at_succ

/-- Three cells in a row are set. -/
def set3 (W : World) (c q : Nat) (x y z : Value) : World := ((W.setCell ⟨c, q, none⟩ x).setCell ⟨c, q + 1, none⟩ y).setCell ⟨c, q + 2, none⟩ z
theorem set3_at {W : World} {c q : Nat} {x y z a b d : Value} (h0 : W.cell? ⟨c, q, none⟩ = some a) (h1 : W.cell? ⟨c, q + 1, none⟩ = some b) (h2 : W.cell? ⟨c, q + 2, none⟩ = some d) :
    (set3 W c q x y z).cell? ⟨c, q, none⟩ = some x ∧ (set3 W c q x y z).cell? ⟨c, q + 1, none⟩ = some y ∧ (set3 W c q x y z).cell? ⟨c, q + 2, none⟩ = some z := by
  unfold set3
  refine ⟨?_, ?_, ?_⟩
  · rw [World.cell?_setCell_other _ _ _ _ (by intro h; simp only [Addr.mk.injEq] at h; omega), World.cell?_setCell_other _ _ _ _ (by intro h; simp only [Addr.mk.injEq] at h; omega)]
    exact World.cell?_setCell_same _ _ _ h0
  · rw [World.cell?_setCell_other _ _ _ _ (by intro h; simp only [Addr.mk.injEq] at h; omega)]
    refine World.cell?_setCell_same _ _ _ (?_ : _ = some b)
    rw [World.cell?_setCell_other _ _ _ _ (by intro h; simp only [Addr.mk.injEq] at h; omega)]
    exact h1
  · refine World.cell?_setCell_same _ _ _ (?_ : _ = some d)
    rw [World.cell?_setCell_other _ _ _ _ (by intro h; simp only [Addr.mk.injEq] at h; omega), World.cell?_setCell_other _ _ _ _ (by intro h; simp only [Addr.mk.injEq] at h; omega)]
    exact h2
theorem set3_far {W : World} {c q g i : Nat} {x y z : Value} (h : g ≠ c ∨ i < q ∨ q + 2 < i) : (set3 W c q x y z).cell? ⟨g, i, none⟩ = W.cell? ⟨g, i, none⟩ := by
  unfold set3
  rw [World.cell?_setCell_other _ _ _ _ (by intro h; simp only [Addr.mk.injEq] at h; omega), World.cell?_setCell_other _ _ _ _ (by intro h; simp only [Addr.mk.injEq] at h; omega), World.cell?_setCell_other _ _ _ _ (by intro h; simp only [Addr.mk.injEq] at h; omega)]
theorem set3_size (W : World) (c q : Nat) (x y z : Value) : (set3 W c q x y z).heap.size = W.heap.size := by simp [set3, World.setCell]
theorem set3_below {B : Nat} {V W : World} (h : Below B V W) {c : Nat} (hc : B ≤ c) (q : Nat) (x y z : Value) : Below B V (set3 W c q x y z) := ((h.setCell hc _).setCell hc _).setCell hc _
theorem Warm.set3 {W : World} {A : Option Addr} (h : Warm W A) (c q : Nat) (x y z : Value) : Warm (set3 W c q x y z) A := ((h.set _ _).set _ _).set _ _
theorem Kept.set3 {G : Nat → Prop} {V W : World} (h : Kept G V W) (hz : V.heap.size ≤ W.heap.size) {c : Nat} (hc : ¬ G c) (q : Nat) (x y z : Value) : Kept G V (set3 W c q x y z) := by
  have a1 := Kept.set (G := G) W c q x hc
  have a2 := Kept.set (G := G) (W.setCell ⟨c, q, none⟩ x) c (q + 1) y hc
  have a3 := Kept.set (G := G) ((W.setCell ⟨c, q, none⟩ x).setCell ⟨c, q + 1, none⟩ y) c (q + 2) z hc
  have z1 : (W.setCell ⟨c, q, none⟩ x).heap.size = W.heap.size := by simp [World.setCell]
  have z2 : ((W.setCell ⟨c, q, none⟩ x).setCell ⟨c, q + 1, none⟩ y).heap.size = W.heap.size := by simp [World.setCell]
  exact ((h.trans a1 hz).trans a2 (by omega)).trans a3 (by omega)
theorem RdY2.setT {W v v' : World} {c o k p n' c' : Nat} {A' : Option Addr} {t t' : TabD} {ts : List TabD} (h : RdY2 W v (some ⟨c, o, none⟩) k ts) (ht : ts[p]? = some t) (hl : Le v v') (hr : RdI v' A' n' t'.costs) (hc : n' ≤ c' ∧ c' ≤ 9223372036854775807) :
    RdY2 (set3 W c (o + p * 3) (.int .i64 t'.ins) (.int .i64 t'.outs) (.slice A' n' c')) v' (some ⟨c, o, none⟩) k (ts.set p t') := by
  refine ⟨by rw [List.length_set]; exact h.1, fun i s hs => ?_⟩
  by_cases e : p = i
  · subst e
    rw [List.getElem?_set_self (List.getElem?_eq_some_iff.1 ht).1] at hs
    cases hs
    obtain ⟨b', o', e', h1, h2, A2, n2, c2, h3, _⟩ := h.2 p t ht
    cases e'
    obtain ⟨g1, g2, g3⟩ := set3_at (x := .int .i64 t'.ins) (y := .int .i64 t'.outs) (z := .slice A' n' c') h1 h2 h3
    exact ⟨c, o, rfl, g1, g2, A', n', c', g3, hr, hc.1, hc.2⟩
  · rw [List.getElem?_set_ne e] at hs
    obtain ⟨b', o', e', h1, h2, A2, n2, c2, h3, h4, h5⟩ := h.2 i s hs
    cases e'
    exact ⟨c, o, rfl, by rw [set3_far (by omega)]; exact h1, by rw [set3_far (by omega)]; exact h2, A2, n2, c2, by rw [set3_far (by omega)]; exact h3, h4.le hl, h5⟩
theorem GrR.bend {W W1 : World} {F G : Nat → Prop} {g c o : Nat} {A B I O P : Option Addr} {n m k cc d e ci co cp : Nat} {N : NetD} {p j n' c' : Nat} {A' : Option Addr} {t : TabD} {u : Int}
    (h : GrR W F G g A B (some ⟨c, o, none⟩) I O P n m k cc d e ci co cp N) (hb : Below W.heap.size W W1) (ht : N.ts[p]? = some t) (hu : wOk u = true)
    (hown : Own W1 W.heap.size 2 1 A' n' c' (icells (t.turn j u).costs)) :
    GrR (set3 W1 c (o + p * 3) (.int .i64 t.ins) (.int .i64 t.outs) (.slice A' n' c')) (fun b => F b ∨ (W.heap.size ≤ b ∧ b < W1.heap.size)) (fun b => G b ∨ (W.heap.size ≤ b ∧ b < W1.heap.size)) g A B (some ⟨c, o, none⟩) I O P n m k cc d e ci co cp (N.bend p (t.turn j u)) := by
  have hFc : F c := h.sub c (.inr (.inr rfl))
  have hclt := h.lt c hFc
  have hGc : ¬ (G c ∨ (W.heap.size ≤ c ∧ c < W1.heap.size)) := by
    rintro (h' | h')
    · exact h.net.gt c rfl h'
    · omega
  have hGB : ∀ b, blkOf B = some b → ¬ (G b ∨ (W.heap.size ≤ b ∧ b < W1.heap.size)) := fun b e h' => by
    rcases h' with h' | h'
    · exact h.net.ga b e h'
    · have := h.lt b (h.sub b (.inr (.inl e))); omega
  have hN := (h.net.below hb).mono (G' := fun b => G b ∨ (W.heap.size ≤ b ∧ b < W1.heap.size)) (fun _ h => .inl h) hGB (fun b e => by cases e; exact hGc)
  have hk : Kept (fun b => G b ∨ (W.heap.size ≤ b ∧ b < W1.heap.size)) W1 (set3 W1 c (o + p * 3) (.int .i64 t.ins) (.int .i64 t.outs) (.slice A' n' c')) := (Kept.refl _ _).set3 (Nat.le_refl _) hGc _ _ _ _
  have hkG : Kept G W (set3 W1 c (o + p * 3) (.int .i64 t.ins) (.int .i64 t.outs) (.slice A' n' c')) := (Kept.below hb).set3 hb.size (fun h' => hGc (.inl h')) _ _ _ _
  have hne : ∀ b, blkOf A' = some b → b ≠ c := fun b e => by have := (hown.lt b e).1; omega
  have hr : RdI (msk (set3 W1 c (o + p * 3) (.int .i64 t.ins) (.int .i64 t.outs) (.slice A' n' c')) (fun b => G b ∨ (W.heap.size ≤ b ∧ b < W1.heap.size))) A' n' (t.turn j u).costs := by
    refine RdK.msk ?_ (fun b e => .inr (hown.lt b e))
    refine RdK.keepB (hown.rds.rdI) (fun b e => ?_)
    exact hk b (.inr (hown.lt b e)) (hown.lt b e).2
  have hml : Le (msk W G) (msk (set3 W1 c (o + p * 3) (.int .i64 t.ins) (.int .i64 t.outs) (.slice A' n' c')) (fun b => G b ∨ (W.heap.size ≤ b ∧ b < W1.heap.size))) := hkG.msk.trans (msk_mono (fun _ h => .inl h))
  have hsz := set3_size W1 c (o + p * 3) (.int .i64 t.ins) (.int .i64 t.outs) (.slice A' n' c')
  refine ⟨⟨hN.vs.le hk.msk, hN.ar.keep (fun b e => ?_), hN.ts.setT ht hk.msk hr ⟨hown.cap, hown.capMax⟩, hN.wa.set3 _ _ _ _ _, hN.wt.set3 _ _ _ _ _, hN.ga, hN.gt, hN.ac⟩, (hkG g h.gg h.blk.lt).trans h.blk, .inl h.gg, h.ins.le hml, h.outs.le hml, h.plc.le hml, fun b hb' => ?_, fun b hb' => ?_, h.ok.bend ht hu, h.c0, h.c1, h.c2⟩
  · have hlt := (hN.wa b e).1
    have hbc : b ≠ c := fun e' => h.net.ac b e (by rw [e']; rfl)
    exact (Kept.refl (fun b => b ≠ c) W1).set3 (Nat.le_refl _) (fun h => h rfl) _ _ _ _ b hbc hlt
  · rcases hb' with (h' | h') | h' | h'
    · exact .inl (h.sub b (.inl h'))
    · exact .inr h'
    · exact .inl (h.sub b (.inr (.inl h')))
    · exact .inl (h.sub b (.inr (.inr h')))
  · rw [hsz]
    rcases hb' with h' | h'
    · exact Nat.lt_of_lt_of_le (h.lt b h') hb.size
    · exact h'.2
set_option maxHeartbeats 1000000 in
theorem gBend_ok (g p i o ti to_ : Nat) (cs : List Int) (u : Int) (N : NetD) (F : Nat → Prop) (w : World) (h : GrO w F g N) (ht : N.ts[p]? = some ⟨ti, to_, cs⟩) (hi : i < ti) (ho : o < to_) (hu : wOk u = true) :
    Calls Tryz.prog 49 #[.pointer (some ⟨g, 0, none⟩), .int .i64 p, .int .i64 i, .int .i64 o, .int .i64 u] w fun e w' => e = .returned .nilIface ∧ (∃ F' : Nat → Prop, (∀ b, F' b → F b ∨ w.heap.size ≤ b) ∧ GrO w' F' g (N.bend p ((⟨ti, to_, cs⟩ : TabD).turn (i * to_ + o) u))) ∧ Kept (fun b => ¬ F b) w w' ∧ w.heap.size ≤ w'.heap.size ∧ ∀ B, B ≤ w.heap.size → (∀ b, F b → B ≤ b) → Below B w w' := by
  have hlt := (List.getElem?_eq_some_iff.1 ht).1
  have hT : TabOk ⟨ti, to_, cs⟩ := h.ok.tabs _ (List.mem_of_getElem? ht)
  obtain ⟨G, A, B, C, I, O, P, n, m, k, c, d, e, ci, co, cp, hR⟩ := h
  have hpk : p < k := by rw [hR.net.ts.1] at hlt; exact hlt
  obtain ⟨cb, co_, eC, c0, c1, A1, n1, cc1, c2, hr1, hcp⟩ := hR.net.ts.2 p _ ht
  subst eC
  have hr1 := hr1.le (msk_le w G)
  have n2 : w.cell? ⟨g, 2, none⟩ = some (.slice (some ⟨cb, co_, none⟩) k e) := by rw [hR.blk.cell]; rfl
  have HWT := Lib.hid (fun (V : World) (hV : Below w.heap.size w V) => tWith_ok A1 n1 cc1 ti to_ i o cs u V (hr1.below hV) hT hi ho hu)
  have HR := Lib.hid hR
  have HB := Lib.hid (fun (W1 : World) (hb : Below w.heap.size w W1) (A' : Option Addr) (n' c' : Nat) hown => hR.bend (p := p) (j := i * to_ + o) (A' := A') (n' := n') (c' := c') hb ht hu hown)
  have hFc : F cb := hR.sub cb (.inr (.inr rfl))
  have hcl := hR.lt cb hFc
  have HF := Lib.hid hFc
  have fz := fun x => (hR.net.wt cb rfl).2 x
  have i1 : (0 : Int) ≤ (p : Int) := by omega
  have i2 : (p : Int) < (k : Int) := by omega
  have i3 : ¬ ((p : Int) < 0) := by omega
  have i4 : ¬ ((k : Int) ≤ (p : Int)) := by omega
  have hglt : g < w.heap.size := hR.blk.lt
  have hgc : ¬ g = cb := fun e => hR.net.gt cb rfl (by rw [← e]; exact hR.gg)
  simp only at c0 c1 c2
  have fz0 := fz (co_ + p * 3)
  have fz1 := fz (co_ + p * 3 + 1)
  have fz2 := fz (co_ + p * 3 + 2)
  clear hR ht hu hlt hT hr1 hi ho fz hFc
  go_enter Tryz.func49, Tryz.ntmps49
  go_wp2_with fail
  with_reducible refine (HWT.out w (Below.refl _ _)).mono ?_
  rintro r w2 ⟨A2, c3, rfl, hown, hb2⟩
  have HO := Lib.hid hown
  clear hown HWT
  go_wp2_with fail
  obtain ⟨w3, hw3⟩ : ∃ X, X = w2.alloc (.cells #[.int .i64 ti, .int .i64 to_, .slice A2 n1 c3] 129) := ⟨_, rfl⟩
  rw [← hw3]
  have hT3 : Blk w3 w2.heap.size 129 #[.int .i64 ti, .int .i64 to_, .slice A2 n1 c3] := by rw [hw3]; exact Blk.new _ _ _
  have hb3 : Below w.heap.size w w3 := by rw [hw3]; exact (by repeat (first | exact Below.refl _ _ | assumption | apply Below.drew | apply below_drewN | apply Bel.alloc | (refine Bel.setCell_ ?_ ?_; rotate_left; omega) | (refine Bel.step ?_ (by assumption))))
  have HO3 := Lib.hid (show Own w3.drew w.heap.size 2 1 A2 n1 c3 (icells (cs.set (i * to_ + o) u)) by rw [hw3]; exact (HO.out.alloc _).drew)
  have hz2 := hb2.size
  have n3 := Below.cellOf hb3 (Nat.le_refl _) n2
  have e0 := Below.cellOf hb3 (Nat.le_refl _) c0
  have e1 := Below.cellOf hb3 (Nat.le_refl _) c1
  have e2 := Below.cellOf hb3 (Nat.le_refl _) c2
  have f0 := (Below.frozenOf hb3 (a := ⟨cb, co_ + p * 3, none⟩) hcl).trans fz0
  have f1 := (Below.frozenOf hb3 (a := ⟨cb, co_ + p * 3 + 1, none⟩) hcl).trans fz1
  have f2 := (Below.frozenOf hb3 (a := ⟨cb, co_ + p * 3 + 2, none⟩) hcl).trans fz2
  have htc : w2.heap.size ≠ cb := by omega
  obtain ⟨gt, hgt⟩ : ∃ x, x = w2.heap.size := ⟨_, rfl⟩
  rw [← hgt] at hT3 htc ⊢
  clear hw3 hb2 HO n2 c0 c1 c2 fz0 fz1 fz2 hgt hz2
  have HSX := Lib.hid (show ∀ X : World, (X.cell? ⟨g, 2, none⟩ = some (.slice (some ⟨cb, co_, none⟩) k e) ∧ Blk X gt 129 #[.int .i64 ti, .int .i64 to_, .slice A2 n1 c3]) → X.cell? ⟨g, 2, none⟩ = some (.slice (some ⟨cb, co_, none⟩) k e) ∧ X.cell? ⟨gt, 0, none⟩ = some (.int .i64 ti) ∧ X.cell? ⟨gt, 1, none⟩ = some (.int .i64 to_) ∧ X.cell? ⟨gt, 2, none⟩ = some (.slice A2 n1 c3) from fun X hX => ⟨hX.1, hX.2.three⟩)
  refine wp_region_held_drew (S := fun X => X.cell? ⟨g, 2, none⟩ = some (.slice (some ⟨cb, co_, none⟩) k e) ∧ Blk X gt 129 #[.int .i64 ti, .int .i64 to_, .slice A2 n1 c3]) (by kernel_rfl) ⟨n3, hT3.drew⟩ (fun _ => ?_)
  refine take_ (i := 0) (d := some 48) (v := ?_) rfl rfl (by kernel_rfl) (by kernel_rfl) (by kernel_rfl) (fun _ _ _ h => h) (by rfl) ?_ (by first | rfl | trivial | assumption) ?_
  rotate_left
  · (intro V hSw; (try (have hF := HSX.out V hSw)); (try (cases hSw)); (try go_split_ands); go_simp; try with_reducible rfl)
  simp only [Act.put, List.setIfInBounds_toArray, List.set_cons_zero, List.set_cons_succ]
  refine take_ (i := 1) (d := some 49) (v := ?_) rfl rfl (by kernel_rfl) (by kernel_rfl) (by kernel_rfl) (fun _ _ _ h => h) (by rfl) ?_ (by first | rfl | trivial | assumption) ?_
  rotate_left
  · (intro V hSw; (try (have hF := HSX.out V hSw)); (try (cases hSw)); (try go_split_ands); go_simp; try with_reducible rfl)
  simp only [Act.put, List.setIfInBounds_toArray, List.set_cons_zero, List.set_cons_succ]
  refine take_ (i := 2) (d := some 50) (v := ?_) rfl rfl (by kernel_rfl) (by kernel_rfl) (by kernel_rfl) (fun _ _ _ h => h) (by rfl) ?_ (by first | rfl | trivial | assumption) ?_
  rotate_left
  · (intro V hSw; (try (have hF := HSX.out V hSw)); (try (cases hSw)); (try go_split_ands); go_simp; try with_reducible rfl)
  simp only [Act.put, List.setIfInBounds_toArray, List.set_cons_zero, List.set_cons_succ]
  refine take_ (i := 3) (d := some 51) (v := ?_) rfl rfl (by kernel_rfl) (by kernel_rfl) (by kernel_rfl) (fun _ _ _ h => h) (by rfl) ?_ (by first | rfl | trivial | assumption) ?_
  rotate_left
  · (intro V hSw; (try (have hF := HSX.out V hSw)); (try (cases hSw)); (try go_split_ands); go_simp; try with_reducible rfl)
  simp only [Act.put, List.setIfInBounds_toArray, List.set_cons_zero, List.set_cons_succ]
  refine take_ (i := 4) (d := some 52) (v := ?_) rfl rfl (by kernel_rfl) (by kernel_rfl) (by kernel_rfl) (fun _ _ _ h => h) (by rfl) ?_ (by first | rfl | trivial | assumption) ?_
  rotate_left
  · (intro V hSw; (try (have hF := HSX.out V hSw)); (try (cases hSw)); (try go_split_ands); go_simp; try with_reducible rfl)
  simp only [Act.put, List.setIfInBounds_toArray, List.set_cons_zero, List.set_cons_succ]
  refine take_ (i := 5) (d := some 53) (v := ?_) rfl rfl (by kernel_rfl) (by kernel_rfl) (by kernel_rfl) (fun _ _ _ h => h) (by rfl) ?_ (by first | rfl | trivial | assumption) ?_
  rotate_left
  · (intro V hSw; (try (have hF := HSX.out V hSw)); (try (cases hSw)); (try go_split_ands); go_simp; try with_reducible rfl)
  simp only [Act.put, List.setIfInBounds_toArray, List.set_cons_zero, List.set_cons_succ]
  refine take_ (i := 6) (d := some 54) (v := ?_) rfl rfl (by kernel_rfl) (by kernel_rfl) (by kernel_rfl) (fun _ _ _ h => h) (by rfl) ?_ (by first | rfl | trivial | assumption) ?_
  rotate_left
  · (intro V hSw; (try (have hF := HSX.out V hSw)); (try (cases hSw)); (try go_split_ands); go_simp; try with_reducible rfl)
  simp only [Act.put, List.setIfInBounds_toArray, List.set_cons_zero, List.set_cons_succ]
  refine take_ (i := 7) (d := some 55) (v := ?_) rfl rfl (by kernel_rfl) (by kernel_rfl) (by kernel_rfl) (fun _ _ _ h => h) (by rfl) ?_ (by first | rfl | trivial | assumption) ?_
  rotate_left
  · (intro V hSw; (try (have hF := HSX.out V hSw)); (try (cases hSw)); (try go_split_ands); go_simp; try with_reducible rfl)
  simp only [Act.put, List.setIfInBounds_toArray, List.set_cons_zero, List.set_cons_succ]
  have e0' : w3.drew.cell? ⟨cb, co_ + p * 3, none⟩ = _ := e0
  have e1' : w3.drew.cell? ⟨cb, co_ + p * 3 + 1, none⟩ = _ := e1
  have e2' : w3.drew.cell? ⟨cb, co_ + p * 3 + 2, none⟩ = _ := e2
  refine wpAnyH_ready (rs := [8]) (by kernel_rfl) (by simp) ?_
  refine AllReadyH.cons (o := _) rfl (fun K hK => ?_) AllReadyH.nil
  go_simp
  refine hK.out _ _ ⟨?_, ((hT3.drew.far (by simp only; omega) _).far (by simp only; omega) _).far (by simp only; omega) _⟩ (fun _ => ?_)
  · have := set3_far (W := w3.drew) (c := cb) (q := co_ + p * 3) (g := g) (i := 2) (x := .int .i64 ti) (y := .int .i64 to_) (z := .slice A2 n1 c3) (.inl hgc)
    exact this.trans n3
  clear hK K
  refine wpAnyH_done (by kernel_rfl) ?_ _
  go_wp2_with fail
  go_ret
  have hz3 : w3.drew.heap.size = w3.heap.size := rfl
  refine ⟨rfl, ⟨_, ?_, ⟨_, A, B, _, I, O, P, n, m, k, c, d, e, ci, co, cp, HB.out w3.drew hb3.drew A2 n1 c3 HO3.out⟩⟩, (Kept.below hb3.drew).set3 hb3.size (fun hn => hn HF.out) _ _ _ _, ?_, fun B' hB1 hB2 => set3_below (hb3.drew.mono hB1) (hB2 _ HF.out) _ _ _ _⟩
  · exact fun b hb => hb.imp id (fun h => h.1)
  · have := set3_size w3.drew cb (co_ + p * 3) (.int .i64 ti) (.int .i64 to_) (.slice A2 n1 c3)
    exact Nat.le_trans hb3.size (Nat.le_of_eq this.symm)
/-- What a change that can't be is told as: the Faults, the Errno. -/
def bendNo (N : NetD) (p i o u : Int) : Option (List (ByteArray × Int) × Int) :=
  if p < 0 ∨ N.ts.length ≤ p then some ([((⟨#[103, 114, 97, 112, 104]⟩ : ByteArray), p)], 5) else
  match N.ts[p.toNat]? with
  | none => none
  | some t => (withNo t.ins t.outs i o u).map (fun q => ([((⟨#[103, 114, 97, 112, 104]⟩ : ByteArray), p), ((⟨#[116, 117, 114, 110]⟩ : ByteArray), q.1)], q.2))
set_option maxHeartbeats 1000000 in
theorem gBend_no (g : Nat) (p i o u : Int) (N : NetD) (ps : List (ByteArray × Int)) (c0 : Int) (w : World) (h : RdGr w g N) (hno : bendNo N p i o u = some (ps, c0)) :
    Calls Tryz.prog 49 #[.pointer (some ⟨g, 0, none⟩), .int .i64 p, .int .i64 i, .int .i64 o, .int .i64 u] w fun e w' => ∃ v, e = .returned v ∧ Chain w' v ps c0 ∧ Below w.heap.size w w' := by
  obtain ⟨A, B, C, I, O, P, n, m, k, c, d, e, ci, co, cp, hR⟩ := h
  have n2 := hR.n2
  have hlk : N.ts.length = k := hR.net.2.2.1
  have HR := Lib.hid hR
  clear hR
  unfold bendNo at hno
  rw [hlk] at hno
  by_cases i1 : p < 0
  · rw [if_pos (.inl i1)] at hno
    cases hno
    go_enter Tryz.func49, Tryz.ntmps49
    go_wp2_with fail
    with_reducible refine (gFault_any _ _ [] 5 _ (chain_one _ 5)).mono ?_
    rintro r w' ⟨v, rfl, hc, hb⟩
    obtain ⟨tv, xv, rfl⟩ := chain_not_nil hc
    have HCH := Lib.hid hc
    clear hc
    go_wp2_with fail
    go_ret
    exact ⟨_, rfl, HCH.out, (by repeat (first | exact Below.refl _ _ | assumption | apply Below.drew | apply below_drewN | apply Bel.alloc | (refine Bel.setCell_ ?_ ?_; rotate_left; omega) | (refine Bel.step ?_ (by assumption))))⟩
  by_cases i2 : (k : Int) ≤ p
  · rw [if_pos (.inr i2)] at hno
    cases hno
    go_enter Tryz.func49, Tryz.ntmps49
    go_wp2_with fail
    with_reducible refine (gFault_any _ _ [] 5 _ (chain_one _ 5)).mono ?_
    rintro r w' ⟨v, rfl, hc, hb⟩
    obtain ⟨tv, xv, rfl⟩ := chain_not_nil hc
    have HCH := Lib.hid hc
    clear hc
    go_wp2_with fail
    go_ret
    exact ⟨_, rfl, HCH.out, (by repeat (first | exact Below.refl _ _ | assumption | apply Below.drew | apply below_drewN | apply Bel.alloc | (refine Bel.setCell_ ?_ ?_; rotate_left; omega) | (refine Bel.step ?_ (by assumption))))⟩
  rw [if_neg (by omega)] at hno
  obtain ⟨q, rfl⟩ : ∃ q : Nat, p = q := ⟨p.toNat, by omega⟩
  obtain ⟨cb, co_, t, rfl, ht, c0', c1, A1, n1, cc1, c2, _, _⟩ := HR.out.net.2.2.at_ (i := q) (by omega)
  simp only [Int.toNat_natCast, ht] at hno
  cases hw : withNo t.ins t.outs i o u with
  | none => rw [hw] at hno; cases hno
  | some xy =>
  rw [hw] at hno
  obtain ⟨x, y⟩ := xy
  cases hno
  have HW := Lib.hid (fun V => tWith_no A1 n1 cc1 t.ins t.outs i o u x y V hw)
  have i3 : (0 : Int) ≤ (q : Int) := by omega
  have i4 : (q : Int) < (k : Int) := by omega
  clear hw ht
  go_enter Tryz.func49, Tryz.ntmps49
  go_wp2_with fail
  with_reducible refine (HW.out _).mono ?_
  rintro r w2 ⟨v, rfl, hc, hb⟩
  obtain ⟨tv, xv, rfl⟩ := chain_not_nil hc
  have HCH := Lib.hid hc
  clear hc
  go_wp2_with fail
  (refine calls_named ?_; intro w3 hw3)
  have hb3 : Below w.heap.size w w3 := by rw [hw3]; exact (by repeat (first | exact Below.refl _ _ | assumption | apply Below.drew | apply below_drewN | apply Bel.alloc | (refine Bel.setCell_ ?_ ?_; rotate_left; omega) | (refine Bel.step ?_ (by assumption))))
  have hc3 : Chain w3 (.iface tv xv) [((⟨#[116, 117, 114, 110]⟩ : ByteArray), x)] y := by rw [hw3]; exact Chain.below (by repeat (first | exact Below.refl _ _ | assumption | apply Below.drew | apply below_drewN | apply Bel.alloc | (refine Bel.setCell_ ?_ ?_; rotate_left; omega) | (refine Bel.step ?_ (by assumption)))) HCH.out
  clear hw3
  with_reducible refine (gFault_any _ _ _ _ _ hc3).mono ?_
  rintro r w' ⟨v, rfl, hc, hb'⟩
  obtain ⟨tv', xv', rfl⟩ := chain_not_nil hc
  have HCH2 := Lib.hid hc
  clear hc hc3
  go_wp2_with fail
  go_ret
  exact ⟨_, rfl, HCH2.out, Bel.step hb3 hb'⟩
end Go.Proofs.YtgkeolddpielpaaGreatDoor
