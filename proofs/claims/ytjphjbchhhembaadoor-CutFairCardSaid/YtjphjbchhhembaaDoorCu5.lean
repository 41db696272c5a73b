/- What the law of layer 11 knows. -/
import Derived.Test.YtjphjbchhhembaaDoorCu4
namespace Go.Proofs.YtjphjbchhhembaaDoor
open Go.RowKit

attribute [local go_sem ↓] Go.wp_at_zero Go.wp_at_succ

def kp : List (Int × Int) := [(0, 0), (0, 9), (90, 0), (90, 9)]
def ke : List (Int × Int) := [(0, 1), (1, 0), (2, 3), (3, 2), (1, 2)]
theorem k_good : Good kp ke := ⟨by decide, by decide, by unfold Ends; decide⟩
theorem k_src : srcN kp 0 = [0] ∧ dstN kp 0 = [3] := by
  have h : order kp ((0 : Nat) : Int) = [0, 1, 2, 3] := order_eq (by decide)
  unfold srcN dstN
  rw [h]
  exact ⟨rfl, rfl⟩
theorem k_zero : ∀ b0 b1 b2 b3 : Bool, cr [b0, b1, b2, b3] ke = 0 → b0 = b1 ∧ b1 = b2 ∧ b2 = b3 := by decide
theorem k_one : ∀ b1 b2 : Bool, cr [true, b1, b2, false] ke ≤ 1 → b1 = true ∧ b2 = false := by decide
theorem four_of {b : List Bool} (h : b.length = 4) : ∃ b0 b1 b2 b3, b = [b0, b1, b2, b3] := by
  match b, h with
  | [b0, b1, b2, b3], _ => exact ⟨b0, b1, b2, b3, rfl⟩
theorem IsSpl.proper {E : List Edg} {l : List (Int × Int)} {i : Nat} {s : Spl} (h : IsSpl E l i s) (h2 : 2 ≤ l.length) : ∃ u v : Nat, u < l.length ∧ v < l.length ∧ s.side.getD u false = true ∧ s.side.getD v false = false := by
  have hs := h.sep h2
  have he := ends_two h2
  obtain ⟨u, hu⟩ : ∃ u, u ∈ srcN l (i / 3) := List.exists_mem_of_length_pos (by rw [srcN_len]; omega)
  obtain ⟨v, hv⟩ : ∃ v, v ∈ dstN l (i / 3) := List.exists_mem_of_length_pos (by rw [dstN_len]; omega)
  exact ⟨u, v, srcN_lt hu, dstN_lt hv, hs.inn u hu, hs.out v hv⟩
theorem k_best {L : List Spl} {s : Spl} (h : IsAll ke kp 12 L) (ho : Opt L 12 s) : s.cross = 1 ∧ s.dir = 0 ∧ s.kind = 0 ∧ s.side = [true, true, false, false] := by
  have e0 := List.getElem?_eq_getElem (show 0 < L.length by rw [h.1]; omega)
  generalize L[0]'(by rw [h.1]; omega) = s0 at e0
  have h0 := h.2 0 s0 e0
  have hN := h0.near rfl
  rw [show (0 : Nat) / 3 = 0 from rfl, k_src.1, k_src.2] at hN
  obtain ⟨b0, b1, b2, b3, hb⟩ := four_of hN.sep.len
  have g0 := hN.sep.inn 0 (by simp)
  have g3 := hN.sep.out 3 (by simp)
  have hl := hN.least [true, true, false, false] ⟨rfl, by decide, by decide⟩
  rw [show cr [true, true, false, false] ke = 1 by decide] at hl
  have hside : s0.side = [true, true, false, false] := by
    rw [hb] at g0 g3 hl ⊢
    simp at g0 g3
    subst g0; subst g3
    obtain ⟨rfl, rfl⟩ := k_one b1 b2 hl
    rfl
  have hc : s0.cross = 1 := by rw [h0.cross, hside]; decide
  have hs : s = s0 := ho.first e0 (by rw [hside]; decide) (fun i t ht => by
    have h1 := h.2 i t ht
    obtain ⟨u, v, hu, hv, hbu, hbv⟩ := h1.proper (by decide)
    rw [hc, h1.cross]
    obtain ⟨c0, c1, c2, c3, hcc⟩ := four_of ((h1.sep (by decide)).len)
    rcases Nat.eq_zero_or_pos (cr t.side ke) with hz | hz
    · exfalso
      rw [hcc] at hz hbu hbv
      obtain ⟨rfl, rfl, rfl⟩ := k_zero c0 c1 c2 c3 hz
      have hu : u < 4 := hu
      have hv : v < 4 := hv
      match u, hu, v, hv with
      | 0, _, 0, _ | 0, _, 1, _ | 0, _, 2, _ | 0, _, 3, _ | 1, _, 0, _ | 1, _, 1, _ | 1, _, 2, _ | 1, _, 3, _ | 2, _, 0, _ | 2, _, 1, _ | 2, _, 2, _ | 2, _, 3, _ | 3, _, 0, _ | 3, _, 1, _ | 3, _, 2, _ | 3, _, 3, _ => simp at hbu hbv; simp [hbu] at hbv
    · omega)
  subst hs
  exact ⟨hc, h0.dir, h0.kind, hside⟩

theorem litP {w : World} {t : TypeId} {g : Nat} {cs : Array Value} {l : List (Int × Int)} {n : Nat} (h : Blk w g t cs) (hc : cs.toList = pcells l) (hn : l.length = n) : RdP w (some ⟨g, 0, none⟩) n l := by
  have := h.rds (s := 2) (m := n) (by rw [← Array.length_toList, hc, pcells_len, hn])
  rw [hc] at this
  exact this.rdP

set_option maxHeartbeats 4000000 in
set_option maxRecDepth 100000 in
theorem known11_any (w : World) (hg : w.cell? ⟨0, 0, none⟩ = some errT) : Calls Tryd.prog 13 #[] w fun e w' => e = .returned (.bool true) ∧ Below w.heap.size w w' := by
  go_enter Tryd.func13, Tryd.ntmps13
  go_wp2_with fail
  (refine calls_named ?_; intro w1 hw1)
  have hb1 : Below w.heap.size w w1 := by rw [hw1]; exact (by repeat (first | exact Below.refl _ _ | assumption | apply Below.drew | apply below_drewN | apply Bel.alloc | (refine Bel.setCell_ ?_ ?_; rotate_left; omega) | (refine Bel.step ?_ (by assumption))))
  have hP0 : Blk w1 w.heap.size 62 #[.int .i64 0, .int .i64 0, .int .i64 0, .int .i64 9, .int .i64 90, .int .i64 0, .int .i64 90, .int .i64 9] := by rw [hw1]; exact (by repeat (first | assumption | (refine Blk.new' _ _ _ ?_; first | with_unfolding_all rfl | (simp; done)) | apply Blk.drewN | apply Blk.drew | apply Blk.alloc | (refine Blk.far_ ?_ ?_ _; rotate_left; omega)))
  have hE0 : Blk w1 (w.heap.size + 1) 62 #[.int .i64 0, .int .i64 1, .int .i64 1, .int .i64 0, .int .i64 2, .int .i64 3, .int .i64 3, .int .i64 2, .int .i64 1, .int .i64 2] := by rw [hw1]; exact (by repeat (first | assumption | (refine Blk.new' _ _ _ ?_; first | with_unfolding_all rfl | (simp; done)) | apply Blk.drewN | apply Blk.drew | apply Blk.alloc | (refine Blk.far_ ?_ ?_ _; rotate_left; omega)))
  clear hw1
  have hP := Lib.hid (litP (l := kp) (n := 4) hP0 rfl rfl)
  have hE := Lib.hid (litP (l := ke) (n := 5) hE0 rfl rfl)
  clear hP0 hE0
  with_reducible refine (cutBest_any _ _ 4 5 4 5 kp ke w1 hP.out hE.out k_good (by omega) (by omega)).mono ?_
  rintro e w2 ⟨A, n, c, s, L, rfl, hr, hnc, hall, hopt, hb2⟩
  obtain ⟨e1, e2, e3, e4⟩ := k_best hall hopt
  obtain ⟨sd, sc, sdi, sk⟩ := s
  simp only at e1 e2 e3 e4 hr
  subst e1; subst e2; subst e3; subst e4
  obtain rfl : n = 4 := hr.1.symm
  clear hall hopt
  have hbw2 : Below w.heap.size w w2 := Bel.step hb1 hb2
  have hP2 := Lib.hid (hP.out.below hb2)
  have hE2 := Lib.hid (hE.out.below hb2)
  have HR := Lib.hid hr
  clear hr hP hE hb1 hb2
  go_wp2_with fail
  (refine calls_named ?_; intro w3 hw3)
  have hb3 : Below w2.heap.size w2 w3 := by rw [hw3]; exact (by repeat (first | exact Below.refl _ _ | assumption | apply Below.drew | apply below_drewN | apply Bel.alloc | (refine Bel.setCell_ ?_ ?_; rotate_left; omega) | (refine Bel.step ?_ (by assumption))))
  have hS3 : Blk w3 w2.heap.size 56 #[.slice A 4 c, .int .i64 1, .int .i64 0, .int .i64 0] := by rw [hw3]; exact (by repeat (first | assumption | (refine Blk.new' _ _ _ ?_; first | with_unfolding_all rfl | (simp; done)) | apply Blk.drewN | apply Blk.drew | apply Blk.alloc | (refine Blk.far_ ?_ ?_ _; rotate_left; omega)))
  clear hw3
  with_reducible refine (cutAll_any _ _ 4 5 4 5 kp ke w3 (hP2.out.below hb3) (hE2.out.below hb3) k_good (by omega) (by omega)).mono ?_
  rintro e w4 ⟨A4, c4, L4, rfl, _, _, _, _, hb4⟩
  have hb24 : Below w2.heap.size w2 w4 := Bel.step hb3 hb4
  have hS4 := hS3.below hb4 hS3.lt
  clear hb3 hb4 hS3
  go_wp2_with fail
  with_reducible refine (cutBest_short _ _ 1 0 _ _ _ (by omega)).mono ?_
  rintro e w5 ⟨v, rfl, hch, hb5⟩
  have hb25 : Below w2.heap.size w2 w5 := Bel.step hb24 hb5
  have hS5 := hS4.below hb5 hS4.lt
  have HCH := Lib.hid hch
  clear hch hb5 hS4 hb24
  obtain ⟨c0, c1, c2, c3⟩ := hS5.four
  have hlt5 := hS5.lt
  go_wp2_with fail
  (refine calls_named ?_; intro w6 hw6)
  have hb56 : Below w5.heap.size w5 w6 := by rw [hw6]; exact (by repeat (first | exact Below.refl _ _ | assumption | apply Below.drew | apply below_drewN | apply Bel.alloc | (refine Bel.setCell_ ?_ ?_; rotate_left; omega) | (refine Bel.step ?_ (by assumption))))
  have hL6 : Blk w6 (w5.heap.size + 1) 4 (bools [true, true, false, false]) := by rw [hw6]; exact (by repeat (first | assumption | (refine Blk.new' _ _ _ ?_; first | with_unfolding_all rfl | (simp; done)) | apply Blk.drewN | apply Blk.drew | apply Blk.alloc | (refine Blk.far_ ?_ ?_ _; rotate_left; omega)))
  have hb26 : Below w2.heap.size w2 w6 := Bel.step hb25 hb56
  clear hw6
  with_reducible refine (sameBools_any _ _ 4 4 c 4 _ _ w6 (HR.out.below hb26) (hL6.rdB rfl) (by omega) rfl).mono ?_
  rintro e w7 ⟨rfl, q, rfl⟩
  have hb57 : Below w5.heap.size w5 (w6.drewN q) := below_drewN hb56 q
  obtain ⟨w7, hw7⟩ : ∃ w7, w7 = w6.drewN q := ⟨_, rfl⟩
  rw [← hw7] at hb57 ⊢
  clear hw7 hL6 hb56 c0 c1 c2 c3
  go_wp2_with fail
  with_reducible refine (refAt_any _ _ _ _).mono ?_
  rintro e w8 ⟨v8, rfl, ⟨A8, n8, m8, rfl, h8, h9⟩, hb8⟩
  have hb58 : Below w5.heap.size w5 w8 := Bel.step hb57 hb8
  have hb28 : Below w2.heap.size w2 w8 := Bel.step hb25 hb58
  have hbw8 : Below w.heap.size w w8 := Bel.step hbw2 hb28
  have HCH8 := Lib.hid (Chain.below hb58 HCH.out)
  have hg8 := Below.cellOf hbw8 (Nat.le_refl _) hg
  clear hb57 hb8 hb58
  go_wp2_with fail
  with_reducible refine (tells_any v A8 n8 m8 [(⟨#[99, 117, 116]⟩, 0)] 1 w8 HCH8.out h8 (by omega) hg8 (by omega)).mono ?_
  rintro e w9 ⟨rfl, hb9⟩
  have hb29 : Below w2.heap.size w2 w9 := Bel.step hb28 hb9
  clear hb9 hb28 h8
  go_wp2_with fail
  (refine calls_named ?_; intro w10 hw10)
  have hb910 : Below w9.heap.size w9 w10 := by rw [hw10]; exact (by repeat (first | exact Below.refl _ _ | assumption | apply Below.drew | apply below_drewN | apply Bel.alloc | (refine Bel.setCell_ ?_ ?_; rotate_left; omega) | (refine Bel.step ?_ (by assumption))))
  have hL10 : Blk w10 w9.heap.size 4 (bools [true]) := by rw [hw10]; exact (by repeat (first | assumption | (refine Blk.new' _ _ _ ?_; first | with_unfolding_all rfl | (simp; done)) | apply Blk.drewN | apply Blk.drew | apply Blk.alloc | (refine Blk.far_ ?_ ?_ _; rotate_left; omega)))
  have hb210 : Below w2.heap.size w2 w10 := Bel.step hb29 hb910
  clear hw10
  with_reducible refine (cutCross_any _ _ 1 1 5 5 [true] ke w10 (hL10.rdB rfl) (hE2.out.below hb210) (by omega)).mono ?_
  rintro e w11 ⟨rfl, hb11⟩
  rw [show cr [true] ke = 2 by decide]
  have hbw11 : Below w.heap.size w w11 := Bel.step hbw2 (Bel.step hb210 hb11)
  go_wp2_with fail
  go_ret
  exact ⟨rfl, hbw11⟩
end Go.Proofs.YtjphjbchhhembaaDoor
