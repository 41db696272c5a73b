/- graph.New, law8.Made. -/
import Derived.Test.YtgkeolddpielpaaGreatG3
namespace Go.Proofs.YtgkeolddpielpaaGreat
open Go.RowKit

attribute [local go_sem ↓] Go.wp_at_zero Go.wp_at_succ

theorem GrO.mono {W : World} {F F' : Nat → Prop} {g : Nat} {N : NetD} (h : GrO W F g N) (hs : ∀ b, F b → F' b) (hl : ∀ b, F' b → b < W.heap.size) : GrO W F' g N := by
  obtain ⟨G, A, B, C, I, O, P, n, m, k, c, d, e, ci, co, cp, h⟩ := h
  exact ⟨G, A, B, C, I, O, P, n, m, k, c, d, e, ci, co, cp, h.net, h.blk, h.gg, h.ins, h.outs, h.plc, fun b hb => hs b (h.sub b hb), hl, h.ok, h.c0, h.c1, h.c2⟩
theorem NetOk.costs {N : NetD} (h : NetOk N) : ∀ t ∈ N.ts, t.costs.length ≤ 1000000 := fun t ht => by
  have hT := h.tabs t ht
  have hm := mul_bd hT.i0 hT.i16 hT.o0 hT.o16
  have := hT.len
  omega
set_option maxHeartbeats 1000000 in
theorem graphNew_ok (A B C : Option Addr) (n m k c d e : Nat) (N : NetD) (w : World) (h : RdNet w A B C n m k N) (hN : NetOk N) :
    Calls Tryz.prog 45 #[.agg #[.slice A n c, .slice B m d, .slice C k e]] w fun r w' => ∃ g, r = .returned (.tuple #[.pointer (some ⟨g, 0, none⟩), .nilIface]) ∧ GrO w' (fun b => w.heap.size ≤ b ∧ b < w'.heap.size) g N ∧ Below w.heap.size w w' := by
  have HH := Lib.hid h
  have HN := Lib.hid hN
  have hn : n ≤ 4096 := by rw [← h.1.1]; exact hN.lv
  have hm : m ≤ 16384 := by rw [← h.2.1.1]; exact hN.la
  have hk : k ≤ 256 := by rw [← h.2.2.1]; exact hN.lt
  clear h hN
  go_enter Tryz.func45, Tryz.ntmps45
  go_wp2_with fail
  (refine calls_named ?_; intro w1 hw1)
  have hb1 : Below w.heap.size w w1 := by rw [hw1]; exact (by repeat (first | exact Below.refl _ _ | assumption | apply Below.drew | apply below_drewN | apply Bel.alloc | (refine Bel.setCell_ ?_ ?_; rotate_left; omega) | (refine Bel.step ?_ (by assumption))))
  have hJ : Blk w1 w.heap.size 95 #[.slice A n c, .slice B m d, .slice C k e] := by rw [hw1]; exact (by repeat (first | assumption | (refine Blk.new' _ _ _ ?_; first | with_unfolding_all rfl | (simp; done)) | apply Blk.drewN | apply Blk.drew | apply Blk.alloc | (refine Blk.far_ ?_ ?_ _; rotate_left; omega)))
  clear hw1
  with_reducible refine (netCheck_ok A B C n m k c d e N w1 (HH.out.below hb1) HN.out).mono ?_
  rintro r w2 ⟨rfl, hb2⟩
  have hbw2 := Bel.step hb1 hb2
  obtain ⟨j0, j1, j2⟩ := (hJ.below hb2 hJ.lt).three
  clear hJ hb2
  go_wp2_with fail
  with_reducible refine (graphClone_any A B C n m k c d e N w2 (HH.out.below hbw2) (by omega) (by omega) (by omega) HN.out.costs).mono ?_
  rintro r w3 ⟨A', B', C', c', d', e', rfl, hR, hbc, q1, q2, q3, q4, q5, q6, hb3⟩
  have hbw3 := Bel.step hbw2 hb3
  have HC := Lib.hid (build_any _ A' B' C' n m k c' d' e' N w3 hR (fun b hb => hb.2.1) HN.out ⟨q1, q2⟩ ⟨q3, q4⟩ ⟨q5, q6⟩)
  have HBC := Lib.hid hbc
  have HWA := Lib.hid hR.wa
  have HWT := Lib.hid hR.wt
  clear hR hbc q1 q2 q3 q4 q5 q6 j0 j1 j2
  go_wp2_with fail
  with_reducible refine HC.out.mono ?_
  rintro r w4 ⟨g, rfl, hG, hb4⟩
  have HG := Lib.hid hG
  clear hG HC
  go_wp2_with fail
  go_ret2
  have h1 := hbw2.size
  have h3 := hb3.size
  have h4 := hb4.size
  refine ⟨g, rfl, HG.out.mono (fun b hb => ?_) (fun b hb => hb.2), Bel.step hbw3 hb4⟩
  rcases hb with hb | hb | hb | hb
  · exact ⟨by omega, by omega⟩
  · have z1 := HBC.out b (.inl hb); have z2 := (HWA.out b hb).1; exact ⟨by omega, by omega⟩
  · have z1 := HBC.out b (.inr hb); have z2 := (HWT.out b hb).1; exact ⟨by omega, by omega⟩
  · exact ⟨by omega, by omega⟩
set_option maxHeartbeats 1000000 in
theorem made8_ok (A B C : Option Addr) (n m k c d e : Nat) (N : NetD) (w : World) (h : RdNet w A B C n m k N) (hN : NetOk N) :
    Calls Tryz.prog 18 #[.agg #[.slice A n c, .slice B m d, .slice C k e]] w fun r w' => ∃ g, r = .returned (.pointer (some ⟨g, 0, none⟩)) ∧ GrO w' (fun b => w.heap.size ≤ b ∧ b < w'.heap.size) g N ∧ Below w.heap.size w w' := by
  have HH := Lib.hid h
  have HN := Lib.hid hN
  have hn : n ≤ 4096 := by rw [← h.1.1]; exact hN.lv
  have hm : m ≤ 16384 := by rw [← h.2.1.1]; exact hN.la
  have hk : k ≤ 256 := by rw [← h.2.2.1]; exact hN.lt
  clear h hN
  go_enter Tryz.func18, Tryz.ntmps18
  go_wp2_with fail
  (refine calls_named ?_; intro w1 hw1)
  have hb1 : Below w.heap.size w w1 := by rw [hw1]; exact (by repeat (first | exact Below.refl _ _ | assumption | apply Below.drew | apply below_drewN | apply Bel.alloc | (refine Bel.setCell_ ?_ ?_; rotate_left; omega) | (refine Bel.step ?_ (by assumption))))
  clear hw1
  with_reducible refine (netTo_any A B C n m k c d e N w1 (HH.out.below hb1) (by omega) (by omega) (by omega) HN.out.costs).mono ?_
  rintro r w2 ⟨A', B', C', c', d', e', rfl, hR, hb2⟩
  have hbw2 := Bel.step hb1 hb2
  have HC := Lib.hid (graphNew_ok A' B' C' n m k c' d' e' N w2 hR HN.out)
  clear hR
  go_wp2_with fail
  with_reducible refine HC.out.mono ?_
  rintro r w3 ⟨g, rfl, hG, hb3⟩
  have HG := Lib.hid hG
  clear hG HC
  go_wp2_with fail
  go_ret
  have h1 := hbw2.size
  exact ⟨g, rfl, HG.out.mono (fun b hb => ⟨by omega, hb.2⟩) (fun b hb => hb.2), Bel.step hbw2 hb3⟩
end Go.Proofs.YtgkeolddpielpaaGreat
