/- Fit of the law. -/
import Derived.Test.YtjphjbchhhembaaGreatDoorFit2
namespace Go.Proofs.YtjphjbchhhembaaGreatDoor
open Go.RowKit

attribute [local go_sem ↓] Go.wp_at_zero Go.wp_at_succ

set_option maxHeartbeats 2000000 in
theorem fit_any (dep cap lim : Int) (A T : Option Addr) (n c tn tc : Nat) (st : List (Int × Int)) (ls : List (List Int)) (w : World) (h : RdP w A n st) (ht : RdT w T tn ls) (htn : tn ≤ 4000000000000000000) :
    Calls Tryz.prog 6 #[jobV dep cap lim A n c, .slice T tn tc] w fun e w' => RetIf (n ≤ 9 ∧ LdOk st ∧ sqB (n + 1) ls = true ∧ FitsP cap lim ls st) e ∧ Below w.heap.size w w' := by
  have H1 := Lib.hid (show ∀ V, Below w.heap.size w V → Calls Tryz.prog 17 #[.slice T tn tc] V fun e w' => RetIf (tn ≤ 60) e ∧ Below V.heap.size V w' from fun V hV => few_any T tn tc ls V (ht.below hV) htn)
  have H2 := Lib.hid (show n ≤ 9 → ∀ V, Below w.heap.size w V → Calls Tryz.prog 18 #[jobV dep cap lim A n c] V fun e w' => RetIf (LdOk st) e ∧ Below V.heap.size V w' from fun h9 V hV => some_any dep cap lim A n c st V (h.below hV) (by omega))
  have H3 := Lib.hid (show n ≤ 9 → tn ≤ 60 → ∀ V, Below w.heap.size w V → Calls Tryz.prog 19 #[jobV dep cap lim A n c, .slice T tn tc] V fun e w' => ∃ ok v, e = .returned v ∧ WOk ok v ∧ (ok = true → sqB (n + 1) ls = true ∧ FitsP cap lim ls st) ∧ Below V.heap.size V w' from fun h9 h60 V hV => refFits_any dep cap lim A T n c tn tc st ls V (h.below hV) (ht.below hV) (by omega) (by omega))
  have hfe := fieldErr
  by_cases g : n ≤ 9
  · have g1 : (n : Int) ≤ 9 := by omega
    clear h ht
    go_enter Tryz.func6, Tryz.ntmps6
    go_wp2_with fail
    (refine calls_named ?_; intro w1 hw1)
    have hb1 : Below w.heap.size w w1 := by rw [hw1]; exact (by repeat (first | exact Below.refl _ _ | assumption | apply Below.drew | apply below_drewN | apply Bel.alloc | (refine Bel.setCell_ ?_ ?_; rotate_left; omega) | (refine Bel.step ?_ (by assumption))))
    have hJ : Blk w1 w.heap.size 24 #[.int .i64 dep, .int .i64 cap, .int .i64 lim, .slice A n c] := by rw [hw1]; exact (by repeat (first | assumption | (refine Blk.new' _ _ _ ?_; first | with_unfolding_all rfl | (simp; done)) | apply Blk.drewN | apply Blk.drew | apply Blk.alloc | (refine Blk.far_ ?_ ?_ _; rotate_left; omega)))
    clear hw1
    with_reducible refine (H1.out _ hb1).mono ?_
    rintro e w2 ⟨⟨b, rfl, hfew⟩, hb⟩
    have hb2 : Below w.heap.size w w2 := Bel.step hb1 hb
    have hJ2 := hJ.below hb hJ.lt
    clear hJ hb
    obtain ⟨j0, j1, j2, j3⟩ := hJ2.four
    cases b
    · clear hfew
      go_wp2_with fail
      go_ret
      exact ⟨⟨false, rfl, (fun h => by cases h)⟩, hb2⟩
    · have h60 := hfew rfl
      clear hfew
      go_wp2_with fail
      with_reducible refine (H2.out g _ hb2).mono ?_
      rintro e w3 ⟨⟨b, rfl, hl⟩, hb⟩
      have hb3 : Below w.heap.size w w3 := Bel.step hb2 hb
      have hJ3 := hJ2.below hb hJ2.lt
      clear hJ2 hb j0 j1 j2 j3
      obtain ⟨j0, j1, j2, j3⟩ := hJ3.four
      cases b
      · clear hl
        go_wp2_with fail
        go_ret
        exact ⟨⟨false, rfl, (fun h => by cases h)⟩, hb3⟩
      · have HL := Lib.hid (hl rfl)
        clear hl
        go_wp2_with fail
        with_reducible refine (H3.out g h60 _ hb3).mono ?_
        rintro e w4 ⟨ok, v, rfl, ⟨A2, n2, m2, c2, rfl, hok⟩, hld, hb⟩
        have hb4 : Below w.heap.size w w4 := Bel.step hb3 hb
        have HK := Lib.hid hok
        have HD := Lib.hid hld
        have G := Lib.hid g
        clear hok hld hb hJ3 j0 j1 j2 j3 g
        go_wp2_with fail
        go_ret
        exact ⟨⟨_, rfl, fun h => by
          have := HD.out (HK.out.1 (by simpa using h))
          exact ⟨G.out, HL.out, this.1, this.2⟩⟩, hb4⟩
  · have g1 : ¬ (n : Int) ≤ 9 := by omega
    clear h ht
    go_enter Tryz.func6, Tryz.ntmps6
    go_wp2_with fail
    go_ret
    exact ⟨⟨false, rfl, (fun h => by cases h)⟩, (by repeat (first | exact Below.refl _ _ | assumption | apply Below.drew | apply below_drewN | apply Bel.alloc | (refine Bel.setCell_ ?_ ?_; rotate_left; omega) | (refine Bel.step ?_ (by assumption))))⟩
end Go.Proofs.YtjphjbchhhembaaGreatDoor
