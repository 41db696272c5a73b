/- law17.Made. -/
import Derived.Test.YtgkeolddpielpaaGreatOn
import Derived.Test.YtgkeolddpielpaaGreatPo
import Derived.Test.YtgkeolddpielpaaGreatG4
namespace Go.Proofs.YtgkeolddpielpaaGreat
open Go.RowKit

attribute [local go_sem ↓] Go.wp_at_zero Go.wp_at_succ

set_option maxHeartbeats 1000000 in
theorem made17_ok (A B C Q : Option Addr) (n m k c d e L cq : Nat) (N : NetD) (ls : List (List Int)) (w : World) (h : RdNet w A B C n m k N) (hN : NetOk N) (hq : RdT w Q L ls) (hP : PartOk N.vs.length ls) :
    Calls Tryz.prog 9 #[.agg #[.slice A n c, .slice B m d, .slice C k e], .agg #[.slice Q L cq]] w fun r w' => ∃ o, r = .returned (.pointer (some ⟨o, 0, none⟩)) ∧ RdOv (msk w' (fun b => w.heap.size ≤ b ∧ b < w'.heap.size)) o N.ar ls ∧ Below w.heap.size w w' := by
  have HH := Lib.hid h
  have HN := Lib.hid hN
  have HT := Lib.hid hq
  have HP := Lib.hid hP
  have hn4 := hN.lv
  have l6 : L ≤ 6 := by rw [← hq.1]; exact hP.l6
  have HVL := Lib.hid hn4
  clear h hN hq hP hn4
  go_enter Tryz.func9, Tryz.ntmps9
  go_wp2_with fail
  (refine calls_named ?_; intro w1 hw1)
  have hb1 : Below w.heap.size w w1 := by rw [hw1]; exact (by repeat (first | exact Below.refl _ _ | assumption | apply Below.drew | apply below_drewN | apply Bel.alloc | (refine Bel.setCell_ ?_ ?_; rotate_left; omega) | (refine Bel.step ?_ (by assumption))))
  have hQ : Blk w1 (w.heap.size + 1) 29 #[.slice Q L cq] := by rw [hw1]; exact (by repeat (first | assumption | (refine Blk.new' _ _ _ ?_; first | with_unfolding_all rfl | (simp; done)) | apply Blk.drewN | apply Blk.drew | apply Blk.alloc | (refine Blk.far_ ?_ ?_ _; rotate_left; omega)))
  clear hw1
  with_reducible refine (made8_ok A B C n m k c d e N w1 (HH.out.below hb1) HN.out).mono ?_
  rintro r w2 ⟨g, rfl, hG, hb2⟩
  have hbw2 := Bel.step hb1 hb2
  have HG := Lib.hid hG.rd
  have y0 := (hQ.below hb2 hQ.lt).cell 0
  simp only [List.getElem?_toArray, List.getElem?_cons_zero] at y0
  clear hG hb2 hQ
  go_wp2_with fail
  with_reducible refine (partTo_any Q L cq ls w2 (HT.out.below hbw2) (by omega) (fun l hl => by have := (HP.out.lvl l hl).len; have := HVL.out; omega)).mono ?_
  rintro r w3 ⟨Q3, cq3, rfl, hq3, _, _, hb3⟩
  have hbw3 := Bel.step hbw2 hb3
  have HQ3 := Lib.hid (hq3.le (msk_le _ _))
  have HG3 := Lib.hid (HG.out.below hb3)
  clear hq3 hb3 y0
  go_wp2_with fail
  with_reducible refine (overNew_ok g N Q3 L cq3 _ ls w3 HG3.out HN.out HQ3.out HP.out rfl).mono ?_
  rintro r w4 ⟨o, rfl, hO, hb4⟩
  have hz3 := hbw3.size
  have HO := Lib.hid (hO.le (msk_mono (G' := fun b => w.heap.size ≤ b ∧ b < w4.heap.size) (fun b hb => ⟨by omega, hb.2⟩)))
  have hbw4 := Bel.step hbw3 hb4
  clear hO hb4
  go_wp2_with fail
  go_ret
  exact ⟨o, rfl, HO.out, hbw4⟩
end Go.Proofs.YtgkeolddpielpaaGreat
