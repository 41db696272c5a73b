/- save.Join where the table is none. -/
import Derived.Test.YtjphjbchhhembaaGreatDoorJoin
namespace Go.Proofs.YtjphjbchhhembaaGreatDoor
open Go.RowKit

attribute [local go_sem ↓] Go.wp_at_zero Go.wp_at_succ

set_option maxHeartbeats 1000000 in
theorem saveJoin_len (dep cap lim : Int) (A T : Option Addr) (n c tn tc : Nat) (w : World) (hne : tn ≠ n + 1) (hn : n ≤ 1000000000) :
    Calls Tryz.prog 7 #[jobV dep cap lim A n c, .slice T tn tc] w fun e w' => ∃ v, e = .returned (.tuple #[.slice none 0 0, v]) ∧ Chain w' v [(⟨#[116, 97, 98, 108, 101]⟩, 0)] 1 ∧ Below w.heap.size w w' := by
  have HF := Lib.hid (show ∀ V, Calls Tryz.prog 20 #[jobV dep cap lim A n c, .slice T tn tc] V fun e w' => ∃ v, e = .returned v ∧ Chain w' v [(⟨#[116, 97, 98, 108, 101]⟩, 0)] 1 ∧ Below V.heap.size V w' from fun V => jobFits_len dep cap lim A T n c tn tc V hne hn)
  clear hne
  go_enter Tryz.func7, Tryz.ntmps7
  go_wp2_with fail
  with_reducible refine (HF.out _).mono ?_
  rintro e w2 ⟨v, rfl, hch, hb⟩
  have hb2 : Below w.heap.size w w2 := Bel.step (by repeat (first | exact Below.refl _ _ | assumption | apply Below.drew | apply below_drewN | apply Bel.alloc | (refine Bel.setCell_ ?_ ?_; rotate_left; omega) | (refine Bel.step ?_ (by assumption)))) hb
  obtain ⟨t, x, rfl⟩ := chain_not_nil hch
  have HC := Lib.hid hch
  clear hch
  go_wp2_with fail
  go_ret2
  exact ⟨_, rfl, HC.out, hb2⟩
end Go.Proofs.YtjphjbchhhembaaGreatDoor
