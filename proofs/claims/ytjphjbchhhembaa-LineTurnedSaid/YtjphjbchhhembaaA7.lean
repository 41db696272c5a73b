/- Copies, known of layer 10. -/
import Derived.Test.YtjphjbchhhembaaPl1
import Derived.Test.YtjphjbchhhembaaApp
namespace Go.Proofs.Ytjphjbchhhembaa
open Go.RowKit

theorem Try.infoP : (Try.prog.info? 30).map (fun i => (i.zero, i.size, i.bytes)) = some (some (.agg #[.int .i64 0, .int .i64 0]), 2, 16) := by kernel_rfl

set_option maxHeartbeats 400000 in
theorem copies_any (A : Option Addr) (n c : Nat) (l : List (Int × Int)) (w : World) (h : RdP w A n l) (hn : n ≤ 1000000000) :
    Calls Try.prog 15 #[.slice A n c] w fun e w' => ∃ A' c', e = .returned (.slice A' n c') ∧ RdP w' A' n l ∧ Below w.heap.size w w' := by
  have hb1 : ∀ o, Below w.heap.size w (w.alloc o) := fun o => (Below.refl _ _).alloc (Nat.le_refl _) o
  have hown0 : Own (w.alloc (.cells #[] 30)) w.heap.size 30 2 (some ⟨w.heap.size, 0, none⟩) 0 0 [] := Own.lit w #[] 0 (Nat.le_refl _) (by omega) rfl
  go_enter Try.func15, Try.ntmps15
  go_wp2_with (at_builtin; with_reducible refine wpList_app rfl (.tmp 3) (.tmp 4) 22 rfl 30 _ 2 16 Try.infoP Try.underlying22 rfl (by omega) (B := w.heap.size) rfl rfl hown0 (h.below (hb1 _)).rds (pcells_one _) (by omega) (by omega) (by simp) ?_)
  intro A' c' w' hown hg _
  have hb2 : Below w.heap.size w w' := Bel.grownOwn (hb1 _) hg hown0 (by simp)
  go_wp2
  go_ret
  exact ⟨_, _, rfl, (by simpa using hown.rds : Rds w' 2 A' n (pcells l)).rdP, hb2⟩
end Go.Proofs.Ytjphjbchhhembaa
