/- Parts of the proof: Nt5. -/
import Derived.Test.YtpffhoefmcpniaaGreatDoorB1
import Derived.Test.YtpffhoefmcpniaaGreatDoorB22
namespace Go.Proofs.YtpffhoefmcpniaaGreatDoor
open Go.RowKit

attribute [local go_sem ↓] Go.wp_at_zero Go.wp_at_succ

theorem infoPart : (Tryz.prog.info? 101).map (fun i => (i.zero, i.size, i.bytes)) = some (some (.agg #[.string ⟨#[]⟩, .int .i64 0]), 2, 24) := by kernel_rfl
set_option maxHeartbeats 1000000 in
theorem refWithin_any (s : ByteArray) (at_ : Int) (A : Option Addr) (k c B : Nat) (x : Int) (w : World) (hx : x ≠ 0) (hg : Wg B w A k c) :
 Calls Tryz.prog 72 #[.string s, .int .i64 at_, .agg #[.slice A k c, .int .i64 x]] w fun e w' => (∃ A' k' c', e = .returned (.agg #[.slice A' k' c', .int .i64 x])) ∧ Below w.heap.size w w' := by
 obtain ⟨xs, ho, hone, hk⟩ := hg
 have hr := ho.rds
 have HR := Lib.hid hr
 have HO := Lib.hid hone
 clear ho hone hr
 go_enter Tryz.func72, Tryz.ntmps72
 go_wp2_with fail
 (refine wp_named ?_; intro w1 hw1)
 have hb1 : Below w.heap.size w w1 := by rw [hw1]; exact bELt
 have hT1 : Blk w1 w.heap.size 42 #[.slice A k c, .int .i64 x] := by rw [hw1]; exact bLNt
 have hB1 : Blk w1 (w.heap.size + 1) 42 #[.slice none 0 0, .int .i64 0] := by rw [hw1]; exact bLNt
 have hz1 : w1.heap.size = w.heap.size + 1 + 1 := by rw [hw1]; simp
 clear hw1
 obtain ⟨t0, t1, _, _⟩ := hT1.two
 go_wp2_with fail
 have hb0 : Below (w.heap.size + 1) w1 w1.drew := (Below.refl _ _).drew
 have HSX := Lib.hid (show ∀ V, Below (w.heap.size + 1) w1 V → V.cell? ⟨w.heap.size, 0, none⟩ = some (.slice A k c) ∧ V.cell? ⟨w.heap.size, 1, none⟩ = some (.int .i64 x) from fun V hV => ⟨(hV.cell (Nat.lt_succ_self _)).trans t0, (hV.cell (Nat.lt_succ_self _)).trans t1⟩)
 refine wp_region_held_drew (S := fun V => Below (w.heap.size + 1) w1 V) (by kernel_rfl) hb0 (fun _ => ?_)
 refine tk 0 11 (h := ⟨_, tv, ?_⟩)
 simp only [pE, List.set]
 refine tk 1 12 (h := ⟨_, tv, ?_⟩)
 simp only [pE, List.set]
 refine tk 2 13 (h := ⟨_, tv, ?_⟩)
 simp only [pE, List.set]
 refine tk 4 15 (h := ⟨_, tv, ?_⟩)
 simp only [pE, List.set]
 refine tk 5 16 (h := ⟨_, tv, ?_⟩)
 simp only [pE, List.set]
 refine tk 7 18 (h := ⟨_, tv, ?_⟩)
 simp only [pE, List.set]
 refine tk 8 19 (h := ⟨_, tv, ?_⟩)
 simp only [pE, List.set]
 refine wpAnyH_ready (rs := [3]) (by kernel_rfl) (by simp) ?_
 refine AllReadyH.cons (o := _) rfl (fun K hK => ?_) AllReadyH.nil
 go_simp
 obtain ⟨W, hW⟩ : ∃ W, W = (w1.alloc (.cells #[.string s, .int .i64 at_] 101)).drew := ⟨_, rfl⟩
 rw [← hW]
 have hownW : Own W (w.heap.size + 1 + 1) 101 2 (some ⟨w1.heap.size, 0, none⟩) 1 1 [.string s, .int .i64 at_] := by
  rw [hW]; exact Own.drew (Own.lit w1 #[.string s, .int .i64 at_] 1 (by omega) (by omega) rfl)
 rw [hz1] at hownW
 have hbW : Below (w.heap.size + 1) w1 W := by rw [hW]; exact ((Below.refl _ _).alloc (by omega) _).drew
 have hB2 : Blk W (w.heap.size + 1) 42 #[.slice none 0 0, .int .i64 0] := by rw [hW]; exact bLKt
 have hrW : Rds W 2 A k xs := HR.out.below (hb1.trans (hbW.mono (by omega)))
 have hzW : w.heap.size + 1 + 1 ≤ W.heap.size := by have := hbW.size; omega
 have hbwW : Below w.heap.size w W := hb1.trans (hbW.mono (by omega))
 clear hW
 refine hK.out _ _ hbW (fun _ => ?_)
 clear hK K
 refine wpAnyH_ready (rs := [6]) (by kernel_rfl) (by simp) ?_
 refine AllReadyH.cons (o := _) rfl (fun K hK => ?_) AllReadyH.nil
 with_reducible refine step_app' (some 17) rfl rfl (.tmp 14) (.tmp 16) 40 rfl 101 _ 2 24 infoPart Tryz.underlying40 rfl (by omega) rfl rfl hownW hrW HO.out (by omega) (by omega) hzW ?_
 intro A' c' w' hown' hg' _
 have hb5 : Below (w.heap.size + 1) w1 w' := Bel.grownOwn hbW hg' (hownW.mono (by omega)) (by omega)
 have hb6 : Below w.heap.size w w' := Bel.grownOwn hbwW hg' (hownW.mono (by omega)) (by omega)
 have hB' := hB2.grown hg' (hownW.ne (by omega))
 refine hK.out _ _ hb5 (fun _ => ?_)
 clear hK K hownW hrW hg' hown'
 simp only [Act.put, List.setIfInBounds_toArray, List.set_cons_zero, List.set_cons_succ]
 obtain ⟨c0, c1, f0, f1⟩ := hB'.two
 refine tk 9 20 (h := ⟨_, tv, ?_⟩)
 simp only [pE, List.set]
 refine wpAnyH_ready (rs := [10]) (by kernel_rfl) (by simp) ?_
 refine AllReadyH.cons (o := _) rfl (fun K hK => ?_) AllReadyH.nil
 go_simp
 refine hK.out _ _ ((hb5.setCell (by simp only; omega) _).setCell (by simp only; omega) _) (fun _ => ?_)
 clear hK K
 refine wpAnyH_done (by kernel_rfl) ?_ _
 go_wp2_with fail
 refine bodyPost_ret (v := .agg #[.slice A' (1 + k) c', .int .i64 x]) (by simp [results, Tryz.results72, go_sem, c0, c1]) rfl ?_
 exact ⟨⟨_, _, _, rfl⟩, bELt⟩
end Go.Proofs.YtpffhoefmcpniaaGreatDoor
