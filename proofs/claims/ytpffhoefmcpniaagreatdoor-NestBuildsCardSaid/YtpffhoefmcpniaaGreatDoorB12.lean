/- Parts of the proof: QFl9. -/
import Derived.Test.YtpffhoefmcpniaaGreatDoorB1
import Derived.Test.YtpffhoefmcpniaaGreatDoorB11
namespace Go.Proofs.YtpffhoefmcpniaaGreatDoor
open Go.RowKit

attribute [local go_sem ↓] Go.wp_at_zero Go.wp_at_succ

def Got (B : Nat) (w1 : World) (n m : Nat) (ls : List (List Lnk)) (v1 v2 v3 : Value) (W : World) : Prop :=
 ∃ (g1 g2 g3 : Nat) (w0 : World), v1 = .slice (some ⟨g1, 0, none⟩) n n ∧ v2 = .slice (some ⟨g2, 0, none⟩) m m ∧ v3 = .slice (some ⟨g3, 0, none⟩) n n ∧ B ≤ w1.heap.size ∧ Below w1.heap.size w1 W ∧
  Blk W g2 3 (zeros (.int .i64 0) m) ∧ Blk W g3 4 (zeros (.bool false) n) ∧ g2 ≠ g3 ∧ w1.heap.size ≤ g2 ∧ w1.heap.size ≤ g3 ∧ RdN w0 (some ⟨g1, 0, none⟩) n ls ∧ Subw w0 W ∧ Freew w0 g2 ∧ Freew w0 g3 ∧ Subw w1 w0

theorem Blk.up {a b : World} {g : Nat} {t : TypeId} {cs : Array Value} (hb : Below a.heap.size a b) (h : Blk a g t cs) : Blk b g t cs := h.below hb h.lt
theorem Got.of {B n m : Nat} {ls : List (List Lnk)} {w3 V w5 W : World} (g1 g2 g3 : Nat) (hg1 : V.heap.size = g1) (hB : B ≤ w3.heap.size) (hV : Below w3.heap.size w3 V) (h5 : Below V.heap.size V w5) (hW : Below w5.heap.size w5 W) (hg : ∀ lo, RdN (ghost lo V.heap.size w5) (some ⟨V.heap.size, 0, none⟩) n ls)
 (b2 : Blk W g2 3 (zeros (.int .i64 0) m)) (b3 : Blk W g3 4 (zeros (.bool false) n)) (hne : g2 ≠ g3) (h2 : (w3.heap.size ≤ g2 ∧ g2 < V.heap.size) ∨ w5.heap.size ≤ g2) (h3 : (w3.heap.size ≤ g3 ∧ g3 < V.heap.size) ∨ w5.heap.size ≤ g3) :
 Got B w3 n m ls (.slice (some ⟨g1, 0, none⟩) n n) (.slice (some ⟨g2, 0, none⟩) m m) (.slice (some ⟨g3, 0, none⟩) n n) W := by
 have h35 : Below w3.heap.size w3 w5 := Bel.step hV h5
 have hs := h35.size
 subst hg1
 exact ⟨V.heap.size, g2, g3, ghost w3.heap.size V.heap.size w5, rfl, rfl, rfl, hB, Bel.step h35 hW, b2, b3, hne, by omega, by omega, hg _, (ghost_sub _ _ _).below hW, ghost_free h2, ghost_free h3, sub_ghost h35 (Nat.le_refl _)⟩

section
variable {w0 W W' : World} {n m gw gf ge ct : Nat} {AT : Option Addr} {ls : List (List Lnk)} {f : List Int} {en : List Bool} {X3 X4 : Value}
theorem Wp.below (h : Wp w0 W n m gw gf ge ct AT ls f en X3 X4) (hb : Below W.heap.size W W') : Wp w0 W' n m gw gf ge ct AT ls f en X3 X4 :=
 ⟨h.at0, h.bel.below hb, h.z, h.ne, h.bw.below hb h.bw.lt, h.bf.below hb h.bf.lt, h.be.below hb h.be.lt, h.lf, h.le⟩
theorem Wp.grown {r : Nat} (h : Wp w0 W n m gw gf ge ct AT ls f en X3 X4) (hg : W.grownBy W' (some r)) (hr : Freew w0 r ∧ r ≠ gw ∧ r ≠ gf ∧ r ≠ ge) : Wp w0 W' n m gw gf ge ct AT ls f en X3 X4 :=
 ⟨h.at0, h.bel.grown hg hr.1, h.z, h.ne, h.bw.grown hg (fun e => hr.2.1 (by injection e)), h.bf.grown hg (fun e => hr.2.2.1 (by injection e)), h.be.grown hg (fun e => hr.2.2.2 (by injection e)), h.lf, h.le⟩
theorem Wp.setE {v : Nat} {en' : List Bool} (h : Wp w0 W n m gw gf ge ct AT ls f en X3 X4) (e : en.set v true = en') : Wp w0 (W.setCell ⟨ge, v, none⟩ (.bool true)) n m gw gf ge ct AT ls f en' X3 X4 :=
 ⟨h.at0, h.bel.setCell h.z.2.2 _, h.z, h.ne, h.bw.far_ h.ne.2.1 _, h.bf.far_ h.ne.2.2 _, h.be.setB e, h.lf, by rw [← e, List.length_set]; exact h.le⟩
end
theorem KeepX.below {S : Nat → Prop} {B : Nat} {a b : World} (h : KeepX S a b) (hB : B ≤ a.heap.size) (hS : ∀ k, S k → B ≤ k) : Below B a b :=
 ⟨h.os, h.tape, h.output, h.size, fun k hk => h.block k (by omega) (fun e => by have := hS k e; omega)⟩

set_option maxHeartbeats 8000000 in
theorem max_any (A AS AD : Option Addr) (n m c ks cs kd cd : Nat) (E : List Edg) (s t : List Nat) (w : World) (h : RdP w A m E) (hE : Ends n E) (hs : RdI w AS ks (nats s)) (ht : RdI w AD kd (nats t)) (hsn : ∀ v ∈ s, v < n) (htn : ∀ v ∈ t, v < n) (hd : ∀ v ∈ t, v ∉ s) (hn : n ≤ 4096) (hm : m ≤ 16384) (hks : ks ≤ 1000000) (hkd : kd ≤ 1000000) :
 Calls Tryz.prog 106 #[.int .i64 n, .slice A m c, .slice AS ks cs, .slice AD kd cd] w fun e w' => ∃ (V g1 g2 g3 : Nat) (nb fb : List Bool), e = .returned (.tuple #[.agg #[.int .i64 V, .slice (some ⟨g1, 0, none⟩) m m, .slice (some ⟨g2, 0, none⟩) n n, .slice (some ⟨g3, 0, none⟩) n n], .nilIface]) ∧
  RdB w' (some ⟨g2, 0, none⟩) n nb ∧ RdB w' (some ⟨g3, 0, none⟩) n fb ∧ NearB n E s t nb ∧ FarB n E s t fb ∧ cr fb E = cr nb E ∧ Below w.heap.size w w' ∧ w.heap.size < g2 ∧ w.heap.size < g3 := by
 have HCK := Lib.hid (show ∀ V, Below w.heap.size w V → Calls Tryz.prog 121 #[.int .i64 n, .slice A m c, .slice AS ks cs, .slice AD kd cd] V fun e w' => e = .returned .nilIface ∧ Below V.heap.size V w' from
  fun V hb => check_ok A AS AD n m c ks cs kd cd E s t V (h.below hb) hE (hs.below hb) (ht.below hb) hsn htn hd hn hm hks hkd)
 have HLK := Lib.hid (show ∀ V, Below w.heap.size w V → Calls Tryz.prog 122 #[.int .i64 n, .slice A m c] V fun e w' => e = .returned (.slice (some ⟨V.heap.size, 0, none⟩) n n) ∧ RdN w' (some ⟨V.heap.size, 0, none⟩) n (lksTo n E m) ∧ Below V.heap.size V w' ∧ ∀ lo, RdN (ghost lo V.heap.size w') (some ⟨V.heap.size, 0, none⟩) n (lksTo n E m) from
  fun V hb => links_any A n m c E V (h.below hb) hE (by omega) (by omega))
 have hmkI := run_makeI m (by omega)
 have hmkB := run_makeB n (by omega)
 have hEm : E.length = m := h.1
 obtain ⟨hlk, hL⟩ := lkIn_of hE (by omega)
 rw [hEm] at hlk hL
 have HK := Lib.hid hlk
 have HL := Lib.hid hL
 have HE := Lib.hid hE
 have HSN := Lib.hid hsn
 have HTN := Lib.hid htn
 have HD := Lib.hid hd
 have HS := Lib.hid hs
 have HT := Lib.hid ht
 have HTL := Lib.hid ht.1
 clear h hE hs hsn htn hd hlk hL
 go_enter Tryz.func106, Tryz.ntmps106
 go_wp2_with fail
 (refine calls_named ?_; intro w1 hw1)
 have hb1 : Below w.heap.size w w1 := by rw [hw1]; exact bELt
 have hR1 : Blk w1 w.heap.size 202 #[.int .i64 0, .slice none 0 0, .slice none 0 0, .slice none 0 0] := by rw [hw1]; exact bLNt
 clear hw1
 with_reducible refine (HCK.out _ hb1).mono ?_
 rintro e w2 ⟨rfl, hb2⟩
 have hR2 := hR1.below hb2 hR1.lt
 have hbw2 : Below w.heap.size w w2 := Bel.step hb1 hb2
 clear hR1 hb1 hb2 HCK
 go_wp2_with fail
 refine wp_region_held_drew (S := fun _ => True) (by kernel_rfl) trivial (fun _ => ?_)
 obtain ⟨w3, hw3⟩ : ∃ w3, w3 = w2.drew := ⟨_, rfl⟩
 rw [← hw3]
 have hbw3 : Below w.heap.size w w3 := by rw [hw3]; exact hbw2.drew
 have hR3 : Blk w3 w.heap.size 202 #[.int .i64 0, .slice none 0 0, .slice none 0 0, .slice none 0 0] := by rw [hw3]; exact hR2.drew
 clear hw3 hbw2 hR2
 refine tk 0 25 (h := ⟨_, tv, ?_⟩)
 simp only [pE, List.set]
 refine tk 1 26 (h := ⟨_, tv, ?_⟩)
 simp only [pE, List.set]
 refine tk 3 28 (h := ⟨_, tv, ?_⟩)
 simp only [pE, List.set]
 refine tk 4 29 (h := ⟨_, tv, ?_⟩)
 simp only [pE, List.set]
 refine tk 6 31 (h := ⟨_, tv, ?_⟩)
 simp only [pE, List.set]
 have HB0 := Lib.hid hbw3.size
 obtain ⟨F, hF⟩ : ∃ F : Obj, F = .cells (zeros (.int .i64 0) m) 3 := ⟨_, rfl⟩
 obtain ⟨D, hD⟩ : ∃ D : Obj, D = .cells (zeros (.bool false) n) 4 := ⟨_, rfl⟩
 rw [← hF] at hmkI
 rw [← hD] at hmkB
 have bF := Lib.hid (fun W : World => show Blk (W.alloc F) W.heap.size 3 (zeros (.int .i64 0) m) from by rw [hF]; exact Blk.new _ _ _)
 have bD := Lib.hid (fun W : World => show Blk (W.alloc D) W.heap.size 4 (zeros (.bool false) n) from by rw [hD]; exact Blk.new _ _ _)
 have sA := Lib.hid (fun (W : World) (o : Obj) => show (W.alloc o).heap.size = W.heap.size + 1 from by simp)
 clear hF hD
 refine wpAnyH_three (G := Got w.heap.size w3 n m (lksTo n E m)) (L := #[true, true, true, true, true, true, true, true, false, false, false]) (f0 := 3) (some 27) (some 30) (some 32) rfl (fun C hC => ?_) ?_
 · refine wpC_ready (rs := [2, 5, 7]) (by kernel_rfl) (by simp) ?_
   refine AllC.cons (o := _) rfl (fun K hK => ?_) (AllC.cons (o := _) rfl (fun K hK => ?_) (AllC.cons (o := _) rfl (fun K hK => ?_) AllC.nil))
   · go_simp
     with_reducible refine (HLK.out _ hbw3).mono ?_
     rintro e w5 ⟨rfl, _, hb5, hg5⟩
     go_wp2_with fail
     refine hK.out _ _ trivial (fun _ => ?_)
     clear hK K
     refine wpC_ready (rs := [5, 7]) (by kernel_rfl) (by simp) ?_
     refine AllC.cons (o := _) rfl (fun K hK => ?_) (AllC.cons (o := _) rfl (fun K hK => ?_) AllC.nil)
     · go_simp
       refine hK.out _ _ trivial (fun _ => ?_)
       clear hK K
       refine wpC_ready (rs := [7]) (by kernel_rfl) (by simp) ?_
       refine AllC.cons (o := _) rfl (fun K hK => ?_) AllC.nil
       go_simp
       refine hK.out _ _ trivial (fun _ => ?_)
       clear hK K
       exact ⟨by kernel_rfl, hC.out _ _ _ _ (Got.of (V := w3) (w3.heap.size) w5.heap.size (w5.heap.size + 1) (by simp) HB0.out (Below.refl _ _) hb5 (Bel.alloc (Bel.alloc (Below.refl _ _))) hg5 ((bF.out w5).alloc D) (sA.out w5 F ▸ (bD.out (w5.alloc F))) (by have h9 := hb5.size; have h8 := sA.out w3 F; have h7 := sA.out w3 D; omega) (.inr (by first | omega | simp)) (.inr (by first | omega | simp)))⟩
     · go_simp
       refine hK.out _ _ trivial (fun _ => ?_)
       clear hK K
       refine wpC_ready (rs := [5]) (by kernel_rfl) (by simp) ?_
       refine AllC.cons (o := _) rfl (fun K hK => ?_) AllC.nil
       go_simp
       refine hK.out _ _ trivial (fun _ => ?_)
       clear hK K
       exact ⟨by kernel_rfl, hC.out _ _ _ _ (Got.of (V := w3) (w3.heap.size) (w5.heap.size + 1) w5.heap.size (by simp) HB0.out (Below.refl _ _) hb5 (Bel.alloc (Bel.alloc (Below.refl _ _))) hg5 (sA.out w5 D ▸ (bF.out (w5.alloc D))) ((bD.out w5).alloc F) (by have h9 := hb5.size; have h8 := sA.out w3 F; have h7 := sA.out w3 D; omega) (.inr (by first | omega | simp)) (.inr (by first | omega | simp)))⟩
   · go_simp
     refine hK.out _ _ trivial (fun _ => ?_)
     clear hK K
     refine wpC_ready (rs := [2, 7]) (by kernel_rfl) (by simp) ?_
     refine AllC.cons (o := _) rfl (fun K hK => ?_) (AllC.cons (o := _) rfl (fun K hK => ?_) AllC.nil)
     · go_simp
       with_reducible refine (HLK.out _ (Bel.alloc hbw3)).mono ?_
       rintro e w5 ⟨rfl, _, hb5, hg5⟩
       go_wp2_with fail
       refine hK.out _ _ trivial (fun _ => ?_)
       clear hK K
       refine wpC_ready (rs := [7]) (by kernel_rfl) (by simp) ?_
       refine AllC.cons (o := _) rfl (fun K hK => ?_) AllC.nil
       go_simp
       refine hK.out _ _ trivial (fun _ => ?_)
       clear hK K
       exact ⟨by kernel_rfl, hC.out _ _ _ _ (Got.of (V := (w3.alloc F)) (w3.heap.size + 1) w3.heap.size w5.heap.size (by simp) HB0.out (Bel.alloc (Below.refl _ _)) hb5 (Bel.alloc (Below.refl _ _)) hg5 ((Blk.up hb5 (bF.out w3)).alloc D) (bD.out w5) (by have h9 := hb5.size; have h8 := sA.out w3 F; have h7 := sA.out w3 D; omega) (.inl (by constructor <;> simp <;> omega)) (.inr (by first | omega | simp)))⟩
     · go_simp
       refine hK.out _ _ trivial (fun _ => ?_)
       clear hK K
       refine wpC_ready (rs := [2]) (by kernel_rfl) (by simp) ?_
       refine AllC.cons (o := _) rfl (fun K hK => ?_) AllC.nil
       go_simp
       with_reducible refine (HLK.out _ (Bel.alloc (Bel.alloc hbw3))).mono ?_
       rintro e w5 ⟨rfl, _, hb5, hg5⟩
       go_wp2_with fail
       refine hK.out _ _ trivial (fun _ => ?_)
       clear hK K
       exact ⟨by kernel_rfl, hC.out _ _ _ _ (Got.of (V := ((w3.alloc F).alloc D)) (w3.heap.size + 1 + 1) w3.heap.size (w3.heap.size + 1) (by simp) HB0.out (Bel.alloc (Bel.alloc (Below.refl _ _))) hb5 (Below.refl _ _) hg5 (Blk.up hb5 ((bF.out w3).alloc D)) (Blk.up hb5 (sA.out w3 F ▸ (bD.out (w3.alloc F)))) (by have h9 := hb5.size; have h8 := sA.out w3 F; have h7 := sA.out w3 D; omega) (.inl (by constructor <;> simp <;> omega)) (.inl (by constructor <;> simp <;> omega)))⟩
   · go_simp
     refine hK.out _ _ trivial (fun _ => ?_)
     clear hK K
     refine wpC_ready (rs := [2, 5]) (by kernel_rfl) (by simp) ?_
     refine AllC.cons (o := _) rfl (fun K hK => ?_) (AllC.cons (o := _) rfl (fun K hK => ?_) AllC.nil)
     · go_simp
       with_reducible refine (HLK.out _ (Bel.alloc hbw3)).mono ?_
       rintro e w5 ⟨rfl, _, hb5, hg5⟩
       go_wp2_with fail
       refine hK.out _ _ trivial (fun _ => ?_)
       clear hK K
       refine wpC_ready (rs := [5]) (by kernel_rfl) (by simp) ?_
       refine AllC.cons (o := _) rfl (fun K hK => ?_) AllC.nil
       go_simp
       refine hK.out _ _ trivial (fun _ => ?_)
       clear hK K
       exact ⟨by kernel_rfl, hC.out _ _ _ _ (Got.of (V := (w3.alloc D)) (w3.heap.size + 1) w5.heap.size w3.heap.size (by simp) HB0.out (Bel.alloc (Below.refl _ _)) hb5 (Bel.alloc (Below.refl _ _)) hg5 (bF.out w5) ((Blk.up hb5 (bD.out w3)).alloc F) (by have h9 := hb5.size; have h8 := sA.out w3 F; have h7 := sA.out w3 D; omega) (.inr (by first | omega | simp)) (.inl (by constructor <;> simp <;> omega)))⟩
     · go_simp
       refine hK.out _ _ trivial (fun _ => ?_)
       clear hK K
       refine wpC_ready (rs := [2]) (by kernel_rfl) (by simp) ?_
       refine AllC.cons (o := _) rfl (fun K hK => ?_) AllC.nil
       go_simp
       with_reducible refine (HLK.out _ (Bel.alloc (Bel.alloc hbw3))).mono ?_
       rintro e w5 ⟨rfl, _, hb5, hg5⟩
       go_wp2_with fail
       refine hK.out _ _ trivial (fun _ => ?_)
       clear hK K
       exact ⟨by kernel_rfl, hC.out _ _ _ _ (Got.of (V := ((w3.alloc D).alloc F)) (w3.heap.size + 1 + 1) (w3.heap.size + 1) w3.heap.size (by simp) HB0.out (Bel.alloc (Bel.alloc (Below.refl _ _))) hb5 (Below.refl _ _) hg5 (Blk.up hb5 (sA.out w3 D ▸ (bF.out (w3.alloc D)))) (Blk.up hb5 ((bD.out w3).alloc F)) (by have h9 := hb5.size; have h8 := sA.out w3 F; have h7 := sA.out w3 D; omega) (.inl (by constructor <;> simp <;> omega)) (.inl (by constructor <;> simp <;> omega)))⟩
 · rintro v1 v2 v3 w6 ⟨gl, gf, ge, w0, rfl, rfl, rfl, hB, hb36, hF6, hD6, hne, hgf, hge, hl0, hsub, hfr2, hfr3, hsub0⟩
   simp only [Act.put, List.setIfInBounds_toArray, List.set_cons_zero, List.set_cons_succ]
   obtain ⟨W7, hW7⟩ : ∃ W7, W7 = w6.alloc (.cells #[.slice (some ⟨gl, 0, none⟩) n n, .slice (some ⟨gf, 0, none⟩) m m, .slice (some ⟨ge, 0, none⟩) n n, .slice none 0 0, .slice none 0 0] 219) := ⟨_, rfl⟩
   have hwp7 : Wp w0 W7 n m w6.heap.size gf ge n (some ⟨gl, 0, none⟩) (lksTo n E m) (List.replicate m 0) (mkB n (t.take 0)) (.slice none 0 0) (.slice none 0 0) := by
    rw [hW7]
    exact ⟨hl0, hsub.below ((Below.refl _ _).alloc (Nat.le_refl _) _), ⟨hsub.free (Nat.le_refl _), hfr2, hfr3⟩, ⟨Nat.ne_of_gt hF6.lt, Nat.ne_of_gt hD6.lt, hne⟩, Blk.new _ _ _, by rw [← zeros_int]; exact hF6.alloc _, by rw [mkB_nil]; exact hD6.alloc _, by simp, mkB_len _ _⟩
   have hb37 : Below w3.heap.size w3 W7 := by rw [hW7]; exact Bel.alloc hb36
   have hgw : w3.heap.size ≤ w6.heap.size := hb36.size
   refine tk 8 33 (h := ⟨_, tv, ?_⟩)
   simp only [pE, List.set]
   refine wpAnyH_ready (rs := [9]) (by kernel_rfl) (by simp) ?_
   refine AllReadyH.cons (o := _) rfl (fun K hK => ?_) AllReadyH.nil
   go_simp
   refine hK.out _ _ trivial (fun _ => ?_)
   clear hK K
   refine tk 10 11 (h := ⟨_, tv, ?_⟩)
   simp only [pE, List.set]
   refine wpAnyH_done (by kernel_rfl) ?_ _
   rw [← hW7]
   generalize w6.heap.size = gw at *
   clear hW7 hb36 hF6 hD6 hl0 hsub hfr2 hfr3 hmkI hmkB bF bD sA HLK w6
   go_wp2_with fail
   have HWP7 := Lib.hid hwp7
   clear hwp7
   go_loopw [37] (fun i W => Below w3.heap.size w3 W ∧ ∃ k : Nat, k ≤ kd ∧ i = .int .i64 k ∧ Wp w0 W n m gw gf ge n (some ⟨gl, 0, none⟩) (lksTo n E m) (List.replicate m 0) (mkB n (t.take k)) (.slice none 0 0) (.slice none 0 0)) (fun i _ => kd - (intOf i).toNat)
   case atStart => exact ⟨hb37, 0, Nat.zero_le _, rfl, HWP7.out⟩
   case round =>
    clear hb37 HWP7
    obtain ⟨hbl, k, hk, rfl, hwp⟩ := hrel
    by_cases hlt : k < kd
    · obtain ⟨b, o, x, rfl, hx, cx⟩ := ht.at_ hlt
      obtain ⟨p, hp, rfl⟩ := nats_inv hx
      have hpn := HTN.out p (List.mem_of_getElem? hp)
      have j1 := Below.cellOf (Bel.step hbw3 hbl) (Nat.le_refl _) cx
      have i1 : (0 : Int) ≤ (k : Int) := by omega
      have i2 : (k : Int) < (kd : Int) := by omega
      have i3 : (0 : Int) ≤ (p : Int) := by omega
      have i4 : (p : Int) < (n : Int) := by omega
      have HN := Lib.hid (mkB_next (n := n) hp)
      obtain ⟨z, hz⟩ : ∃ z, (mkB n (t.take k))[p]? = some z := ⟨_, List.getElem?_eq_getElem (by rw [mkB_len]; exact hpn)⟩
      have c1 := hwp.be.cellB hz
      have c1f := hwp.be.frozen p
      have y2 := hwp.bw.five.2.2.1
      have HW2 := Lib.hid (hwp.setE HN.out)
      have hbn : Below w3.heap.size w3 (wr.setCell ⟨ge, p, none⟩ (.bool true)) := hbl.setCell hge _
      clear hx hp cx hz hwp hbl
      go_wp2_with fail
      go_roundw
      case rel => exact ⟨hbn, k + 1, by omega, by go_num, HW2.out⟩
      case measure => simp [intOf]; omega
    · obtain ⟨w8, hw8⟩ : ∃ w8, w8 = wr := ⟨_, rfl⟩
      subst hw8
      obtain rfl : kd = k := by omega
      have hen : ∀ a : Nat, (mkB n (t.take kd)).getD a false = true ↔ (a : Int) ∈ nats t := fun a => by
       have hkl : t.length = kd := by have := HTL.out; rw [nats_len] at this; exact this
       rw [mkB_at, nats_mem, List.take_of_length_le (by omega)]
       exact ⟨fun g => g.1, fun g => ⟨g, HTN.out a g⟩⟩
      generalize mkB n (t.take kd) = en at *
      have hdis : ∀ v ∈ nats s, v ∉ nats t := fun v h1 h2 => by
       unfold nats at h1
       obtain ⟨a, ha, rfl⟩ := List.mem_map.1 h1
       exact HD.out a (nats_mem.1 h2) ha
      have hF0 : FlowI E (nats s) (nats t) ((0 : Nat) : Int) (List.replicate m 0) := by rw [← hEm]; exact FlowI.zero E _ _
      have HGR := Lib.hid (show ∀ (W : World) (V : Nat) (f : List Int) (X3 X4 : Value), Wp w0 W n m gw gf ge n (some ⟨gl, 0, none⟩) (lksTo n E m) f en X3 X4 → FlowI E (nats s) (nats t) (V : Int) f →
       Calls Tryz.prog 123 #[.pointer (some ⟨gw, 0, none⟩), .slice AS ks cs] W fun e W' => ∃ (c : Nat) (f' : List Int) (X3 X4 : Value), e = .returned (.int .i64 c) ∧ Wp w0 W' n m gw gf ge n (some ⟨gl, 0, none⟩) (lksTo n E m) f' en X3 X4 ∧ KeepX (fun k => k = gf ∨ k = gw) W W' ∧ FlowI E (nats s) (nats t) ((V : Int) + c) f' ∧ (c = 0 → ∀ v ∈ nats t, ¬ Reach E f' (nats s) v) from
       fun W V f X3 X4 hw hf => (grow_any w0 W n m gw gf ge n (some ⟨gl, 0, none⟩) (lksTo n E m) f en X3 X4 hw AS ks cs V s E (nats t) HK.out ((HS.out.below hbw3).sub hsub0) HSN.out HL.out HE.out hEm hf hen hdis (by omega) (by omega) (by omega)).mono
        fun e W' ⟨c, gd, gx, d, nx, f', h1, h2, h3, h4, h5⟩ => ⟨c, f', _, _, h1, h2.wp, h3, h4, fun hc => by rw [(h5 hc).1]; exact (h5 hc).2⟩)
      obtain ⟨W9, hW9⟩ : ∃ W9, W9 = w8.alloc (.cells #[.int .i64 0, .slice none 0 0, .slice none 0 0, .slice none 0 0] 202) := ⟨_, rfl⟩
      have HWP := Lib.hid (show Wp w0 W9 n m gw gf ge n (some ⟨gl, 0, none⟩) (lksTo n E m) (List.replicate m 0) en (.slice none 0 0) (.slice none 0 0) from by rw [hW9]; exact hwp.below ((Below.refl _ _).alloc (Nat.le_refl _) _))
      have hgr3 : w3.heap.size ≤ w8.heap.size := hbl.size
      have hgrn : w8.heap.size ≠ gw ∧ w8.heap.size ≠ gf ∧ w8.heap.size ≠ ge := ⟨Nat.ne_of_gt hwp.bw.lt, Nat.ne_of_gt hwp.bf.lt, Nat.ne_of_gt hwp.be.lt⟩
      have hgrf : Freew w0 w8.heap.size := hwp.bel.free (Nat.le_refl _)
      have hr9 : Blk W9 w8.heap.size 202 #[.int .i64 (0 : Nat), .slice none 0 0, .slice none 0 0, .slice none 0 0] := by rw [hW9]; exact Blk.new _ _ _
      have hb9 : Below w3.heap.size w3 W9 := by rw [hW9]; exact Bel.alloc hbl
      have HFD := Lib.hid (show ∀ (V : Int) (f : List Int), FlowI E (nats s) (nats t) V f → V ≤ m from fun V f g => by rw [← hEm]; exact flow_bd g hdis)
      have HF0 := Lib.hid hF0
      clear hwp hen hF0 hbl
      go_wp2_with fail
      rw [← hW9]
      clear hW9
      generalize w8.heap.size = gr at *
      with_reducible refine (HGR.out _ 0 _ _ _ HWP.out HF0.out).mono ?_
      rintro e w10 ⟨c0, f0, X3, X4, rfl, hwp10, hkp10, hfl10, hno10⟩
      have hb10 : Below w3.heap.size w3 w10 := hb9.trans (hkp10.below hb9.size (fun k e => by rcases e with rfl | rfl <;> assumption))
      have hr10 := hkp10.blk hr9 (fun e => by rcases e with e | e <;> omega)
      have HX10 := Lib.hid (show Wp w0 w10 n m gw gf ge n (some ⟨gl, 0, none⟩) (lksTo n E m) f0 en X3 X4 ∧ FlowI E (nats s) (nats t) (((0 : Nat) : Int) + c0) f0 ∧ (c0 = 0 → ∀ v ∈ nats t, ¬ Reach E f0 (nats s) v) from ⟨hwp10, hfl10, hno10⟩)
      clear hwp10 hkp10 hfl10 hno10 hr9 hb9 HWP HF0
      go_wp2_with fail
      go_loopw [15] (fun cnt W => Below w3.heap.size w3 W ∧ ∃ (c V : Nat) (f : List Int) (X3 X4 : Value), cnt = .int .i64 c ∧ Blk W gr 202 #[.int .i64 V, .slice none 0 0, .slice none 0 0, .slice none 0 0] ∧ Wp w0 W n m gw gf ge n (some ⟨gl, 0, none⟩) (lksTo n E m) f en X3 X4 ∧ FlowI E (nats s) (nats t) ((V : Int) + c) f ∧ (c = 0 → ∀ v ∈ nats t, ¬ Reach E f (nats s) v)) (fun _ W => m + 1 - (intOf ((W.cell? ⟨gr, 0, none⟩).getD (.int .i64 0))).toNat)
      case atStart => exact ⟨hb10, c0, 0, f0, X3, X4, rfl, hr10, HX10.out⟩
      case round =>
       clear hb10 hr10 HX10
       obtain ⟨hbl, c, V, f, X3', X4', rfl, hr, hwp, hfl, hno⟩ := hrel
       by_cases hc0 : 0 < c
       · have e1 : decide ((c : Int) > 0) = true := decide_eq_true (by omega)
         have hVm := HFD.out _ _ hfl
         have e2 : IntKind.i64.wrap ((V : Int) + (c : Int)) = ((V + c : Nat) : Int) := by rw [IntWalk.i64_in _ (by omega)]; push_cast; rfl
         obtain ⟨r0, r1, r2, r3⟩ := hr.four
         have r0f := hr.frozen 0
         have hr' : Blk (wr.setCell ⟨gr, 0, none⟩ (.int .i64 ((V + c : Nat) : Int))) gr 202 #[.int .i64 ((V + c : Nat) : Int), .slice none 0 0, .slice none 0 0, .slice none 0 0] := hr.set_ 0 _
         have HWP := Lib.hid (hwp.grown (grownBy_set wr gr 0 (.int .i64 ((V + c : Nat) : Int))) ⟨hgrf, hgrn⟩)
         have HFL := Lib.hid (show FlowI E (nats s) (nats t) ((V + c : Nat) : Int) f by push_cast; exact hfl)
         have hbn : Below w3.heap.size w3 (wr.setCell ⟨gr, 0, none⟩ (.int .i64 ((V + c : Nat) : Int))) := hbl.setCell hgr3 _
         clear hr hwp hfl hno hbl
         go_wp2_with fail
         rw [show ((V : Int) + (c : Int)) = ((V + c : Nat) : Int) from rfl]
         with_reducible refine (HGR.out _ (V + c) _ _ _ HWP.out HFL.out).mono ?_
         rintro e w10 ⟨c1, f1, X5, X6, rfl, hwp1, hkp1, hfl1, hno1⟩
         have hb1 : Below w3.heap.size w3 w10 := hbn.trans (hkp1.below hbn.size (fun k e => by rcases e with rfl | rfl <;> assumption))
         have hr1 := hkp1.blk hr' (fun e => by rcases e with e | e <;> omega)
         have c10 : w10.cell? ⟨gr, 0, none⟩ = some (.int .i64 ((V + c : Nat) : Int)) := hr1.four.1
         have HX1 := Lib.hid (show Wp w0 w10 n m gw gf ge n (some ⟨gl, 0, none⟩) (lksTo n E m) f1 en X5 X6 ∧ FlowI E (nats s) (nats t) (((V + c : Nat) : Int) + c1) f1 ∧ (c1 = 0 → ∀ v ∈ nats t, ¬ Reach E f1 (nats s) v) from ⟨hwp1, hfl1, hno1⟩)
         clear hwp1 hkp1 hfl1 hno1 hr' hbn HWP HFL
         go_wp2_with fail
         go_roundw
         case rel => exact ⟨hb1, c1, V + c, f1, X5, X6, rfl, hr1, HX1.out⟩
         case measure =>
          rw [c10, r0]
          simp only [intOf, Option.getD_some]
          omega
       · obtain ⟨w11, hw11⟩ : ∃ w11, w11 = wr := ⟨_, rfl⟩
         subst hw11
         obtain rfl : c = 0 := by omega
         have y1 := hwp.bw.five.2.1
         obtain ⟨r0, r1, r2, r3⟩ := hr.four
         have r1f := hr.frozen 1
         have hr' : Blk (w11.setCell ⟨gr, 1, none⟩ (.slice (some ⟨gf, 0, none⟩) m m)) gr 202 #[.int .i64 V, .slice (some ⟨gf, 0, none⟩) m m, .slice none 0 0, .slice none 0 0] := hr.set_ 1 _
         have HWP := Lib.hid (hwp.grown (grownBy_set w11 gr 1 (.slice (some ⟨gf, 0, none⟩) m m)) ⟨hgrf, hgrn⟩)
         have hbn : Below w3.heap.size w3 (w11.setCell ⟨gr, 1, none⟩ (.slice (some ⟨gf, 0, none⟩) m m)) := hbl.setCell hgr3 _
         have HFL := Lib.hid (show FlowI E (nats s) (nats t) (V : Int) f by simpa using hfl)
         have HNO := Lib.hid (hno rfl)
         have e1 : decide (((0 : Nat) : Int) > 0) = false := by decide
         clear hr hwp hfl hno hbl HGR HFD
         go_wp2_with fail
         obtain ⟨W12, hW12⟩ : ∃ W12, W12 = w11.setCell ⟨gr, 1, none⟩ (.slice (some ⟨gf, 0, none⟩) m m) := ⟨_, rfl⟩
         rw [← hW12] at hr' HWP hbn ⊢
         have z0 := HWP.out.bw.five.1
         have z1 := HWP.out.bw.five.2.1
         have hbn0 := Bel.step hbw3 hbn
         have HSD := Lib.hid (sides_any (some ⟨gl, 0, none⟩) (some ⟨gf, 0, none⟩) AS AD n n m m ks cs kd cd (lksTo n E m) f s t W12.drew (HWP.out.at0.sub (HWP.out.bel.below (Below.refl _ _).drew)) ((HWP.out.bf.drew).rdI HWP.out.lf) (HS.out.below hbn0.drew) (HT.out.below hbn0.drew) HSN.out HTN.out HK.out (by omega) (by omega) (by omega))
         have HSX := Lib.hid (show ∀ V : World, (V.cell? ⟨gw, 0, none⟩ = some (.slice (some ⟨gl, 0, none⟩) n n) ∧ V.cell? ⟨gw, 1, none⟩ = some (.slice (some ⟨gf, 0, none⟩) m m)) → V.cell? ⟨gw, 0, none⟩ = some (.slice (some ⟨gl, 0, none⟩) n n) ∧ V.cell? ⟨gw, 1, none⟩ = some (.slice (some ⟨gf, 0, none⟩) m m) from fun V h => h)
         have HWB := Lib.hid HWP.out.bw
         clear hW12 y1 r0 r1 r2 r3 r1f
         refine wp_region_held_drew (S := fun V => V.cell? ⟨gw, 0, none⟩ = some (.slice (some ⟨gl, 0, none⟩) n n) ∧ V.cell? ⟨gw, 1, none⟩ = some (.slice (some ⟨gf, 0, none⟩) m m)) (by kernel_rfl) ⟨z0, z1⟩ (fun _ => ?_)
         refine tk 0 68 (h := ⟨_, tv, ?_⟩)
         simp only [pE, List.set]
         refine tk 1 69 (h := ⟨_, tv, ?_⟩)
         simp only [pE, List.set]
         refine tk 2 70 (h := ⟨_, tv, ?_⟩)
         simp only [pE, List.set]
         refine tk 3 71 (h := ⟨_, tv, ?_⟩)
         simp only [pE, List.set]
         refine tk 4 72 (h := ⟨_, tv, ?_⟩)
         simp only [pE, List.set]
         refine tk 5 73 (h := ⟨_, tv, ?_⟩)
         simp only [pE, List.set]
         refine tk 6 74 (h := ⟨_, tv, ?_⟩)
         simp only [pE, List.set]
         refine tk 7 75 (h := ⟨_, tv, ?_⟩)
         simp only [pE, List.set]
         refine tk 8 76 (h := ⟨_, tv, ?_⟩)
         simp only [pE, List.set]
         refine tk 9 77 (h := ⟨_, tv, ?_⟩)
         simp only [pE, List.set]
         refine wpAnyH_ready (rs := [10]) (by kernel_rfl) (by simp) ?_
         refine AllReadyH.cons (o := _) rfl (fun K hK => ?_) AllReadyH.nil
         go_simp
         with_reducible refine HSD.out.mono ?_
         rintro e w13 ⟨g1, g2, d1, d2, rfl, hnb, hfb, hd1, hd2, hb13, hg1, hg2⟩
         have hg1r : g1 ≠ gr := by have := hr'.lt; have : W12.heap.size ≤ g1 := hg1; omega
         have hg2r : g2 ≠ gr := by have := hr'.lt; have : W12.heap.size ≤ g2 := hg2; omega
         have hg1w : g1 ≠ w.heap.size := by have := hr'.lt; have : W12.heap.size ≤ g1 := hg1; have := hR3.lt; omega
         have hg2w : g2 ≠ w.heap.size := by have := hr'.lt; have : W12.heap.size ≤ g2 := hg2; have := hR3.lt; omega
         have hg1s : w.heap.size < g1 := by have := hR3.lt; have := hbn.size; have : W12.heap.size ≤ g1 := hg1; omega
         have hg2s : w.heap.size < g2 := by have := hR3.lt; have := hbn.size; have : W12.heap.size ≤ g2 := hg2; omega
         clear hg1 hg2
         have hb13' : Below W12.heap.size W12 w13 := (Below.refl _ _).drew.trans hb13
         have hr13 := hr'.below hb13' hr'.lt
         have hwb13 := HWB.out.below hb13' HWB.out.lt
         have q0 := hwb13.five.1
         have q1 := hwb13.five.2.1
         have hbn13 : Below w3.heap.size w3 w13 := Bel.step hbn hb13'
         have HSIDE := Lib.hid (show RdB w13 (some ⟨g1, 0, none⟩) n (d1.map isNear) ∧ RdB w13 (some ⟨g2, 0, none⟩) n (d2.map isFar) ∧ Dep n (lksTo n E m) f 1 s d1 ∧ Dep n (lksTo n E m) f (-1) t d2 from ⟨hnb, hfb, hd1, hd2⟩)
         clear hnb hfb hd1 hd2 hb13 hb13' HSD z0 z1
         go_wp2_with fail
         refine hK.out _ _ ⟨q0, q1⟩ (fun _ => ?_)
         clear hK K
         refine tk 11 67 (h := ⟨_, tv, ?_⟩)
         simp only [pE, List.set]
         refine tk 12 79 (h := ⟨_, tv, ?_⟩)
         simp only [pE, List.set]
         refine tk 13 80 (h := ⟨_, tv, ?_⟩)
         simp only [pE, List.set]
         have hR13 := hR3.below hbn13 hR3.lt
         have hlt3 : w.heap.size ≠ gr := by have := hR3.lt; omega
         have hgw' := hgrn.1
         have v2 := hr13.four.2.2.1
         have v2f := hr13.frozen 2
         have hr14 : Blk (w13.setCell ⟨gr, 2, none⟩ (.slice (some ⟨g1, 0, none⟩) n n)) gr 202 #[.int .i64 V, .slice (some ⟨gf, 0, none⟩) m m, .slice (some ⟨g1, 0, none⟩) n n, .slice none 0 0] := hr13.set_ 2 _
         have hw14 := hwb13.far_ (b := gr) (o := 2) (Ne.symm hgw') (.slice (some ⟨g1, 0, none⟩) n n)
         have p0 := hw14.five.1
         have p1 := hw14.five.2.1
         have v3 := hr14.four.2.2.2
         have v3f := hr14.frozen 3
         have hr15 : Blk ((w13.setCell ⟨gr, 2, none⟩ (.slice (some ⟨g1, 0, none⟩) n n)).setCell ⟨gr, 3, none⟩ (.slice (some ⟨g2, 0, none⟩) n n)) gr 202 #[.int .i64 V, .slice (some ⟨gf, 0, none⟩) m m, .slice (some ⟨g1, 0, none⟩) n n, .slice (some ⟨g2, 0, none⟩) n n] := hr14.set_ 3 _
         have hw15 := hw14.far_ (b := gr) (o := 3) (Ne.symm hgw') (.slice (some ⟨g2, 0, none⟩) n n)
         have o0 := hw15.five.1
         have o1 := hw15.five.2.1
         have hR15 := (hR13.far_ (b := gr) (o := 2) hlt3 (.slice (some ⟨g1, 0, none⟩) n n)).far_ (b := gr) (o := 3) hlt3 (.slice (some ⟨g2, 0, none⟩) n n)
         have hbn15 : Below w3.heap.size w3 ((w13.setCell ⟨gr, 2, none⟩ (.slice (some ⟨g1, 0, none⟩) n n)).setCell ⟨gr, 3, none⟩ (.slice (some ⟨g2, 0, none⟩) n n)) := (hbn13.setCell hgr3 _).setCell hgr3 _
         clear hr13 hwb13 hr14 hw14 hw15 hbn13 hR13
         refine tk 14 81 (h := ⟨_, tv, ?_⟩)
         simp only [pE, List.set]
         refine wpAnyH_ready (rs := [15]) (by kernel_rfl) (by simp) ?_
         refine AllReadyH.cons (o := _) rfl (fun K hK => ?_) AllReadyH.nil
         go_simp
         refine hK.out _ _ ⟨p0, p1⟩ (fun _ => ?_)
         clear hK K
         refine tk 16 82 (h := ⟨_, tv, ?_⟩)
         simp only [pE, List.set]
         refine wpAnyH_ready (rs := [17]) (by kernel_rfl) (by simp) ?_
         refine AllReadyH.cons (o := _) rfl (fun K hK => ?_) AllReadyH.nil
         go_simp
         refine hK.out _ _ ⟨o0, o1⟩ (fun _ => ?_)
         clear hK K
         refine wpAnyH_done (by kernel_rfl) ?_ _
         have HNB := Lib.hid ((HSIDE.out.1.far (g := gr) (i := 2) (.slice (some ⟨g1, 0, none⟩) n n) (fun e => hg1r (by injection e))).far (g := gr) (i := 3) (.slice (some ⟨g2, 0, none⟩) n n) (fun e => hg1r (by injection e)))
         have HFB := Lib.hid ((HSIDE.out.2.1.far (g := gr) (i := 2) (.slice (some ⟨g1, 0, none⟩) n n) (fun e => hg2r (by injection e))).far (g := gr) (i := 3) (.slice (some ⟨g2, 0, none⟩) n n) (fun e => hg2r (by injection e)))
         obtain ⟨W15, hW15⟩ : ∃ W15, W15 = (w13.setCell ⟨gr, 2, none⟩ (.slice (some ⟨g1, 0, none⟩) n n)).setCell ⟨gr, 3, none⟩ (.slice (some ⟨g2, 0, none⟩) n n) := ⟨_, rfl⟩
         rw [← hW15] at HNB HFB hR15 hr15 hbn15 ⊢
         clear hW15
         obtain ⟨a0, a1, a2, a3⟩ := hr15.four
         have hbw15 : Below w.heap.size w W15 := Bel.step hbw3 hbn15
         obtain ⟨b0, b1, b2, b3⟩ := hR15.four
         have b0f := hR15.frozen 0
         have b1f := hR15.frozen 1
         have b2f := hR15.frozen 2
         have b3f := hR15.frozen 3
         clear v2 v2f p0 p1 v3 v3f o0 o1 q0 q1
         go_wp2_with fail
         obtain ⟨W16, hW16⟩ : ∃ W16, W16 = (((W15.setCell ⟨w.heap.size, 0, none⟩ (.int .i64 V)).setCell ⟨w.heap.size, 1, none⟩ (.slice (some ⟨gf, 0, none⟩) m m)).setCell ⟨w.heap.size, 2, none⟩ (.slice (some ⟨g1, 0, none⟩) n n)).setCell ⟨w.heap.size, 3, none⟩ (.slice (some ⟨g2, 0, none⟩) n n) := ⟨_, rfl⟩
         rw [← hW16]
         have hR16 : Blk W16 w.heap.size 202 #[.int .i64 V, .slice (some ⟨gf, 0, none⟩) m m, .slice (some ⟨g1, 0, none⟩) n n, .slice (some ⟨g2, 0, none⟩) n n] := by rw [hW16]; exact (((hR15.set_ 0 _).set_ 1 _).set_ 2 _).set_ 3 _
         have hb16 : Below w.heap.size w W16 := by rw [hW16]; exact (((hbw15.setCell (Nat.le_refl _) _).setCell (Nat.le_refl _) _).setCell (Nat.le_refl _) _).setCell (Nat.le_refl _) _
         have n1 : blkOf (some ⟨g1, 0, none⟩) ≠ some w.heap.size := fun e => hg1w (by injection e)
         have n2 : blkOf (some ⟨g2, 0, none⟩) ≠ some w.heap.size := fun e => hg2w (by injection e)
         have hnb16 : RdB W16 (some ⟨g1, 0, none⟩) n (d1.map isNear) := by rw [hW16]; exact (((HNB.out.far _ n1).far _ n1).far _ n1).far _ n1
         have hfb16 : RdB W16 (some ⟨g2, 0, none⟩) n (d2.map isFar) := by rw [hW16]; exact (((HFB.out.far _ n2).far _ n2).far _ n2).far _ n2
         obtain ⟨c0, c1, c2, c3⟩ := hR16.four
         have hN := near_dep HL.out HE.out HFL.out HSIDE.out.2.2.1 HNO.out
         have hFa := far_dep HL.out HE.out HFL.out HSIDE.out.2.2.2 HNO.out HSN.out HTN.out
         refine bodyPost_ret (v := .tuple #[.agg #[.int .i64 V, .slice (some ⟨gf, 0, none⟩) m m, .slice (some ⟨g1, 0, none⟩) n n, .slice (some ⟨g2, 0, none⟩) n n], .nilIface]) (by simp [results, Tryz.results106, go_sem, c0, c1, c2, c3]) rfl ?_
         exact ⟨V, gf, g1, g2, _, _, rfl, hnb16, hfb16, hN.1, hFa.1, by omega, hb16, hg1s, hg2s⟩
end Go.Proofs.YtpffhoefmcpniaaGreatDoor
