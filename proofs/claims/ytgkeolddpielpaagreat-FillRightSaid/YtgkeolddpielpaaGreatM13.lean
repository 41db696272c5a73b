/- Parts of the proof: Hv, In1, Dj. -/
import Derived.Test.YtgkeolddpielpaaGreatM12
namespace Go.Proofs.YtgkeolddpielpaaGreat
open Go.RowKit

attribute [local go_sem ↓] Go.wp_at_zero Go.wp_at_succ

section
variable {G : Nat → Prop} {g gc gs n m c : Nat} {A : Option Addr} {R : List Nat} {C : List Int} {S : List Nat}
theorem HeapW.cut {W : World} (h : HeapW W G g A gc gs n m c R C S) {L : Nat} (hL : L ≤ m) : HeapW (W.setCell ⟨g, 0, none⟩ (.slice A L c)) G g A gc gs n L c (R.take L) C S := by
 have h1 : Own W 0 3 1 A L c (icells (nis (R.take L))) := h.row.prefix' hL (by simp [icells, nis, List.map_take])
 refine ⟨?_, h1.far (grownBy_set _ _ _ _) (.inr fun e => (h.dA g e).1 rfl), h.cs.far_ (fun e => h.dg.1 e.symm) _, h.ss.far_ (fun e => h.dg.2.1 e.symm) _, h.dA, h.dg, h.dG, fun b hb => by simpa [World.setCell] using h.lt b hb, by rw [List.length_take, h.lr]; omega, h.lc, h.ls, h.n0⟩
 exact h.blk.set_ 0 _
set_option maxHeartbeats 1000000 in
theorem hpPop_none (w : World) (h : HeapW w G g A gc gs n 0 c R C S) :
 Calls Tryz.prog 112 #[.pointer (some ⟨g, 0, none⟩)] w fun e w' => e = .returned (.tuple #[.int .i64 0, .int .i64 0, .bool false]) ∧ w = w' := by
 have f0 := h.f0
 clear h
 go_enter Tryz.func112, Tryz.ntmps112
 go_wp2_with fail
 refine bodyPost_ret (v := .tuple #[.int .i64 0, .int .i64 0, .bool false]) (by simp [results, Tryz.results112, go_sem]) rfl ?_
 exact ⟨rfl, rfl⟩
set_option maxHeartbeats 2000000 in
theorem hpPop_some (w : World) (L : Nat) (h : HeapW w G g A gc gs n (L + 1) c R C S) (hp : HpS n R C S) (ho : Ord (at_ R C) (L + 1)) (k : Nat) (hk : R[0]? = some k) (x : Int) (hx : C[k]? = some x) :
 Calls Tryz.prog 112 #[.pointer (some ⟨g, 0, none⟩)] w fun e w' => e = .returned (.tuple #[.int .i64 k, .int .i64 x, .bool true]) ∧ (∃ (R' S' : List Nat), HeapW w' G g A gc gs n L c R' C S' ∧ HpS n R' C S' ∧ Ord (at_ R' C) L ∧ ∀ q, q ∈ R' ↔ q ∈ R ∧ q ≠ k) ∧ Aft G w w' := by
 obtain ⟨gr, hgr, hfr⟩ := h.rowBlk (by omega)
 subst hgr
 have hlr := h.lr
 have hcap := h.cap
 have hn0 := h.n0
 have hkn : k < n := (hp.seat 0 k hk).1
 obtain ⟨b, y, la, lb, lc, ld⟩ := hp.key (i := L) (by omega)
 have f0 := h.f0
 have r0 := h.rowAt hk
 have HSW := Lib.hid (fun V (hV : HeapW V G g (some ⟨gr, 0, none⟩) gc gs n (L + 1) c R C S) => (show Calls Tryz.prog 155 #[.pointer (some ⟨g, 0, none⟩), .int .i64 0, .int .i64 L] V _ from hpSwap_ok V hV hk la hkn lb))
 have HPP := Lib.hid (hp.pop hlr hk)
 have HPO := Lib.hid (hp.popOrd ho hlr hk)
 have HH := Lib.hid h.drew
 have i1 : ((L : Int) + 1 == 0) = false := by simp; omega
 have e1 : IntKind.i64.wrap ((L : Int) + 1 - 1) = (L : Int) := by rw [show (L : Int) + 1 - 1 = (L : Int) by omega]; exact IntWalk.i64_in _ (by omega)
 have hle := hp.le
 clear h hp ho la lc ld
 go_enter Tryz.func112, Tryz.ntmps112
 go_wp2_with fail
 refine wp_region_held_drew (S := fun V => V.cell? ⟨g, 0, none⟩ = some (.slice (some ⟨gr, 0, none⟩) (L + 1) c) ∧ V.cell? ⟨gr, 0, none⟩ = some (.int .i64 k)) (by kernel_rfl) ⟨f0, r0⟩ (fun _ => ?_)
 refine tk 0 13 (h := ⟨_, tv, ?_⟩)
 simp only [pE, List.set]
 refine tk 1 14 (h := ⟨_, tv, ?_⟩)
 simp only [pE, List.set]
 refine tk 2 15 (h := ⟨_, tv, ?_⟩)
 simp only [pE, List.set]
 refine tk 3 16 (h := ⟨_, tv, ?_⟩)
 simp only [pE, List.set]
 refine tk 4 17 (h := ⟨_, tv, ?_⟩)
 simp only [pE, List.set]
 refine tk 5 18 (h := ⟨_, tv, ?_⟩)
 simp only [pE, List.set]
 refine tk 6 19 (h := ⟨_, tv, ?_⟩)
 simp only [pE, List.set]
 refine tk 7 20 (h := ⟨_, tv, ?_⟩)
 simp only [pE, List.set]
 refine tk 8 21 (h := ⟨_, tv, ?_⟩)
 simp only [pE, List.set]
 refine tk 9 22 (h := ⟨_, tv, ?_⟩)
 simp only [pE, List.set]
 refine tk 10 23 (h := ⟨_, tv, ?_⟩)
 simp only [pE, List.set]
 refine tk 11 24 (h := ⟨_, tv, ?_⟩)
 simp only [pE, List.set]
 refine tk 12 5 (h := ⟨_, tv, ?_⟩)
 simp only [pE, List.set]
 refine tk 13 6 (h := ⟨_, tv, ?_⟩)
 simp only [pE, List.set]
 refine wpAnyH_done (by kernel_rfl) ?_ _
 clear f0 r0
 go_wp2_with fail
 with_reducible refine (HSW.out _ HH.out).mono ?_
 rintro e w1 ⟨rfl, hw1, ha1⟩
 have ha : Aft G w w1 := ⟨ha1.kept, ha1.size, fun B hB => (Below.refl B w).drew.trans (ha1.bel B hB)⟩
 have f0 := hw1.f0
 have z0 : w1.frozen? ⟨g, 0, none⟩ = false := hw1.blk.frozen 0
 have hw2 := hw1.cut (L := L) (by omega)
 have f2 := hw2.f2
 have s2 := hw2.seatAt (i := k) (getD_lt 0 (by rw [hw2.ls]; exact hkn))
 have z2 : w1.frozen? ⟨gs, k, none⟩ = false := hw1.ss.frozen k
 have hw3 : HeapW ((w1.setCell ⟨g, 0, none⟩ (.slice (some ⟨gr, 0, none⟩) L c)).setCell ⟨gs, k, none⟩ (.int .i64 0)) G g (some ⟨gr, 0, none⟩) gc gs n L c _ C _ := hw2.setS (i := k) (k := 0)
 have HDN := Lib.hid (hpDown_ok _ hw3 HPP.out.1 HPO.out)
 have HA3 := Lib.hid ((ha.set hw1.dG.1 (i := 0) (.slice (some ⟨gr, 0, none⟩) L c)).set hw1.dG.2.2 (i := k) (.int .i64 0))
 have i2 : (0 : Int) ≤ (k : Int) := by omega
 have i3 : (k : Int) < (n : Int) := by omega
 have i4 : (L : Int) ≤ (c : Int) := by omega
 clear hw1 hw2 hw3 ha ha1 HSW HH
 go_wp2_with fail
 with_reducible refine HDN.out.mono ?_
 rintro e w3 ⟨rfl, R', S', hw3, hp3, ho3, hk3, ha3⟩
 have f1 := hw3.f1
 have q1 := hw3.costAt hx
 have HW4 := Lib.hid hw3.drew
 have HA4 := Lib.hid (HA3.out.trans ha3).drew
 have HP4 := Lib.hid hp3
 have HO4 := Lib.hid ho3
 have HK4 := Lib.hid hk3
 clear hw3 ha3 hp3 ho3 hk3 HDN HA3 f0 z0 f2 s2 z2
 go_wp2_with fail
 refine wp_region_held_drew (S := fun V => V.cell? ⟨g, 1, none⟩ = some (.slice (some ⟨gc, 0, none⟩) n n) ∧ V.cell? ⟨gc, k, none⟩ = some (.int .i64 x)) (by kernel_rfl) ⟨f1, q1⟩ (fun _ => ?_)
 refine tk 0 45 (h := ⟨_, tv, ?_⟩)
 simp only [pE, List.set]
 refine tk 1 46 (h := ⟨_, tv, ?_⟩)
 simp only [pE, List.set]
 refine tk 2 47 (h := ⟨_, tv, ?_⟩)
 simp only [pE, List.set]
 refine tk 3 48 (h := ⟨_, tv, ?_⟩)
 simp only [pE, List.set]
 refine tk 4 49 (h := ⟨_, tv, ?_⟩)
 simp only [pE, List.set]
 refine tk 5 50 (h := ⟨_, tv, ?_⟩)
 simp only [pE, List.set]
 refine tk 6 51 (h := ⟨_, tv, ?_⟩)
 simp only [pE, List.set]
 refine tk 7 52 (h := ⟨_, tv, ?_⟩)
 simp only [pE, List.set]
 refine tk 8 2 (h := ⟨_, tv, ?_⟩)
 simp only [pE, List.set]
 refine tk 9 3 (h := ⟨_, tv, ?_⟩)
 simp only [pE, List.set]
 refine tk 10 4 (h := ⟨_, tv, ?_⟩)
 simp only [pE, List.set]
 refine wpAnyH_done (by kernel_rfl) ?_ _
 go_wp2_with fail
 refine bodyPost_ret (v := .tuple #[.int .i64 k, .int .i64 x, .bool true]) (by simp [results, Tryz.results112, go_sem]) rfl ?_
 exact ⟨rfl, ⟨R', S', HW4.out, HP4.out, HO4.out, fun q => (HK4.out q).trans (HPP.out.2.1 q)⟩, HA4.out⟩
theorem hpPop_ok (w : World) (hp : Nat → Option Int) (h : HeapO w G g n hp) :
 Calls Tryz.prog 112 #[.pointer (some ⟨g, 0, none⟩)] w fun e w' =>
  (((∀ q, hp q = none) ∧ e = .returned (.tuple #[.int .i64 0, .int .i64 0, .bool false]) ∧ HeapO w' G g n hp) ∨
   ∃ k x, k < n ∧ hp k = some x ∧ (∀ q z, hp q = some z → x ≤ z) ∧ e = .returned (.tuple #[.int .i64 (k : Nat), .int .i64 x, .bool true]) ∧ HeapO w' G g n (fun q => if q = k then none else hp q)) ∧ Aft G w w' := by
 obtain ⟨A, gc, gs, m, c, R, C, S, hw, hs, ho, hin⟩ := h
 have hlr := hw.lr
 rcases m with _ | L
 · refine (hpPop_none w hw).mono ?_
   rintro e w' ⟨rfl, rfl⟩
   obtain rfl := List.eq_nil_of_length_eq_zero hlr
   exact ⟨.inl ⟨fun q => by rw [hin q]; simp [inAt], rfl, A, gc, gs, 0, c, [], C, S, hw, hs, ho, hin⟩, Aft.refl _ _⟩
 · obtain ⟨k, x, hk, hkn, hx, _⟩ := hs.key (i := 0) (by omega)
   refine (hpPop_some w L hw hs ho k hk x hx).mono ?_
   rintro e w' ⟨rfl, ⟨R', S', k1, k2, k3, k4⟩, ha⟩
   have hm : k ∈ R := List.mem_iff_getElem?.2 ⟨0, hk⟩
   refine ⟨.inr ⟨k, x, hkn, by rw [hin k]; unfold inAt; rw [if_pos hm]; exact hx, fun q z hq => root_least hs (by rw [hlr]; exact ho) hk hx ((hin q).symm.trans hq), rfl, A, gc, gs, L, c, R', C, S', k1, k2, k3, fun q => ?_⟩, ha⟩
   show (if q = k then none else hp q) = _
   unfold inAt
   by_cases e : q = k
   · rw [if_pos e, if_neg (fun h => ((k4 q).1 h).2 e)]
   · rw [if_neg e, hin q]
     unfold inAt
     by_cases hq : q ∈ R
     · rw [if_pos hq, if_pos ((k4 q).2 ⟨hq, e⟩)]
     · rw [if_neg hq, if_neg (fun h => hq ((k4 q).1 h).1)]
set_option maxHeartbeats 1000000 in
theorem hpClear_ok (w : World) (hp : Nat → Option Int) (h : HeapO w G g n hp) :
 Calls Tryz.prog 110 #[.pointer (some ⟨g, 0, none⟩)] w fun e w' => e = .returned (.tuple #[]) ∧ HeapO w' G g n (fun _ => none) ∧ Aft G w w' := by
 obtain ⟨A, gc, gs, m, c, R, C, S, hw, hs, ho, hin⟩ := h
 have hlr := hw.lr
 have hcap := hw.cap
 have hn0 := hw.n0
 have hle := hs.le
 have f0 := hw.f0
 have HH := Lib.hid hw
 have HS := Lib.hid hs
 have HNO := Lib.hid (show ∀ q s, S[q]? = some s → q ∉ R → s = 0 from fun q s h1 h2 => by
  rcases s with _ | s
  · rfl
  · exact absurd (List.mem_iff_getElem?.2 ⟨s, hs.none_ q s h1⟩) h2)
 clear hw hs ho hin
 go_enter Tryz.func110, Tryz.ntmps110
 go_wp2_with fail
 go_loopw [9] (fun x W => ∃ (i : Nat) (S' : List Nat), x = .int .i64 i ∧ i ≤ m ∧ HeapW W G g A gc gs n m c R C S' ∧ (∀ q s, S'[q]? = some s → s = 0 ∨ (S[q]? = some s ∧ q ∉ R.take i)) ∧ Aft G w W) (fun x _ => m - (intOf x).toNat)
 case atStart => exact ⟨0, S, by go_num, by omega, HH.out, fun q s h1 => .inr ⟨h1, by simp⟩, Aft.refl _ _⟩
 case round =>
  obtain ⟨i, S', rfl, him, hw, hz, ha⟩ := hrel
  by_cases hlt : i < m
  · obtain ⟨gr, hgr, hfr⟩ := hw.rowBlk (by omega)
    subst hgr
    obtain ⟨k, hk⟩ : ∃ k, R[i]? = some k := ⟨_, getD_lt 0 (by omega)⟩
    have hkn := (HS.out.seat i k hk).1
    have r0 := hw.rowAt hk
    have f2 := hw.f2
    have s0 := hw.seatAt (i := k) (getD_lt 0 (by rw [hw.ls]; exact hkn))
    have z0 : wr.frozen? ⟨gs, k, none⟩ = false := hw.ss.frozen k
    have hw2 : HeapW (wr.setCell ⟨gs, k, none⟩ (.int .i64 0)) G g (some ⟨gr, 0, none⟩) gc gs n m c R C (S'.set k 0) := hw.setS (i := k) (k := 0)
    have HW2 := Lib.hid hw2
    have HA2 := Lib.hid (ha.set hw.dG.2.2 (i := k) (.int .i64 0))
    have HZ := Lib.hid hz
    have i1 : (0 : Int) ≤ (i : Int) := by omega
    have i2 : (i : Int) < (m : Int) := by omega
    have i3 : (0 : Int) ≤ (k : Int) := by omega
    have i4 : (k : Int) < (n : Int) := by omega
    have hls := hw.ls
    clear hw hz ha hw2
    go_wp2_with fail
    go_roundw
    case rel =>
     refine ⟨i + 1, S'.set k 0, by go_num, by omega, HW2.out, fun q s h1 => ?_, HA2.out⟩
     by_cases e : k = q
     · subst e
       rw [List.getElem?_set_self (by omega)] at h1
       exact .inl (Option.some.inj h1).symm
     · rw [List.getElem?_set_ne e] at h1
       rcases HZ.out q s h1 with h2 | ⟨h2, h3⟩
       · exact .inl h2
       · refine .inr ⟨h2, fun h4 => ?_⟩
         rw [List.take_add_one, hk] at h4
         simp only [Option.toList_some, List.mem_append, List.mem_singleton] at h4
         exact h4.elim h3 (fun e2 => e e2.symm)
    case measure => simp [intOf]; omega
  · obtain rfl : i = m := by omega
    have f0 := hw.f0
    have z0 : wr.frozen? ⟨g, 0, none⟩ = false := hw.blk.frozen 0
    have hw2 := hw.cut (L := 0) (by omega)
    have HW2 := Lib.hid hw2
    have HA2 := Lib.hid (ha.set hw.dG.1 (i := 0) (.slice A 0 c))
    have HZ := Lib.hid hz
    clear hw hz ha hw2
    go_wp2_with fail
    go_end0
    refine ⟨rfl, ⟨A, gc, gs, 0, c, [], C, S', HW2.out, ⟨HW2.out.lc, HW2.out.ls, fun q k h1 => by simp at h1, fun k q h1 => ?_⟩, fun q _ h1 => by omega, fun q => by simp [inAt]⟩, HA2.out⟩
    rcases HZ.out k _ h1 with h2 | ⟨h2, h3⟩
    · omega
    · rw [List.take_of_length_le (by omega)] at h3
      exact absurd (HNO.out k _ h2 h3) (by omega)
theorem run_make64 (n : Nat) (hn : n ≤ 1000000000) (W : World) : (Instr.makeSlice 44 (.int .i64 (n : Int)) (.int .i64 (n : Int))).run Tryz.prog W = .ok (.slice (some ⟨W.heap.size, 0, none⟩) n n) (W.alloc (.cells (zeros (.int .i64 0) n) 2)) :=
 run_make1 (P := Tryz.prog) 44 2 (.int .i64 0) 8 infoI64 Tryz.underlying44 rfl n (by omega) (by omega) .i64 .i64 W
theorem nis_zero (n : Nat) : nis (List.replicate n 0) = List.replicate n 0 := by simp [nis]
theorem HeapO.made {W w : World} {n g gc gs : Nat} (hb : Blk W g 222 #[.slice none 0 0, .slice (some ⟨gc, 0, none⟩) n n, .slice (some ⟨gs, 0, none⟩) n n]) (hc : Blk W gc 2 (zeros (.int .i64 0) n)) (hs : Blk W gs 3 (zeros (.int .i64 0) n))
 (h1 : g ≠ gc ∧ g ≠ gs ∧ gc ≠ gs) (h2 : w.heap.size ≤ g ∧ w.heap.size ≤ gc ∧ w.heap.size ≤ gs) (hz : w.heap.size ≤ W.heap.size) (hn : n ≤ 16384) : HeapO W (fun b => b < w.heap.size) g n (fun _ => none) := by
 refine ⟨none, gc, gs, 0, 0, [], List.replicate n 0, List.replicate n 0, ⟨hb, Own.nil _ _ _ _, by rw [← zeros_int]; exact hc, by rw [nis_zero, ← zeros_int]; exact hs, fun b e => by simp [blkOf] at e, h1, ⟨by omega, by omega, by omega⟩, fun b hb => by omega, rfl, by simp, by simp, hn⟩, ⟨by simp, by simp, fun i k h => by simp at h, fun k i h => ?_⟩, fun i _ h => by omega, fun k => by simp [inAt]⟩
 have := (List.getElem?_eq_some_iff.1 h).2
 simp at this
set_option maxHeartbeats 1000000 in
theorem hpNew_ok (w : World) (n : Nat) (hn : n ≤ 16384) :
 Calls Tryz.prog 109 #[.int .i64 n] w fun e w' => ∃ g, e = .returned (.pointer (some ⟨g, 0, none⟩)) ∧ HeapO w' (fun b => b < w.heap.size) g n (fun _ => none) ∧ Below w.heap.size w w' := by
 have hmk := run_makeI n (by omega)
 have hmc := run_make64 n (by omega)
 have e1 : max (n : Int) 0 = (n : Int) := by omega
 have e2 : min (n : Int) 16384 = (n : Int) := by omega
 go_enter Tryz.func109, Tryz.ntmps109
 go_wp2_with fail
 refine wp_region_held_drew (S := fun V => Below w.heap.size w V) (by kernel_rfl) (Below.refl _ _).drew (fun _ => ?_)
 refine tk 0 6 (h := ⟨_, tv, ?_⟩)
 simp only [pE, List.set]
 refine tk 2 8 (h := ⟨_, tv, ?_⟩)
 simp only [pE, List.set]
 refine wpAnyH_ready (rs := [1, 3]) (by kernel_rfl) (by simp) ?_
 refine AllReadyH.cons (o := _) rfl (fun K hK => ?_) (AllReadyH.cons (o := _) rfl (fun K hK => ?_) AllReadyH.nil)
 · go_simp
   refine hK.out _ _ bELt (fun _ => ?_)
   clear hK K
   refine wpAnyH_ready (rs := [3]) (by kernel_rfl) (by simp) ?_
   refine AllReadyH.cons (o := _) rfl (fun K hK => ?_) AllReadyH.nil
   go_simp
   refine hK.out _ _ bELt (fun _ => ?_)
   clear hK K
   refine tk 4 10 (h := ⟨_, tv, ?_⟩)
   simp only [pE, List.set]
   refine wpAnyH_ready (rs := [5]) (by kernel_rfl) (by simp) ?_
   refine AllReadyH.cons (o := _) rfl (fun K hK => ?_) AllReadyH.nil
   go_simp
   refine hK.out _ _ bELt (fun _ => ?_)
   clear hK K
   refine tk 6 2 (h := ⟨_, tv, ?_⟩)
   simp only [pE, List.set]
   refine wpAnyH_done (by kernel_rfl) ?_ _
   go_wp2_with fail
   go_ret
   refine ⟨_, rfl, HeapO.made (gc := w.heap.size) (gs := w.heap.size + 1) bLNt bLNt bLNt ?_ ?_ ?_ hn, bELt⟩
   all_goals (simp; try omega)
 · go_simp
   refine hK.out _ _ bELt (fun _ => ?_)
   clear hK K
   refine wpAnyH_ready (rs := [1]) (by kernel_rfl) (by simp) ?_
   refine AllReadyH.cons (o := _) rfl (fun K hK => ?_) AllReadyH.nil
   go_simp
   refine hK.out _ _ bELt (fun _ => ?_)
   clear hK K
   refine tk 4 10 (h := ⟨_, tv, ?_⟩)
   simp only [pE, List.set]
   refine wpAnyH_ready (rs := [5]) (by kernel_rfl) (by simp) ?_
   refine AllReadyH.cons (o := _) rfl (fun K hK => ?_) AllReadyH.nil
   go_simp
   refine hK.out _ _ bELt (fun _ => ?_)
   clear hK K
   refine tk 6 2 (h := ⟨_, tv, ?_⟩)
   simp only [pE, List.set]
   refine wpAnyH_done (by kernel_rfl) ?_ _
   go_wp2_with fail
   go_ret
   refine ⟨_, rfl, HeapO.made (gs := w.heap.size) (gc := w.heap.size + 1) bLNt bLNt bLNt ?_ ?_ ?_ hn, bELt⟩
   all_goals (simp; try omega)
end
end Go.Proofs.YtgkeolddpielpaaGreat

namespace Go.Proofs.YtgkeolddpielpaaGreat
open Go.RowKit

attribute [local go_sem ↓] Go.wp_at_zero Go.wp_at_succ

theorem HeapO.more {W W' : World} {G G' : Nat → Prop} {g n : Nat} {hp : Nat → Option Int} (h : HeapO W G g n hp) (hb : Below W.heap.size W W') (hG : ∀ b, G' b → b < W'.heap.size ∧ (G b ∨ W.heap.size ≤ b)) : HeapO W' G' g n hp := by
 obtain ⟨A, gc, gs, m, c, R, C, S, h1, h2⟩ := h
 exact ⟨A, gc, gs, m, c, R, C, S, h1.more hb hG, h2⟩
theorem HeapO.less {W : World} {G G' : Nat → Prop} {g n : Nat} {hp : Nat → Option Int} (h : HeapO W G g n hp) (hG : ∀ b, G' b → G b) : HeapO W G' g n hp := by
 obtain ⟨A, gc, gs, m, c, R, C, S, h1, h2⟩ := h
 exact ⟨A, gc, gs, m, c, R, C, S, h1.more (Below.refl _ _) (fun b hb => ⟨h1.lt b (hG b hb), .inl (hG b hb)⟩), h2⟩
theorem HeapO.lt {W : World} {G : Nat → Prop} {g n : Nat} {hp : Nat → Option Int} (h : HeapO W G g n hp) : ∀ b, G b → b < W.heap.size := by
 obtain ⟨A, gc, gs, m, c, R, C, S, h1, h2⟩ := h
 exact h1.lt
theorem HeapO.set {W : World} {G : Nat → Prop} {g n k i : Nat} {hp : Nat → Option Int} (h : HeapO W G g n hp) (hk : G k) (v : Value) : HeapO (W.setCell ⟨k, i, none⟩ v) G g n hp := by
 obtain ⟨A, gc, gs, m, c, R, C, S, h1, h2⟩ := h
 have hn : ∀ b, ¬ G b → b ≠ k := fun b hb e => hb (e ▸ hk)
 exact ⟨A, gc, gs, m, c, R, C, S, ⟨h1.blk.far_ (hn _ h1.dG.1) _, h1.row.far (grownBy_set _ _ _ _) (.inr fun e => (h1.dA k e).2.2.2 hk), h1.cs.far_ (hn _ h1.dG.2.1) _, h1.ss.far_ (hn _ h1.dG.2.2) _, h1.dA, h1.dg, h1.dG, fun b hb => by simpa [World.setCell] using h1.lt b hb, h1.lr, h1.lc, h1.ls, h1.n0⟩, h2⟩
def stepF (N : NetD) (t : Nat) (mk dn : List Bool) (a : Nat) (c : Int) (s : Int × (Nat → Option Int)) (b : Nat) : Int × (Nat → Option Int) :=
 match N.ar[b]? with
 | none => s
 | some y => if turnN N a b = 1152921504606846976 then s else
  (if b = t then min s.1 (c + turnN N a b) else s.1,
   if y.2.2 ≠ 1152921504606846976 ∧ dn.getD b false = false ∧ mk.getD y.1.toNat false = true ∧ mk.getD y.2.1.toNat false = true then putH s.2 b (c + turnN N a b + y.2.2) else s.2)
theorem marked_ok (bi : Nat) (A : Option Addr) (n c : Nat) (mk : List Bool) (v : Int) (w : World) (hc : w.cell? ⟨bi, 0, none⟩ = some (.slice A n c)) (h : RdB w A n mk) (h0 : 0 ≤ v) (h1 : v < n) :
 Calls Tryz.prog 116 (#[.int .i64 v] ++ #[.pointer (some ⟨bi, 0, none⟩)]) w fun e w' => e = .returned (.bool (mk.getD v.toNat false)) ∧ w = w' := by
 obtain ⟨k, rfl⟩ : ∃ k : Nat, v = (k : Int) := ⟨v.toNat, by omega⟩
 have hk : k < n := by omega
 have hkl : k < mk.length := by rw [h.1]; exact hk
 have hg : mk[k]? = some (mk.getD k false) := getD_lt false hkl
 obtain ⟨b, o, rfl, hx⟩ := h.2 k _ hg
 rw [Int.toNat_natCast]
 generalize mk.getD k false = z at *
 clear h hg hkl
 go_enter Tryz.func116, Tryz.ntmps116
 go_wp2_with fail
 go_ret
 exact ⟨rfl, rfl⟩
structure InR (V : World) (g : Nat) (N : NetD) (cg ct cd cm ci ch gh db t na : Nat) (A : Option Addr) (n c : Nat) (mk : List Bool) : Prop where
 gr : RdGr V g N
 g0 : V.cell? ⟨cg, 0, none⟩ = some (.pointer (some ⟨g, 0, none⟩))
 t0 : V.cell? ⟨ct, 0, none⟩ = some (.int .i64 t)
 d0 : V.cell? ⟨cd, 0, none⟩ = some (.slice (some ⟨db, 0, none⟩) na na)
 m0 : V.cell? ⟨cm, 0, none⟩ = some (.func (.func 116) #[] #[.pointer (some ⟨ci, 0, none⟩)])
 i0 : V.cell? ⟨ci, 0, none⟩ = some (.slice A n c)
 h0 : V.cell? ⟨ch, 0, none⟩ = some (.pointer (some ⟨gh, 0, none⟩))
 mr : RdB V A n mk
 nv : n = N.vs.length
 na : na = N.ar.length
theorem InR.le {V W : World} {g : Nat} {N : NetD} {cg ct cd cm ci ch gh db t na : Nat} {A : Option Addr} {n c : Nat} {mk : List Bool} (h : InR V g N cg ct cd cm ci ch gh db t na A n c mk) (hl : Le V W) : InR W g N cg ct cd cm ci ch gh db t na A n c mk :=
 ⟨h.gr.le hl, hl _ _ h.g0, hl _ _ h.t0, hl _ _ h.d0, hl _ _ h.m0, hl _ _ h.i0, hl _ _ h.h0, h.mr.le hl, h.nv, h.na⟩
theorem Le.kept {K : Nat → Prop} {W0 W : World} (h : Kept K W0 W) : Le (msk W0 K) W := (Kept.msk h).trans (msk_le _ _)
structure InW (W0 W : World) (K : Nat → Prop) (cb db gh na : Nat) (best : Int) (dn : List Bool) (hp : Nat → Option Int) : Prop where
 kept : Kept K W0 W
 size : W0.heap.size ≤ W.heap.size
 b0 : Blk W cb 2 #[.int .i64 best]
 dd : Blk W db 4 (bools dn)
 hh : HeapO W (fun b => K b ∨ b = cb ∨ b = db) gh na hp
 ld : dn.length = na
 kl : ∀ b, K b → b < W0.heap.size
 kb : ¬ K cb ∧ ¬ K db ∧ cb ≠ db
theorem InW.below {W0 W W' : World} {K : Nat → Prop} {cb db gh na : Nat} {best : Int} {dn : List Bool} {hp : Nat → Option Int} (h : InW W0 W K cb db gh na best dn hp) (hb : Below W.heap.size W W') : InW W0 W' K cb db gh na best dn hp :=
 ⟨h.kept.trans (Kept.below hb) h.size, Nat.le_trans h.size hb.size, h.b0.below hb h.b0.lt, h.dd.below hb h.dd.lt, h.hh.more hb (fun b hb' => ⟨Nat.lt_of_lt_of_le (h.hh.lt b hb') hb.size, .inl hb'⟩), h.ld, h.kl, h.kb⟩
theorem InW.best {W0 W : World} {K : Nat → Prop} {cb db gh na : Nat} {best : Int} {dn : List Bool} {hp : Nat → Option Int} (h : InW W0 W K cb db gh na best dn hp) (x : Int) : InW W0 (W.setCell ⟨cb, 0, none⟩ (.int .i64 x)) K cb db gh na x dn hp :=
 ⟨h.kept.trans (Kept.set _ _ _ _ h.kb.1) h.size, by simpa [World.setCell] using h.size, h.b0.set_ 0 _, h.dd.far_ (fun e => h.kb.2.2 e.symm) _, h.hh.set (.inr (.inl rfl)) _, h.ld, h.kl, h.kb⟩
theorem InW.put {W0 W W' : World} {K : Nat → Prop} {cb db gh na : Nat} {best : Int} {dn : List Bool} {hp hp' : Nat → Option Int} (h : InW W0 W K cb db gh na best dn hp) (hh : HeapO W' (fun b => K b ∨ b = cb ∨ b = db) gh na hp') (ha : Aft (fun b => K b ∨ b = cb ∨ b = db) W W') : InW W0 W' K cb db gh na best dn hp' :=
 ⟨h.kept.trans (ha.kept.mono (fun _ hb => .inl hb)) h.size, Nat.le_trans h.size ha.size, (ha.kept cb (.inr (.inl rfl)) h.b0.lt).trans h.b0, (ha.kept db (.inr (.inr rfl)) h.dd.lt).trans h.dd, hh, h.ld, h.kl, h.kb⟩
theorem Aft.mono {G G' : Nat → Prop} {a b : World} (h : Aft G a b) (hs : ∀ b, G' b → G b) : Aft G' a b := ⟨h.kept.mono hs, h.size, fun B hB => h.bel B (fun b hb => hs b (hB b hb))⟩
theorem InW.on {W0 w w1 : World} {K : Nat → Prop} {cb db gh na : Nat} {best : Int} {dn : List Bool} {hp : Nat → Option Int} (h : InW W0 w K cb db gh na best dn hp) (hb : Below w.heap.size w w1) {e : TypeId} {A : Option Addr} {n c : Nat} {xs : List Value} (ho : Own w1 w.heap.size e 1 A n c xs) :
 InW w1 w1 (fun b => K b ∨ blkOf A = some b) cb db gh na best dn hp := by
 have h1 := h.below hb
 have hne : ∀ k, k < w.heap.size → blkOf A ≠ some k := fun k hk e => by have := (ho.lt k e).1; omega
 have hs := hb.size
 refine ⟨Kept.refl _ _, Nat.le_refl _, h1.b0, h1.dd, h.hh.more hb (fun b hb' => ?_), h.ld, fun b hb' => ?_, ⟨fun e => e.elim h.kb.1 (hne cb h.b0.lt), fun e => e.elim h.kb.2.1 (hne db h.dd.lt), h.kb.2.2⟩⟩
 · rcases hb' with (h2 | h2) | h2
   · exact ⟨by have := h.kl b h2; have := h.size; omega, .inl (.inl h2)⟩
   · exact ⟨(ho.lt b h2).2, .inr (ho.lt b h2).1⟩
   · rcases h2 with rfl | rfl
     · exact ⟨h1.b0.lt, .inl (.inr (.inl rfl))⟩
     · exact ⟨h1.dd.lt, .inl (.inr (.inr rfl))⟩
 · rcases hb' with h2 | h2
   · have := h.kl b h2; have := h.size; omega
   · exact (ho.lt b h2).2
theorem InW.back {W0 w1 W : World} {K K2 : Nat → Prop} {cb db gh na : Nat} {best b2 : Int} {dn d2 : List Bool} {hp h2 : Nat → Option Int} (h : InW W0 w1 K cb db gh na best dn hp) (h' : InW w1 W K2 cb db gh na b2 d2 h2) (hs : ∀ b, K b → K2 b) : InW W0 W K cb db gh na b2 d2 h2 :=
 ⟨h.kept.trans (h'.kept.mono hs) h.size, Nat.le_trans h.size h'.size, h'.b0, h'.dd, h'.hh.less (fun b hb => hb.elim (fun e => .inl (hs b e)) .inr), h'.ld, h.kl, h.kb⟩
theorem nis_idx (f : Tri → Int) (l : List Tri) (v : Int) : ∃ bs : List Nat, nis bs = idx f l v ∧ ∀ b ∈ bs, ∃ y, l[b]? = some y ∧ f y = v := by
 refine ⟨(idx f l v).map Int.toNat, ?_, fun b hb => ?_⟩
 · unfold nis
   rw [List.map_map]
   refine (List.map_congr_left (g := id) fun z hz => ?_).trans (List.map_id _)
   obtain ⟨i, a, rfl, _⟩ := mem_idx.1 hz
   simp
 · obtain ⟨z, hz, rfl⟩ := List.mem_map.1 hb
   obtain ⟨i, a, rfl, h1, h2⟩ := mem_idx.1 hz
   exact ⟨a, by simpa using h1, h2⟩
end Go.Proofs.YtgkeolddpielpaaGreat

namespace Go.Proofs.YtgkeolddpielpaaGreat

/-! Least costs over steps; plain. -/
abbrev StepR := Nat → Nat → Int → Prop
inductive Rch (St : StepR) (s : Nat) : Nat → Int → Prop
 | start : Rch St s s 0
 | step {p q : Nat} {c d : Int} : Rch St s p c → St p q d → Rch St s q (c + d)
theorem Rch.pos {St : StepR} (h0 : ∀ p q d, St p q d → 0 ≤ d) {s p : Nat} {c : Int} (h : Rch St s p c) : 0 ≤ c := by
 induction h with
 | start => exact Int.le_refl _
 | step _ h2 ih => have := h0 _ _ _ h2; omega
theorem Rch.trans {St : StepR} {s p q : Nat} {c d : Int} (h : Rch St s p c) (g : Rch St p q d) : Rch St s q (c + d) := by
 induction g with
 | start => simpa using h
 | step _ h2 ih => rw [← Int.add_assoc]; exact ih.step h2
theorem Rch.mono {St St' : StepR} (hm : ∀ p q d, St p q d → St' p q d) {s p : Nat} {c : Int} (h : Rch St s p c) : Rch St' s p c := by
 induction h with
 | start => exact .start
 | step _ h2 ih => exact ih.step (hm _ _ _ h2)
def OutC (St Out : StepR) (s k : Nat) (v : Int) : Prop := ∃ p c d, Rch St s p c ∧ Out p k d ∧ v = c + d
def INF : Int := 1152921504606846976
def Lst (P : Int → Prop) (v : Int) : Prop := (P v ∧ ∀ c, P c → v ≤ c) ∨ (v = INF ∧ ∀ c, ¬ P c)
theorem Lst.uniq {P : Int → Prop} {a b : Int} (h : Lst P a) (g : Lst P b) : a = b := by
 rcases h with ⟨h1, h2⟩ | ⟨h1, h2⟩ <;> rcases g with ⟨g1, g2⟩ | ⟨g1, g2⟩
 · have := h2 _ g1; have := g2 _ h1; omega
 · exact absurd h1 (g2 _)
 · exact absurd g1 (h2 _)
 · rw [h1, g1]
theorem Lst.conv {P Q : Int → Prop} {v : Int} (h : Lst P v) (h1 : ∀ c, P c → ∃ d, Q d ∧ d ≤ c) (h2 : ∀ c, Q c → ∃ d, P d ∧ d ≤ c) : Lst Q v := by
 rcases h with ⟨hv, hm⟩ | ⟨hv, hn⟩
 · left
   obtain ⟨d, hd, hle⟩ := h1 v hv
   obtain ⟨e, he, hle2⟩ := h2 d hd
   have h3 := hm e he
   have : d = v := by omega
   subst this
   refine ⟨hd, fun c hc => ?_⟩
   obtain ⟨e, he, hle⟩ := h2 c hc
   have := hm e he
   omega
 · right
   refine ⟨hv, fun c hc => ?_⟩
   obtain ⟨e, he, _⟩ := h2 c hc
   exact hn e he

/-! Cells within cells: K p: the kid in which one stands behind p; In: the steps within a kid. -/
structure Nested (St Out : StepR) (SK : StepR) (E : Nat → Nat → Int → Prop) (CSt COut : StepR) (ins : Nat → Prop) (W : Nat → Int) (T : Nat → Nat → Int → Prop) : Prop where
 /-- a step within a kid is a step; what is no such step goes out of the kid, by an arc that is an entry's end -/
 sub : ∀ p q d, SK p q d → St p q d
 split : ∀ p q d, St p q d → SK p q d ∨ (ins q ∧ ∃ t, T p q t ∧ d = t + W q ∧ 0 ≤ W q)
 join : ∀ a p q c t, ins a → Rch SK a p c → T p q t → (∃ d, St p q d ∧ ¬ SK p q d) → St p q (t + W q)
 /-- coarse steps -/
 cst : ∀ a q d, CSt a q d → ins a ∧ ins q ∧ ∃ v, E a q v ∧ d = v + W q ∧ (∃ p c t, Rch SK a p c ∧ T p q t ∧ v = c + t ∧ St p q (t + W q))
 cst2 : ∀ a p q c t, ins a → Rch SK a p c → T p q t → ins q → St p q (t + W q) → ¬ SK p q (t + W q) → ∃ d, CSt a q d ∧ d ≤ c + t + W q
 cout : ∀ a k d, COut a k d → ∃ p c t, Rch SK a p c ∧ Out p k t ∧ d = c + t
 cout2 : ∀ a p k c t, ins a → Rch SK a p c → Out p k t → ∃ d, COut a k d ∧ d ≤ c + t
theorem Nested.up {St Out SK : StepR} {E : Nat → Nat → Int → Prop} {CSt COut : StepR} {ins : Nat → Prop} {W : Nat → Int} {T : Nat → Nat → Int → Prop} (h : Nested St Out SK E CSt COut ins W T)
 {s q : Nat} {c : Int} (hr : Rch CSt s q c) : Rch St s q c := by
 induction hr with
 | start => exact .start
 | step h1 h2 ih =>
  obtain ⟨_, _, v, _, rfl, p, c', t, h3, h4, rfl, h5⟩ := h.cst _ _ _ h2
  have := (ih.trans (h3.mono h.sub)).step h5
  rw [show ∀ a b c d : Int, a + b + (c + d) = a + (b + c + d) from fun a b c d => by omega] at this
  exact this
theorem Nested.down {St Out SK : StepR} {E : Nat → Nat → Int → Prop} {CSt COut : StepR} {ins : Nat → Prop} {W : Nat → Int} {T : Nat → Nat → Int → Prop} (h : Nested St Out SK E CSt COut ins W T)
 (hsk : ∀ p q d, St p q d → SK p q d ∨ ¬ SK p q d) {s q : Nat} {c : Int} (hs : ins s) (hr : Rch St s q c) : ∃ a c1 c2, ins a ∧ Rch CSt s a c1 ∧ Rch SK a q c2 ∧ c1 + c2 ≤ c := by
 induction hr with
 | start => exact ⟨s, 0, 0, hs, .start, .start, by omega⟩
 | @step p q c d h1 h2 ih =>
  obtain ⟨a, c1, c2, ha, g1, g2, g3⟩ := ih
  rcases hsk _ _ _ h2 with hk | hk
  · exact ⟨a, c1, c2 + d, ha, g1, g2.step hk, by omega⟩
  · rcases h.split _ _ _ h2 with hk' | ⟨hq, t, ht, rfl, hw⟩
    · exact absurd hk' hk
    · obtain ⟨e, he, hle⟩ := h.cst2 a p q c2 t ha g2 ht hq h2 hk
      exact ⟨q, c1 + e, 0, hq, g1.step he, .start, by omega⟩
theorem Nested.same {St Out SK : StepR} {E : Nat → Nat → Int → Prop} {CSt COut : StepR} {ins : Nat → Prop} {W : Nat → Int} {T : Nat → Nat → Int → Prop} (h : Nested St Out SK E CSt COut ins W T)
 (hsk : ∀ p q d, St p q d → SK p q d ∨ ¬ SK p q d) {s k : Nat} {v : Int} (hs : ins s) (hl : Lst (OutC CSt COut s k) v) : Lst (OutC St Out s k) v := by
 refine hl.conv (fun c hc => ?_) (fun c hc => ?_)
 · obtain ⟨a, c1, d, h1, h2, rfl⟩ := hc
   obtain ⟨p, c2, t, h3, h4, rfl⟩ := h.cout _ _ _ h2
   exact ⟨_, ⟨p, c1 + c2, t, (h.up h1).trans (h3.mono h.sub), h4, rfl⟩, by omega⟩
 · obtain ⟨p, c1, t, h1, h2, rfl⟩ := hc
   obtain ⟨a, e1, e2, ha, g1, g2, g3⟩ := h.down hsk hs h1
   obtain ⟨d, hd, hle⟩ := h.cout2 a p k e2 t ha g2 h2
   exact ⟨_, ⟨a, e1, d, g1, hd, rfl⟩, by omega⟩

/-! The least first. -/
structure Dij (St : StepR) (s : Nat) (dn : Nat → Option Int) (hp : Nat → Option Int) : Prop where
 dr : ∀ p c, dn p = some c → Rch St s p c
 dm : ∀ p c, dn p = some c → ∀ e, Rch St s p e → c ≤ e
 hr : ∀ p c, hp p = some c → Rch St s p c
 off : ∀ p c, dn p = some c → hp p = none
 on : ∀ p c q d, dn p = some c → St p q d → (∃ e, dn q = some e ∧ e ≤ c + d) ∨ (∃ e, hp q = some e ∧ e ≤ c + d)
 st : dn s ≠ none ∨ ∃ e, hp s = some e ∧ e ≤ 0
theorem Dij.wait {St : StepR} {s : Nat} {dn hp : Nat → Option Int} (h : Dij St s dn hp) (h0 : ∀ p q d, St p q d → 0 ≤ d) {p : Nat} {c : Int} (hr : Rch St s p c) : (∃ e, dn p = some e ∧ e ≤ c) ∨ ∃ q e, hp q = some e ∧ e ≤ c := by
 induction hr with
 | start =>
  rcases h.st with h1 | ⟨e, h1, h2⟩
  · left
    cases hd : dn s with
    | none => exact absurd hd h1
    | some e => exact ⟨e, rfl, h.dm s e hd 0 .start⟩
  · exact .inr ⟨s, e, h1, h2⟩
 | @step p q c d h1 h2 ih =>
  have hd := h0 _ _ _ h2
  rcases ih with ⟨e, h3, h4⟩ | ⟨r, e, h3, h4⟩
  · rcases h.on p e q d h3 h2 with ⟨f, h5, h6⟩ | ⟨f, h5, h6⟩
    · exact .inl ⟨f, h5, by omega⟩
    · exact .inr ⟨q, f, h5, by omega⟩
  · exact .inr ⟨r, e, h3, by omega⟩
theorem Dij.least {St : StepR} {s : Nat} {dn hp : Nat → Option Int} (h : Dij St s dn hp) (h0 : ∀ p q d, St p q d → 0 ≤ d) {p : Nat} {c : Int} (hp1 : hp p = some c) (hm : ∀ q e, hp q = some e → c ≤ e) : ∀ e, Rch St s p e → c ≤ e := by
 intro e hr
 rcases h.wait h0 hr with ⟨f, h1, _⟩ | ⟨q, f, h1, h2⟩
 · have := h.off p f h1
   rw [hp1] at this
   cases this
 · have := hm q f h1
   omega
theorem Dij.all {St : StepR} {s : Nat} {dn hp : Nat → Option Int} (h : Dij St s dn hp) (h0 : ∀ p q d, St p q d → 0 ≤ d) (he : ∀ q, hp q = none) {p : Nat} {c : Int} (hr : Rch St s p c) : ∃ e, dn p = some e ∧ e ≤ c := by
 rcases h.wait h0 hr with h1 | ⟨q, e, h1, _⟩
 · exact h1
 · rw [he q] at h1; cases h1
structure DijP (St : StepR) (s : Nat) (dn hp : Nat → Option Int) (p : Nat) (c : Int) (Gone : Nat → Int → Prop) : Prop where
 dr : ∀ q e, dn q = some e → Rch St s q e
 dm : ∀ q e, dn q = some e → ∀ f, Rch St s q f → e ≤ f
 hr : ∀ q e, hp q = some e → Rch St s q e
 off : ∀ q e, dn q = some e → hp q = none
 on : ∀ q e r d, dn q = some e → St q r d → (q = p ∧ ¬ Gone r d) ∨ (∃ f, dn r = some f ∧ f ≤ e + d) ∨ (∃ f, hp r = some f ∧ f ≤ e + d)
 st : dn s ≠ none ∨ ∃ e, hp s = some e ∧ e ≤ 0
 at_ : dn p = some c
theorem Dij.take {St : StepR} {s : Nat} {dn hp : Nat → Option Int} (h : Dij St s dn hp) (h0 : ∀ p q d, St p q d → 0 ≤ d) {p : Nat} {c : Int} (hp1 : hp p = some c) (hm : ∀ q e, hp q = some e → c ≤ e) :
 DijP St s (fun q => if q = p then some c else dn q) (fun q => if q = p then none else hp q) p c (fun _ _ => False) where
 dr := fun q e he => by
  by_cases hq : q = p
  · subst hq; simp at he; subst he; exact h.hr q c hp1
  · simp [hq] at he; exact h.dr q e he
 dm := fun q e he f hf => by
  by_cases hq : q = p
  · subst hq; simp at he; subst he; exact h.least h0 hp1 hm f hf
  · simp [hq] at he; exact h.dm q e he f hf
 hr := fun q e he => by
  by_cases hq : q = p
  · simp [hq] at he
  · simp [hq] at he; exact h.hr q e he
 off := fun q e he => by
  by_cases hq : q = p
  · simp [hq]
  · simp [hq] at he ⊢; exact h.off q e he
 on := fun q e r d he hs => by
  by_cases hq : q = p
  · exact .inl ⟨hq, fun h => h⟩
  · simp [hq] at he
    right
    rcases h.on q e r d he hs with ⟨f, h1, h2⟩ | ⟨f, h1, h2⟩
    · by_cases hr : r = p
      · subst hr
        have := h.off r f h1
        rw [hp1] at this
        cases this
      · exact .inl ⟨f, by simp [hr, h1], h2⟩
    · by_cases hr : r = p
      · subst hr
        rw [hp1] at h1
        cases h1
        exact .inl ⟨c, by simp, h2⟩
      · exact .inr ⟨f, by simp [hr, h1], h2⟩
 st := by
  by_cases hs : s = p
  · left; simp [hs]
  · rcases h.st with h1 | ⟨e, h1, h2⟩
    · left; simpa [hs] using h1
    · right; exact ⟨e, by simp [hs, h1], h2⟩
 at_ := by simp
theorem DijP.put {St : StepR} {s : Nat} {dn hp hp' : Nat → Option Int} {p q : Nat} {c d : Int} {Gone : Nat → Int → Prop} (h : DijP St s dn hp p c Gone) (hs : St p q d)
 (hput : (dn q ≠ none ∧ (∀ e, dn q = some e → e ≤ c + d) ∧ hp' = hp) ∨ (dn q = none ∧ (∀ r, r ≠ q → hp' r = hp r) ∧ ((∃ e, hp q = some e ∧ e ≤ c + d ∧ hp' q = some e) ∨ ((∀ e, hp q = some e → c + d ≤ e) ∧ hp' q = some (c + d))))) :
 DijP St s dn hp' p c (fun r e => Gone r e ∨ (r = q ∧ e = d)) where
 dr := h.dr
 dm := h.dm
 hr := fun r e he => by
  rcases hput with ⟨_, _, rfl⟩ | ⟨_, h2, h3⟩
  · exact h.hr r e he
  · by_cases hr : r = q
    · subst hr
      rcases h3 with ⟨f, h4, _, h5⟩ | ⟨_, h5⟩
      · rw [h5] at he; cases he; exact h.hr r _ h4
      · rw [h5] at he; cases he; exact (h.dr p c h.at_).step hs
    · rw [h2 r hr] at he; exact h.hr r e he
 off := fun r e he => by
  rcases hput with ⟨_, _, rfl⟩ | ⟨h1, h2, _⟩
  · exact h.off r e he
  · by_cases hr : r = q
    · subst hr; rw [h1] at he; cases he
    · rw [h2 r hr]; exact h.off r e he
 on := fun r e t f he hst => by
  have key : ∀ g, (∃ x, hp t = some x ∧ x ≤ g) → ∃ x, hp' t = some x ∧ x ≤ g := fun g ⟨x, h1, h2⟩ => by
   rcases hput with ⟨_, _, rfl⟩ | ⟨_, h4, h5⟩
   · exact ⟨x, h1, h2⟩
   · by_cases ht : t = q
     · subst ht
       rcases h5 with ⟨y, h6, _, h7⟩ | ⟨h6, h7⟩
       · rw [h1] at h6; cases h6; exact ⟨x, h7, h2⟩
       · exact ⟨c + d, h7, by have := h6 x h1; omega⟩
     · exact ⟨x, by rw [h4 t ht]; exact h1, h2⟩
  rcases h.on r e t f he hst with ⟨h1, h2⟩ | h1 | h1
  · by_cases hg : t = q ∧ f = d
    · obtain ⟨rfl, rfl⟩ := hg
      subst h1
      rw [h.at_] at he
      cases he
      right
      rcases hput with ⟨h3, h4, rfl⟩ | ⟨h3, h4, h5⟩
      · left
        cases hd : dn t with
        | none => exact absurd hd h3
        | some x => exact ⟨x, rfl, h4 x hd⟩
      · right
        rcases h5 with ⟨y, h6, h7, h8⟩ | ⟨_, h8⟩
        · exact ⟨y, h8, h7⟩
        · exact ⟨_, h8, Int.le_refl _⟩
    · exact .inl ⟨h1, fun hx => hx.elim h2 hg⟩
  · exact .inr (.inl h1)
  · exact .inr (.inr (key _ h1))
 st := by
  rcases h.st with h1 | ⟨e, h1, h2⟩
  · exact .inl h1
  · right
    rcases hput with ⟨_, _, rfl⟩ | ⟨_, h4, h5⟩
    · exact ⟨e, h1, h2⟩
    · by_cases ht : s = q
      · subst ht
        rcases h5 with ⟨y, h6, _, h7⟩ | ⟨h6, h7⟩
        · rw [h1] at h6; cases h6; exact ⟨e, h7, h2⟩
        · exact ⟨c + d, h7, by have := h6 e h1; omega⟩
      · exact ⟨e, by rw [h4 s ht]; exact h1, h2⟩
 at_ := h.at_
theorem DijP.done {St : StepR} {s : Nat} {dn hp : Nat → Option Int} {p : Nat} {c : Int} {Gone : Nat → Int → Prop} (h : DijP St s dn hp p c Gone) (hg : ∀ q d, St p q d → Gone q d) : Dij St s dn hp :=
 ⟨h.dr, h.dm, h.hr, h.off, fun q e r d h1 h2 => by
  rcases h.on q e r d h1 h2 with ⟨h3, h4⟩ | h3 | h3
  · subst h3; exact absurd (hg r d h2) h4
  · exact .inl h3
  · exact .inr h3, h.st⟩
structure OutB (Out : StepR) (dn : Nat → Option Int) (k : Nat) (b : Int) (Extra : Int → Prop) : Prop where
 lo : ∀ p c d, dn p = some c → Out p k d → ¬ Extra (c + d) → b ≤ c + d
 hit : b = INF ∨ ∃ p c d, dn p = some c ∧ Out p k d ∧ b = c + d
theorem OutB.least {St Out : StepR} {s k : Nat} {dn hp : Nat → Option Int} {b : Int} (h : Dij St s dn hp) (h0 : ∀ p q d, St p q d → 0 ≤ d) (he : ∀ q, hp q = none) (hb : OutB Out dn k b (fun _ => False)) (hlt : ∀ p c d, dn p = some c → Out p k d → c + d < INF) : Lst (OutC St Out s k) b := by
 rcases hb.hit with h1 | ⟨p, c, d, h1, h2, h3⟩
 · right
   refine ⟨h1, fun v ⟨p, c, d, h2, h3, h4⟩ => ?_⟩
   obtain ⟨e, h5, _⟩ := h.all h0 he h2
   have := hb.lo p e d h5 h3 (fun h => h)
   have := hlt p e d h5 h3
   omega
 · left
   refine ⟨⟨p, c, d, h.dr p c h1, h2, h3⟩, fun v ⟨q, e, f, h4, h5, h6⟩ => ?_⟩
   obtain ⟨x, h7, h8⟩ := h.all h0 he h4
   have := hb.lo q x f h7 h5 (fun h => h)
   omega
end Go.Proofs.YtgkeolddpielpaaGreat
