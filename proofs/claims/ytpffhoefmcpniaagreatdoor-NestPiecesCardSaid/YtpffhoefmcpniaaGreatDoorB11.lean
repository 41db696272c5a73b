/- Parts of the proof: Tl, QCu2, QCuV, QFl8. -/
import Derived.Test.YtpffhoefmcpniaaGreatDoorB1
import Derived.Test.YtpffhoefmcpniaaGreatDoorB2
import Derived.Test.YtpffhoefmcpniaaGreatDoorB9
import Derived.Test.YtpffhoefmcpniaaGreatDoorB10
import Derived.Deep.RegionHeld3
import Derived.Deep.DrawnRows
namespace Go.Proofs.YtpffhoefmcpniaaGreatDoor
open Go.RowKit Go.Extern.Stop Go.Stop Go.Extern

theorem asW_below (t : Addr) (p : Nat) (w : World) : Below w.heap.size w (asX t p w) := bELt

theorem as_fault (b o g : Nat) (old : Value) (w : World) (hg : w.cell? ⟨0, 0, none⟩ = some errT) (ht0 : w.cell? ⟨g, 0, none⟩ = some old) (hf0 : w.frozen? ⟨g, 0, none⟩ = false) :
 Calls Tryz.prog 38 #[fltV b o, .iface 97 (.pointer (some ⟨g, 0, none⟩))] w fun ev w' => ev = .returned (.bool true) ∧ w'.cell? ⟨g, 0, none⟩ = some (.pointer (some ⟨b, o, none⟩)) ∧ Below g w w' :=
 (as_hitF ⟨b, o, none⟩ ⟨g, 0, none⟩ old w hg ht0 hf0).mono fun e w' ⟨he, hw⟩ => by
  have hlt := lt_of_cell ht0
  have hb : Below g w (asX ⟨g, 0, none⟩ 97 w) := (asW_below _ _ w).mono (Nat.le_of_lt hlt)
  have hb2 : Below g w ((asX ⟨g, 0, none⟩ 97 w).alloc (.cells #[.pointer (some ⟨b, o, none⟩)] 95)) := hb.alloc (Nat.le_trans (Nat.le_of_lt hlt) (asW_below _ _ w).size) _
  refine ⟨he, ?_, ?_⟩
  · rw [hw]
    have hc : ((asX ⟨g, 0, none⟩ 97 w).alloc (.cells #[.pointer (some ⟨b, o, none⟩)] 95)).cell? ⟨g, 0, none⟩ = some old :=
     Below.cellOf (Bel.alloc (asW_below ⟨g, 0, none⟩ 97 w)) (Nat.le_refl _) ht0
    exact World.cell?_setCell_same _ _ _ hc
  · rw [hw]; exact hb2.setCell (Nat.le_refl _) _
theorem as_errno (c : Int) (g : Nat) (old : Value) (w : World) (hg : w.cell? ⟨0, 0, none⟩ = some errT) (ht0 : w.cell? ⟨g, 0, none⟩ = some old) (hf0 : w.frozen? ⟨g, 0, none⟩ = false) :
 Calls Tryz.prog 38 #[errV c, .iface 102 (.pointer (some ⟨g, 0, none⟩))] w fun ev w' => ev = .returned (.bool true) ∧ w'.cell? ⟨g, 0, none⟩ = some (.int .i64 c) ∧ Below g w w' :=
 (as_hitE c ⟨g, 0, none⟩ old w hg ht0 hf0).mono fun e w' ⟨he, hw⟩ => by
  have hlt := lt_of_cell ht0
  have hb : Below g w (asX ⟨g, 0, none⟩ 102 w) := (asW_below _ _ w).mono (Nat.le_of_lt hlt)
  have hb2 : Below g w ((asX ⟨g, 0, none⟩ 102 w).alloc (.cells #[.int .i64 c] 94)) := hb.alloc (Nat.le_trans (Nat.le_of_lt hlt) (asW_below _ _ w).size) _
  refine ⟨he, ?_, ?_⟩
  · rw [hw]
    have hc : ((asX ⟨g, 0, none⟩ 102 w).alloc (.cells #[.int .i64 c] 94)).cell? ⟨g, 0, none⟩ = some old :=
     Below.cellOf (Bel.alloc (asW_below ⟨g, 0, none⟩ 102 w)) (Nat.le_refl _) ht0
    exact World.cell?_setCell_same _ _ _ hc
  · rw [hw]; exact hb2.setCell (Nat.le_refl _) _
theorem as_none (c : Int) (g : Nat) (w : World) (hg : w.cell? ⟨0, 0, none⟩ = some errT) :
 Calls Tryz.prog 38 #[errV c, .iface 97 (.pointer (some ⟨g, 0, none⟩))] w fun ev w' => ev = .returned (.bool false) ∧ Below w.heap.size w w' :=
 (as_miss c ⟨g, 0, none⟩ w hg).mono fun e w' ⟨he, hw⟩ => ⟨he, by rw [hw]; exact asW_below _ _ w⟩

set_option maxHeartbeats 1000000 in
theorem tells_nil (A : Option Addr) (n c : Nat) (w : World) :
 Calls Tryz.prog 13 #[.nilIface, .agg #[.slice A n c, .int .i64 0]] w fun e w' => e = .returned (.bool true) ∧ Below w.heap.size w w' := by
 go_enter Tryz.func13, Tryz.ntmps13
 go_wp2
 go_ret
 exact ⟨rfl, bELt⟩

theorem chain_drop {w : World} {v : Value} {ps : List (ByteArray × Int)} {c : Int} {k : Nat} {p : ByteArray × Int} (hk : ps[k]? = some p) (h : Chain w v (ps.drop k) c) :
 ∃ b o u, v = fltV b o ∧ w.cell? ⟨b, o, none⟩ = some (.string p.1) ∧ w.cell? ⟨b, o + 1, none⟩ = some (.int .i64 p.2) ∧ w.cell? ⟨b, o + 2, none⟩ = some u ∧ Chain w u (ps.drop (k + 1)) c := by
 have hlt := (List.getElem?_eq_some_iff.1 hk).1
 rw [List.drop_eq_getElem_cons hlt] at h
 have e : ps[k] = p := (List.getElem?_eq_some_iff.1 hk).2
 rw [e] at h
 exact h

attribute [local go_sem ↓] Go.wp_at_zero Go.wp_at_succ

set_option maxHeartbeats 4000000 in
theorem tells_any (v : Value) (A : Option Addr) (n c : Nat) (ps : List (ByteArray × Int)) (c0 : Int) (w : World) (h : Chain w v ps c0) (hr : RdW w A n ps) (hc0 : c0 ≠ 0) (hg : w.cell? ⟨0, 0, none⟩ = some errT) (hn : n ≤ 4000000000000000000) :
 Calls Tryz.prog 13 #[v, .agg #[.slice A n c, .int .i64 c0]] w fun e w' => e = .returned (.bool true) ∧ Below w.heap.size w w' := by
 have HI : ∀ (W : World), Below w.heap.size w W → Calls Tryz.prog 37 #[v, errV c0] W fun e w' => e = .returned (.bool true) ∧ w' = W := fun W hb => errorsIs v ps c0 W (Chain.below hb h)
 have HI' := Lib.hid HI; clear HI
 obtain ⟨tvv, xv, hv⟩ := chain_not_nil h
 have hlt0 := lt_of_cell hg
 have HC := Lib.hid hc0
 have HCH := Lib.hid h
 subst hv
 clear h
 go_enter Tryz.func13, Tryz.ntmps13
 go_wp2_with fail
 with_reducible refine (HI'.out _ bELt).mono ?_
 rintro e w' ⟨rfl, rfl⟩
 clear HI'
 go_wp2_with fail
 (refine wp_named ?_; intro w1 hw1)
 have hb1 : Below w.heap.size w w1 := by rw [hw1]; exact bELt
 have hx0 : w1.cell? ⟨w.heap.size, 0, none⟩ = some (.slice A n c) := by rw [hw1]; simp
 have hx1 : w1.cell? ⟨w.heap.size, 1, none⟩ = some (.int .i64 c0) := by rw [hw1]; simp
 have hg1 : w1.cell? ⟨0, 0, none⟩ = some errT := Below.cellOf hb1 (Nat.le_refl _) hg
 have hr1 := hr.below hb1
 have hch := Chain.below hb1 HCH.out
 have HCH1 := Lib.hid hch
 clear hch HCH hr hw1 hg
 go_loopw [0, 5] (fun u i W => ∃ (k : Nat), k ≤ n ∧ i = .int .i64 k ∧ Chain W u (ps.drop k) c0 ∧ Below w1.heap.size w1 W) (fun _ i _ => n - (intOf i).toNat)
 case atStart => exact ⟨0, Nat.zero_le _, rfl, HCH1.out, Below.refl _ _⟩
 case round =>
  obtain ⟨k, hk, rfl, hch, hbl⟩ := hrel
  have y0 := Below.cellOf hbl (Nat.le_refl _) hx0
  by_cases hlt : k < n
  · have hlen := hr1.1
    obtain ⟨p, hp⟩ : ∃ p, ps[k]? = some p := ⟨ps[k], List.getElem?_eq_getElem (by omega)⟩
    obtain ⟨pb, po, rfl, hp1, hp2⟩ := hr1.2 k p hp
    obtain ⟨b, o, u, rfl, hc1, hc2, hc3, hc4⟩ := chain_drop hp hch
    obtain ⟨tu, xu, hu⟩ := chain_not_nil hc4
    have HP := Lib.hid hp
    have H4 := Lib.hid hc4
    have z := hbl.size
    clear hp hch hlen hc4
    subst hu
    obtain ⟨s, q0⟩ := p
    go_wp2_with fail
    (refine wp_named ?_; intro W5 hW5)
    have hb5 : Below w1.heap.size w1 W5 := by rw [hW5]; exact bELt
    have hbr : Below wr.heap.size wr W5 := by rw [hW5]; exact bELt
    have ht5 : W5.cell? ⟨wr.heap.size, 0, none⟩ = some (.pointer none) := by rw [hW5]; simp
    have hf5 : W5.frozen? ⟨wr.heap.size, 0, none⟩ = false := by rw [hW5]; simp
    have hg5 := Below.cellOf hb5 (Nat.le_refl _) hg1
    have hz5 := lt_of_cell ht5
    have HA : ∀ V, Below W5.heap.size W5 V → Calls Tryz.prog 38 #[fltV b o, .iface 97 (.pointer (some ⟨wr.heap.size, 0, none⟩))] V fun ev w' => ev = .returned (.bool true) ∧ w'.cell? ⟨wr.heap.size, 0, none⟩ = some (.pointer (some ⟨b, o, none⟩)) ∧ Below wr.heap.size W5 w' := fun V hV =>
     (as_fault b o wr.heap.size _ V (Below.cellOf hV (Nat.le_refl _) hg5) (Below.cellOf hV (Nat.le_refl _) ht5) ((Below.frozenOf hV hz5).trans hf5)).mono fun _ _ ⟨h1, h2, h3⟩ => ⟨h1, h2, (hV.mono (Nat.le_of_lt hz5)).trans h3⟩
    have HA' := Lib.hid HA; clear HA
    clear hW5 hf5 hg5
    refine wp_region_held_drew (S := fun _ => True) (by kernel_rfl) trivial (fun _ => ?_)
    refine tk 0 31 (h := ⟨_, tv, ?_⟩)
    simp only [pE, List.set]
    refine tk 1 32 (h := ⟨_, tv, ?_⟩)
    simp only [pE, List.set]
    refine wpAnyH_ready (rs := [2]) (by kernel_rfl) (by simp) ?_
    refine AllReadyH.cons (o := _) rfl (fun K hK => ?_) AllReadyH.nil
    go_simp
    go_at_call 38
    with_reducible refine (HA'.out _ bELt).mono ?_
    rintro e w6 ⟨rfl, ht6, hb6⟩
    have hb7 : Below wr.heap.size wr w6 := hbr.trans hb6
    have c6 := Below.cellOf hb7 (Nat.le_refl _) hc1
    have d6 := Below.cellOf hb7 (Nat.le_refl _) hc2
    have e6 := Below.cellOf hb7 (Nat.le_refl _) hc3
    have y6 := Below.cellOf hb7 (Nat.le_refl _) y0
    have p6 := Below.cellOf hb7 (Nat.le_refl _) (Below.cellOf hbl (Nat.le_refl _) hp1)
    have q6 := Below.cellOf hb7 (Nat.le_refl _) (Below.cellOf hbl (Nat.le_refl _) hp2)
    go_wp2_with fail
    refine hK.out _ _ trivial (fun _ => ?_)
    clear hK K
    refine wpAnyH_mono (S' := fun V => V = w6) (fun _ _ => trivial) _ _ _ _ ?_
    have i1 : (0 : Int) ≤ (k : Int) := by omega
    have i2 : (k : Int) < (n : Int) := by omega
    clear hc1 hc2 hc3 y0 hp1 hp2 HA' hx1 hb5 hbr ht5 hz5
    refine tk 3 34 (h := ⟨_, tv, ?_⟩)
    simp only [pE, List.set]
    refine tk 4 35 (h := ⟨_, tv, ?_⟩)
    simp only [pE, List.set]
    refine tk 5 36 (h := ⟨_, tv, ?_⟩)
    simp only [pE, List.set]
    refine tk 6 37 (h := ⟨_, tv, ?_⟩)
    simp only [pE, List.set]
    refine tk 7 38 (h := ⟨_, tv, ?_⟩)
    simp only [pE, List.set]
    refine tk 8 39 (h := ⟨_, tv, ?_⟩)
    simp only [pE, List.set]
    refine tk 9 40 (h := ⟨_, tv, ?_⟩)
    simp only [pE, List.set]
    refine tk 10 41 (h := ⟨_, tv, ?_⟩)
    simp only [pE, List.set]
    refine tk 11 42 (h := ⟨_, tv, ?_⟩)
    simp only [pE, List.set]
    refine tk 12 43 (h := ⟨_, tv, ?_⟩)
    simp only [pE, List.set]
    refine tk 13 44 (h := ⟨_, tv, ?_⟩)
    simp only [pE, List.set]
    refine tk 14 45 (h := ⟨_, tv, ?_⟩)
    simp only [pE, List.set]
    refine tk 15 46 (h := ⟨_, tv, ?_⟩)
    simp only [pE, List.set]
    refine tk 16 47 (h := ⟨_, tv, ?_⟩)
    simp only [pE, List.set]
    refine tk 17 48 (h := ⟨_, tv, ?_⟩)
    simp only [pE, List.set]
    refine tk 18 49 (h := ⟨_, tv, ?_⟩)
    simp only [pE, List.set]
    refine tk 19 50 (h := ⟨_, tv, ?_⟩)
    simp only [pE, List.set]
    refine tk 20 51 (h := ⟨_, tv, ?_⟩)
    simp only [pE, List.set]
    refine tk 21 52 (h := ⟨_, tv, ?_⟩)
    simp only [pE, List.set]
    refine tk 22 53 (h := ⟨_, tv, ?_⟩)
    simp only [pE, List.set]
    refine tk 23 54 (h := ⟨_, tv, ?_⟩)
    simp only [pE, List.set]
    refine tk 24 55 (h := ⟨_, tv, ?_⟩)
    simp only [pE, List.set]
    refine tk 25 56 (h := ⟨_, tv, ?_⟩)
    simp only [pE, List.set]
    refine tk 26 57 (h := ⟨_, tv, ?_⟩)
    simp only [pE, List.set]
    refine tk 27 58 (h := ⟨_, tv, ?_⟩)
    simp only [pE, List.set]
    refine tk 28 59 (h := ⟨_, tv, ?_⟩)
    simp only [pE, List.set]
    refine tk 29 60 (h := ⟨_, tv, ?_⟩)
    simp only [pE, List.set]
    refine tk 30 61 (h := ⟨_, tv, ?_⟩)
    simp only [pE, List.set]
    refine tk 31 62 (h := ⟨_, tv, ?_⟩)
    simp only [pE, List.set]
    refine tk 32 63 (h := ⟨_, tv, ?_⟩)
    simp only [pE, List.set]
    refine tk 33 64 (h := ⟨_, tv, ?_⟩)
    simp only [pE, List.set]
    refine wpAnyH_done (by kernel_rfl) ?_ _
    go_wp2_with fail
    exact ⟨⟨k + 1, by omega, by go_num, Chain.below hb7 H4.out, Bel.step hbl hb7⟩, by simp [intOf]; omega⟩
  · obtain rfl : k = n := by omega
    rw [List.drop_of_length_le (by have := hr1.1; omega)] at hch
    unfold Chain at hch
    subst hch
    have x1 := Below.cellOf hbl (Nat.le_refl _) hx1
    have gr := Below.cellOf hbl (Nat.le_refl _) hg1
    have z := hbl.size
    clear hx0 hr1 hx1
    go_wp2_with fail
    (refine calls_named ?_; intro W5 hW5)
    have hbr : Below wr.heap.size wr W5 := by rw [hW5]; exact bELt
    have ht5 : W5.cell? ⟨wr.heap.size + 1, 0, none⟩ = some (.int .i64 0) := by rw [hW5]; simp
    have hf5 : W5.frozen? ⟨wr.heap.size + 1, 0, none⟩ = false := by rw [hW5]; simp
    have g5 := Below.cellOf hbr (Nat.le_refl _) gr
    have z5 := lt_of_cell ht5
    clear hW5
    with_reducible refine (as_none c0 wr.heap.size _ g5).mono ?_
    rintro e w6 ⟨rfl, hb6⟩
    have hb56 := hbr.trans (hb6.mono hbr.size)
    go_wp2_with fail
    with_reducible refine (as_errno c0 (wr.heap.size + 1) _ _ (Below.cellOf hb6 (Nat.le_refl _) g5) (Below.cellOf hb6 (Nat.le_refl _) ht5) ((Below.frozenOf hb6 z5).trans hf5)).mono ?_
    rintro e w7 ⟨rfl, ht7, hb7⟩
    have hb8 : Below wr.heap.size wr w7 := hb56.trans (hb7.mono (Nat.le_succ _))
    have x7 := Below.cellOf hb8 (Nat.le_refl _) x1
    clear hb6 hb7 hb56 ht5 hf5
    go_wp2_with fail
    go_ret
    exact ⟨rfl, bELt⟩
end Go.Proofs.YtpffhoefmcpniaaGreatDoor

namespace Go.Proofs.YtpffhoefmcpniaaGreatDoor
open Go.RowKit

attribute [local go_sem ↓] Go.wp_at_zero Go.wp_at_succ

theorem near1_bd {p : Int × Int} (h : near1 p = true) : -1048576 ≤ p.1 ∧ p.1 ≤ 1048576 ∧ -1048576 ≤ p.2 ∧ p.2 ≤ 1048576 := by
 unfold near1 coordB at h
 simp only [Bool.and_eq_true, decide_eq_true_eq] at h
 omega

set_option maxHeartbeats 4000000 in
theorem cutCheck_ok (A B : Option Addr) (n m c d : Nat) (l E : List (Int × Int)) (w : World) (h : RdP w A n l) (hE : RdP w B m E) (h2 : 2 ≤ n) (hn : n ≤ 4096) (hm : m ≤ 16384) (hb : ∀ p ∈ l, near1 p = true) (he : Ends n E) :
 Calls Tryz.prog 96 #[.slice A n c, .slice B m d] w fun e w' => e = .returned .nilIface ∧ Below w.heap.size w w' := by
 have HB := Lib.hid hb
 have HE := Lib.hid he
 have j0 : ¬ (n : Int) < 2 := by omega
 have j1 : ¬ (n : Int) > 4096 := by omega
 have j2 : ¬ (m : Int) > 16384 := by omega
 clear hb he
 go_enter Tryz.func96, Tryz.ntmps96
 go_wp2_with fail
 go_loopw [30] (fun i W => Below w.heap.size w W ∧ ∃ k : Nat, k ≤ n ∧ i = .int .i64 k) (fun i _ => n - (intOf i).toNat)
 case atStart => exact ⟨Below.refl _ _, 0, Nat.zero_le _, rfl⟩
 case round =>
  obtain ⟨hbl, k, hk, rfl⟩ := hrel
  by_cases hlt : k < n
  · obtain ⟨g, o, x, y, rfl, hx, cx, cy⟩ := h.at_ hlt
    have hbd := near1_bd (HB.out _ (List.mem_of_getElem? hx))
    obtain ⟨b1, b2, b3, b4⟩ := hbd
    have j3 := Below.cellOf hbl (Nat.le_refl _) cx
    have j4 := Below.cellOf hbl (Nat.le_refl _) cy
    have i1 : (0 : Int) ≤ (k : Int) := by omega
    have i2 : (k : Int) < (n : Int) := by omega
    have x0 : ∀ V, (Instr.index 127 (.agg #[.int .i64 x, .int .i64 y]) (.int .i64 0)).run Tryz.prog V = .ok (.int .i64 x) V := fun _ => by kernel_rfl
    have x1 : ∀ V, (Instr.index 127 (.agg #[.int .i64 x, .int .i64 y]) (.int .i64 1)).run Tryz.prog V = .ok (.int .i64 y) V := fun _ => by kernel_rfl
    clear hx cx cy
    simp only at b1 b2 b3 b4
    go_wp2_with fail
    (refine wp_named ?_; intro w3 hw3)
    have hb3 : Below w.heap.size w w3 := by rw [hw3]; exact bELt
    clear hw3 j3 j4
    go_loopw [36] (fun i W => Below w.heap.size w W ∧ (i = .int .i64 0 ∨ i = .int .i64 1 ∨ i = .int .i64 2)) (fun i _ => 2 - (intOf i).toNat)
    case atStart => exact ⟨hb3, Or.inl rfl⟩
    case round =>
     obtain ⟨hbl2, hi⟩ := hrel
     rcases hi with rfl | rfl | rfl
     · go_wp2_with fail
       go_roundw
       case rel => exact ⟨hbl2, Or.inr (Or.inl rfl)⟩
       case measure => simp [intOf]
     · go_wp2_with fail
       go_roundw
       case rel => exact ⟨hbl2, Or.inr (Or.inr rfl)⟩
       case measure => simp [intOf]
     · go_wp2_with fail
       go_roundw
       case rel => exact ⟨hbl2, k + 1, by omega, by go_num⟩
       case measure => simp [intOf]; omega
  · go_wp2_with fail
    (refine wp_named ?_; intro w5 hw5)
    subst hw5
    go_loopw [52] (fun i W => Below w.heap.size w W ∧ ∃ k : Nat, k ≤ m ∧ i = .int .i64 k) (fun i _ => m - (intOf i).toNat)
    case atStart => exact ⟨hbl, 0, Nat.zero_le _, rfl⟩
    case round =>
     clear hbl
     obtain ⟨hbl, q, hq, rfl⟩ := hrel
     by_cases hlt2 : q < m
     · obtain ⟨g, o, x, y, rfl, hx, cx, cy⟩ := hE.at_ hlt2
       obtain ⟨b1, b2, b3, b4⟩ := HE.out _ (List.mem_of_getElem? hx)
       have j3 := Below.cellOf hbl (Nat.le_refl _) cx
       have j4 := Below.cellOf hbl (Nat.le_refl _) cy
       have i1 : (0 : Int) ≤ (q : Int) := by omega
       have i2 : (q : Int) < (m : Int) := by omega
       have x0 : ∀ V, (Instr.index 127 (.agg #[.int .i64 x, .int .i64 y]) (.int .i64 0)).run Tryz.prog V = .ok (.int .i64 x) V := fun _ => by kernel_rfl
       have x1 : ∀ V, (Instr.index 127 (.agg #[.int .i64 x, .int .i64 y]) (.int .i64 1)).run Tryz.prog V = .ok (.int .i64 y) V := fun _ => by kernel_rfl
       clear hx cx cy
       simp only at b1 b2 b3 b4
       go_wp2_with fail
       (refine wp_named ?_; intro w3 hw3)
       have hb3 : Below w.heap.size w w3 := by rw [hw3]; exact bELt
       clear hw3 j3 j4
       go_loopw [58] (fun i W => Below w.heap.size w W ∧ (i = .int .i64 0 ∨ i = .int .i64 1 ∨ i = .int .i64 2)) (fun i _ => 2 - (intOf i).toNat)
       case atStart => exact ⟨hb3, Or.inl rfl⟩
       case round =>
        obtain ⟨hbl2, hi⟩ := hrel
        rcases hi with rfl | rfl | rfl
        · go_wp2_with fail
          go_roundw
          case rel => exact ⟨hbl2, Or.inr (Or.inl rfl)⟩
          case measure => simp [intOf]
        · go_wp2_with fail
          go_roundw
          case rel => exact ⟨hbl2, Or.inr (Or.inr rfl)⟩
          case measure => simp [intOf]
        · go_wp2_with fail
          go_roundw
          case rel => exact ⟨hbl2, q + 1, by omega, by go_num⟩
          case measure => simp [intOf]; omega
     · go_wp2_with fail
       go_ret
       exact ⟨rfl, hbl⟩

def Good (l E : List (Int × Int)) : Prop := 2 ≤ l.length ∧ (∀ p ∈ l, near1 p = true) ∧ Ends l.length E
end Go.Proofs.YtpffhoefmcpniaaGreatDoor

namespace Go.Proofs.YtpffhoefmcpniaaGreatDoor
open Go.RowKit

def RdS (w : World) (A : Option Addr) (m : Nat) (L : List Spl) : Prop :=
 L.length = m ∧ ∀ i s, L[i]? = some s → ∃ b o A' n' c', A = some ⟨b, o, none⟩ ∧ w.cell? ⟨b, o + i * 4, none⟩ = some (.slice A' n' c') ∧ w.cell? ⟨b, o + i * 4 + 1, none⟩ = some (.int .i64 s.cross) ∧ w.cell? ⟨b, o + i * 4 + 2, none⟩ = some (.int .i64 s.dir) ∧ w.cell? ⟨b, o + i * 4 + 3, none⟩ = some (.int .i64 s.kind) ∧ RdB w A' n' s.side ∧ n' ≤ c'
theorem RdS.at_ {w : World} {A : Option Addr} {m i : Nat} {L : List Spl} (h : RdS w A m L) (hi : i < m) :
 ∃ b o A' n' c' s, A = some ⟨b, o, none⟩ ∧ L[i]? = some s ∧ w.cell? ⟨b, o + i * 4, none⟩ = some (.slice A' n' c') ∧ w.cell? ⟨b, o + i * 4 + 1, none⟩ = some (.int .i64 s.cross) ∧ w.cell? ⟨b, o + i * 4 + 2, none⟩ = some (.int .i64 s.dir) ∧ w.cell? ⟨b, o + i * 4 + 3, none⟩ = some (.int .i64 s.kind) ∧ RdB w A' n' s.side ∧ n' ≤ c' := by
 have hl : i < L.length := by rw [h.1]; exact hi
 obtain ⟨b, o, A', n', c', h1, h2⟩ := h.2 i _ (List.getElem?_eq_getElem hl)
 exact ⟨b, o, A', n', c', _, h1, List.getElem?_eq_getElem hl, h2⟩
def scells : List (Value × Spl) → List Value
 | [] => []
 | p :: t => p.1 :: .int .i64 p.2.cross :: .int .i64 p.2.dir :: .int .i64 p.2.kind :: scells t
theorem scells_app : ∀ l m : List (Value × Spl), scells (l ++ m) = scells l ++ scells m
 | [], _ => rfl
 | p :: t, m => by simp [scells, scells_app t m]
theorem scells_get : ∀ {l : List (Value × Spl)} {i : Nat} {p : Value × Spl}, l[i]? = some p → (scells l)[i * 4]? = some p.1 ∧ (scells l)[i * 4 + 1]? = some (.int .i64 p.2.cross) ∧ (scells l)[i * 4 + 2]? = some (.int .i64 p.2.dir) ∧ (scells l)[i * 4 + 3]? = some (.int .i64 p.2.kind)
 | [], i, p, h => by simp at h
 | q :: t, 0, p, h => by simp at h; subst h; simp [scells]
 | q :: t, i + 1, p, h => by
  have := scells_get (l := t) (i := i) (p := p) (by simpa using h)
  rw [show (i + 1) * 4 = i * 4 + 1 + 1 + 1 + 1 by omega, show i * 4 + 1 + 1 + 1 + 1 + 1 = (i * 4 + 1) + 1 + 1 + 1 + 1 by omega, show i * 4 + 1 + 1 + 1 + 1 + 2 = (i * 4 + 2) + 1 + 1 + 1 + 1 by omega, show i * 4 + 1 + 1 + 1 + 1 + 3 = (i * 4 + 3) + 1 + 1 + 1 + 1 by omega]
  simpa [scells] using this
def SideAt (W : World) (A : Option Addr) (p : Value × Spl) : Prop := ∃ A' n' c', p.1 = .slice A' n' c' ∧ RdB W A' n' p.2.side ∧ n' ≤ c' ∧ ∀ g, blkOf A' = some g → g < W.heap.size ∧ blkOf A ≠ some g
theorem SideAt.below {W W' : World} {A : Option Addr} {p : Value × Spl} (h : SideAt W A p) (hb : Below W.heap.size W W') : SideAt W' A p := by
 obtain ⟨A', n', c', h1, h2, h3, h4⟩ := h
 exact ⟨A', n', c', h1, h2.below hb, h3, fun g hg => ⟨Nat.lt_of_lt_of_le (h4 g hg).1 hb.size, (h4 g hg).2⟩⟩
theorem SideAt.next {W w' : World} {A A' : Option Addr} {p : Value × Spl} (h : SideAt W A p) (hg : W.grownBy w' (blkOf A)) (hat : blkOf A' = blkOf A ∨ blkOf A' = some W.heap.size) : SideAt w' A' p := by
 obtain ⟨R, n', c', h1, h2, h3, h4⟩ := h
 refine ⟨R, n', c', h1, h2.grownN hg (fun g e => (h4 g e).2), h3, fun g e => ?_⟩
 obtain ⟨k1, k2⟩ := h4 g e
 refine ⟨Nat.lt_of_lt_of_le k1 hg.size, fun e2 => ?_⟩
 rcases hat with hat | hat
 · exact k2 (by rw [← hat]; exact e2)
 · rw [hat] at e2
   injection e2 with e2
   omega
def SpO (W : World) (B : Nat) (t : TypeId) (A : Option Addr) (n c : Nat) (L : List (Value × Spl)) : Prop :=
 Own W B t 4 A n c (scells L) ∧ L.length = n ∧ ∀ p ∈ L, SideAt W A p
theorem SpO.nil (W : World) (B : Nat) (t : TypeId) : SpO W B t none 0 0 [] := ⟨Own.nil _ _ _ _, rfl, fun p h => by cases h⟩
theorem SpO.below {W W' : World} {B n c : Nat} {t : TypeId} {A : Option Addr} {L : List (Value × Spl)} (h : SpO W B t A n c L) (hb : Below W.heap.size W W') : SpO W' B t A n c L :=
 ⟨h.1.below hb, h.2.1, fun p hp => (h.2.2 p hp).below hb⟩
theorem SpO.rdS {W : World} {B n c : Nat} {t : TypeId} {A : Option Addr} {L : List (Value × Spl)} (h : SpO W B t A n c L) : RdS W A n (L.map (·.2)) :=
 ⟨by rw [List.length_map]; exact h.2.1, fun i s hs => by
  rw [List.getElem?_map] at hs
  cases e : L[i]? with
  | none => rw [e] at hs; cases hs
  | some p =>
   rw [e] at hs
   cases hs
   obtain ⟨A', n', c', h1, h2, h3, _⟩ := h.2.2 p (List.mem_of_getElem? e)
   obtain ⟨g1, g2, g3, g4⟩ := scells_get e
   rw [h1] at g1
   obtain ⟨b, o, ea, k1⟩ := h.1.rds.2 _ _ g1
   obtain ⟨b', o', ea', k2⟩ := h.1.rds.2 _ _ g2
   rw [ea] at ea'; cases ea'
   obtain ⟨b', o', ea', k3⟩ := h.1.rds.2 _ _ g3
   rw [ea] at ea'; cases ea'
   obtain ⟨b', o', ea', k4⟩ := h.1.rds.2 _ _ g4
   rw [ea] at ea'; cases ea'
   exact ⟨b, o, A', n', c', ea, k1, by rw [Nat.add_assoc]; exact k2, by rw [Nat.add_assoc]; exact k3, by rw [Nat.add_assoc]; exact k4, h2, h3⟩⟩
theorem SpO.push {W w' : World} {B n c c' m : Nat} {t : TypeId} {A A' : Option Addr} {L M : List (Value × Spl)} (h : SpO W B t A n c L)
 (hown : Own w' B t 4 A' (n + m) c' (scells L ++ scells M)) (hg : W.grownBy w' (blkOf A)) (hat : blkOf A' = blkOf A ∨ blkOf A' = some W.heap.size)
 (hm : M.length = m) (hM : ∀ p ∈ M, SideAt W A p) : SpO w' B t A' (n + m) c' (L ++ M) :=
 ⟨by rw [scells_app]; exact hown, by rw [List.length_append, h.2.1, hm], fun p hp => by
  rcases List.mem_append.1 hp with hp | hp
  · exact (h.2.2 p hp).next hg hat
  · exact (hM p hp).next hg hat⟩
theorem scells_one {W : World} {A : Option Addr} : ∀ {L : List (Value × Spl)}, (∀ p ∈ L, SideAt W A p) → ∀ u ∈ scells L, u.oneCell' = true
 | [], _ => fun u hu => by cases hu
 | p :: t, h => by
  intro u hu
  obtain ⟨A', n', c', h1, _⟩ := h p (List.mem_cons_self ..)
  simp only [scells, List.mem_cons] at hu
  rcases hu with rfl | rfl | rfl | rfl | hu
  · rw [h1]; rfl
  · rfl
  · rfl
  · rfl
  · exact scells_one (fun q hq => h q (List.mem_cons_of_mem _ hq)) u hu
end Go.Proofs.YtpffhoefmcpniaaGreatDoor

namespace Go.Proofs.YtpffhoefmcpniaaGreatDoor
open Go.RowKit

attribute [local go_sem ↓] Go.wp_at_zero Go.wp_at_succ

section
variable {P : Program} {ops : Array Oper} {Q : Exit → Act → World → Prop} {md : Region.Mode} {S : World → Prop}
end
theorem ghost_size (lo hi : Nat) (w : World) : (ghost lo hi w).heap.size = w.heap.size := by simp [ghost]
theorem ghost_free {lo hi k : Nat} {w : World} (h : (lo ≤ k ∧ k < hi) ∨ w.heap.size ≤ k) : Freew (ghost lo hi w) k := fun p e => by
 cases hc : (ghost lo hi w).cell? p with
 | none => rfl
 | some v =>
  exfalso
  have hlt := lt_of_cell hc
  rw [ghost_size] at hlt
  rcases h with h | h
  · have hb : (ghost lo hi w).heap[p.block]? = some (Obj.cells #[] 0) := by
     unfold ghost
     simp only [Array.getElem?_mapIdx]
     rw [Array.getElem?_eq_getElem hlt, Option.map_some, if_pos (by omega)]
    unfold World.cell? at hc
    rw [hb] at hc
    simp at hc
  · omega
theorem ghost_sub (lo hi : Nat) (w : World) : Subw (ghost lo hi w) w := fun p v e => by
 have hlt := lt_of_cell e
 rw [ghost_size] at hlt
 by_cases h : p.block < lo ∨ hi ≤ p.block
 · unfold World.cell? at e ⊢
   rw [ghost_block h] at e
   exact e
 · rw [ghost_free (.inl (by omega)) p rfl] at e; cases e
theorem sub_ghost {lo hi : Nat} {a b : World} (h : Below lo a b) (ha : a.heap.size ≤ lo) : Subw a (ghost lo hi b) := fun p v e => by
 have hlt := lt_of_cell e
 exact ghost_cell (Below.cellOf h ha e) (.inl (by omega))
theorem lkIn_of {n : Nat} {E : List Edg} (hE : Ends n E) (hm : E.length ≤ 1000000) : LkIn n E.length (lksTo n E E.length) ∧ LinksOf n E (lksTo n E E.length) := by
 have hL := (lksTo_ok hE E.length (Nat.le_refl _)).all
 refine ⟨fun a l hl => ⟨by have := lksTo_bd n E E.length a l hl; omega, fun k hk => ?_⟩, hL⟩
 obtain ⟨h1, h2, _, h4⟩ := hL.sound a l k hl hk
 refine ⟨h1, h2, ?_, ?_⟩
 · rcases h4 with ⟨_, h⟩ | ⟨_, h⟩ <;> exact (List.getElem?_eq_some_iff.1 h).1
 · rcases h4 with ⟨h, _⟩ | ⟨h, _⟩
   · exact .inl h
   · exact .inr h
end Go.Proofs.YtpffhoefmcpniaaGreatDoor
