/- Parts of the proof: Nt7, Nt8, Nt9. -/
import Derived.Test.YtpffhoefmcpniaaGreatDoorW1
import Derived.Test.YtpffhoefmcpniaaGreatDoorW21
/- law3.Few, law3.May, law8.Small. -/
namespace Go.Proofs.YtpffhoefmcpniaaGreatDoor
open Go.RowKit

attribute [local go_sem ↓] Go.wp_at_zero Go.wp_at_succ

/-- A truth that holds just where (if it is told) G does. -/
def BoolRes (G : Prop) (e : Ending) : Prop := ∃ b : Bool, e = .returned (.bool b) ∧ (b = true → G)
structure FewOk (N : NetD) : Prop where
  v : N.vs.length ≤ 80
  a : N.ar.length ≤ 300
  t : N.ts.length ≤ 80
  c : ∀ t ∈ N.ts, t.costs.length ≤ 300
set_option maxHeartbeats 1000000 in
theorem few_any (A B C : Option Addr) (n m k c d e : Nat) (N : NetD) (w : World) (h : RdNet w A B C n m k N) :
    Calls Tryz.prog 49 #[.agg #[.slice A n c, .slice B m d, .slice C k e]] w fun e w' => BoolRes (FewOk N) e ∧ Below w.heap.size w w' := by
  have HH := Lib.hid h
  have HLV := Lib.hid h.1.1
  have HLA := Lib.hid h.2.1.1
  have HLT := Lib.hid h.2.2.1
  clear h
  by_cases q0 : (n : Int) > 80
  · go_enter Tryz.func49, Tryz.ntmps49
    go_wp2_with fail
    go_ret
    exact ⟨⟨false, rfl, fun h => by cases h⟩, bELt⟩
  by_cases q1 : (m : Int) > 300
  · go_enter Tryz.func49, Tryz.ntmps49
    go_wp2_with fail
    go_ret
    exact ⟨⟨false, rfl, fun h => by cases h⟩, bELt⟩
  by_cases q2 : (k : Int) > 80
  · go_enter Tryz.func49, Tryz.ntmps49
    go_wp2_with fail
    go_ret
    exact ⟨⟨false, rfl, fun h => by cases h⟩, bELt⟩
  go_enter Tryz.func49, Tryz.ntmps49
  go_wp2_with fail
  (refine wp_named ?_; intro w1 hw1)
  have hb1 : Below w.heap.size w w1 := by rw [hw1]; exact bELt
  have hN1 : Blk w1 w.heap.size 26 #[.slice A n c, .slice B m d, .slice C k e] := by rw [hw1]; exact Blk.new _ _ _
  clear hw1
  obtain ⟨n0, n1, n2⟩ := hN1.three
  have zN := hN1.lt
  have H1 := Lib.hid (HH.out.below hb1)
  go_loop [3] (fun q => ∃ i : Nat, i ≤ k ∧ q = .int .i64 i ∧ ∀ j t, j < i → N.ts[j]? = some t → t.costs.length ≤ 300) (fun q => k - (intOf q).toNat)
  case atStart => exact ⟨0, Nat.zero_le _, rfl, fun _ _ h => absurd h (Nat.not_lt_zero _)⟩
  case round =>
    obtain ⟨i, hi, rfl, hall⟩ := hrel
    have HA := Lib.hid hall
    clear hall
    by_cases hlt : i < k
    · obtain ⟨b, o, t, rfl, ht, k0, k1, A', n', c', k2, hr, hc1, hc2⟩ := H1.out.2.2.at_ hlt
      have i1 : (0 : Int) ≤ (i : Int) := by omega
      have i2 : (i : Int) < (k : Int) := by omega
      have HT := Lib.hid ht
      have HC := Lib.hid hr.1
      clear ht hr
      by_cases q3 : (n' : Int) > 300
      · go_wp2_with fail
        go_ret
        exact ⟨⟨false, rfl, fun h => by cases h⟩, hb1⟩
      · go_wp2_with fail
        go_round
        case rel =>
          refine ⟨i + 1, by omega, by go_num, fun j y hj hy => ?_⟩
          by_cases e : j = i
          · subst e
            rw [HT.out] at hy
            cases hy
            rw [HC.out]
            omega
          · exact HA.out j y (by omega) hy
        case measure => simp [intOf]; omega
    · obtain rfl : i = k := by omega
      go_wp2_with fail
      go_ret
      refine ⟨⟨true, rfl, fun _ => ⟨by rw [HLV.out]; omega, by rw [HLA.out]; omega, by rw [HLT.out]; omega, fun t ht => ?_⟩⟩, hb1⟩
      obtain ⟨j, hj⟩ := List.getElem?_of_mem ht
      exact HA.out j t (by rw [← HLT.out]; exact (List.getElem?_eq_some_iff.1 hj).1) hj
theorem fieldErr (A : Option Addr) (n m : Nat) (c : Int) (V : World) : (Instr.field 42 (.agg #[.slice A n m, .int .i64 c]) 1).run Tryz.prog V = .ok (.int .i64 c) V := by kernel_rfl
set_option maxHeartbeats 400000 in
set_option maxRecDepth 20000 in
theorem may3_any (A B C : Option Addr) (n m k c d e : Nat) (N : NetD) (w : World) (h : RdNet w A B C n m k N) (hn : n ≤ 9223372036854775807) (hm : m ≤ 9223372036854775807) (hk : k ≤ 9223372036854775807) :
    Calls Tryz.prog 29 #[.agg #[.slice A n c, .slice B m d, .slice C k e]] w fun e w' => BoolRes (FewOk N ∧ NetOk N) e ∧ Below w.heap.size w w' := by
  go_enter Tryz.func29, Tryz.ntmps29
  go_wp2_with fail
  (refine calls_named ?_; intro w1 hw1)
  have hb1 : Below w.heap.size w w1 := by rw [hw1]; exact bELt
  have hN1 : Blk w1 w.heap.size 26 #[.slice A n c, .slice B m d, .slice C k e] := by rw [hw1]; exact Blk.new _ _ _
  clear hw1
  with_reducible refine (few_any A B C n m k c d e N w1 (h.below hb1)).mono ?_
  rintro e' w2 ⟨⟨b, rfl, hf⟩, hb2⟩
  have hb2' := Bel.step hb1 hb2
  obtain ⟨n0, n1, n2⟩ := (hN1.below hb2 hN1.lt).three
  cases b
  · go_wp2_with fail
    go_ret
    exact ⟨⟨false, rfl, fun h => by cases h⟩, bELt⟩
  have HF := Lib.hid (hf rfl)
  clear hf
  go_wp2_with fail
  with_reducible refine (refCheckNet_any A B C n m k c d e N w2 (h.below hb2') hn hm hk).mono ?_
  rintro e' w3 ⟨⟨A4, k4, c4, x, rfl, hx⟩, hb3⟩
  have hb3' := Bel.step hb2' hb3
  have hfe := fieldErr A4 k4 c4 x w3
  clear hn hm hk h n0 n1 n2
  rcases hx with ⟨rfl, hG⟩ | hx
  · have HG := Lib.hid hG
    clear hG
    go_wp2_with fail
    go_ret
    exact ⟨⟨true, rfl, fun _ => ⟨HF.out, HG.out⟩⟩, hb3'⟩
  · go_wp2_with fail
    go_ret
    exact ⟨⟨_, rfl, fun h => absurd (by simpa using h) hx⟩, hb3'⟩
structure SmallOk (N : NetD) : Prop where
  v : N.vs.length ≤ 24
  a : N.ar.length ≤ 90
  few : FewOk N
  ok : NetOk N
set_option maxHeartbeats 400000 in
set_option maxRecDepth 20000 in
theorem small_any (A B C : Option Addr) (n m k c d e : Nat) (N : NetD) (w : World) (h : RdNet w A B C n m k N) (hk : k ≤ 9223372036854775807) :
    Calls Tryz.prog 9 #[.agg #[.slice A n c, .slice B m d, .slice C k e]] w fun e w' => BoolRes (SmallOk N) e ∧ Below w.heap.size w w' := by
  have HLV := Lib.hid h.1.1
  have HLA := Lib.hid h.2.1.1
  have HH := Lib.hid h
  have HK := Lib.hid hk
  clear hk h
  by_cases q0 : (n : Int) ≤ 24
  rotate_left
  · go_enter Tryz.func9, Tryz.ntmps9
    go_wp2_with fail
    go_ret
    exact ⟨⟨false, rfl, fun h => by cases h⟩, bELt⟩
  by_cases q1 : (m : Int) ≤ 90
  rotate_left
  · go_enter Tryz.func9, Tryz.ntmps9
    go_wp2_with fail
    go_ret
    exact ⟨⟨false, rfl, fun h => by cases h⟩, bELt⟩
  go_enter Tryz.func9, Tryz.ntmps9
  go_wp2_with fail
  (refine calls_named ?_; intro w1 hw1)
  have hb1 : Below w.heap.size w w1 := by rw [hw1]; exact bELt
  clear hw1
  with_reducible refine (may3_any A B C n m k c d e N w1 (HH.out.below hb1) (by omega) (by omega) HK.out).mono ?_
  rintro e' w2 ⟨⟨b, rfl, hf⟩, hb2⟩
  have HF := Lib.hid hf
  clear hf
  have hb2' := Bel.step hb1 hb2
  go_wp2_with fail
  go_ret
  exact ⟨⟨b, rfl, fun h => ⟨by rw [HLV.out]; omega, by rw [HLA.out]; omega, (HF.out h).1, (HF.out h).2⟩⟩, hb2'⟩
end Go.Proofs.YtpffhoefmcpniaaGreatDoor

/- law2.To. -/
namespace Go.Proofs.YtpffhoefmcpniaaGreatDoor
open Go.RowKit

attribute [local go_sem ↓] Go.wp_at_zero Go.wp_at_succ

theorem infoI64 : (Tryz.prog.info? 2).map (fun i => (i.zero, i.size, i.bytes)) = some (some (.int .i64 0), 1, 8) := by kernel_rfl
set_option maxHeartbeats 1000000 in
theorem tabTo_any (A : Option Addr) (n c : Nat) (t : TabD) (w : World) (h : RdI w A n t.costs) (hn : n ≤ 1000000) :
    Calls Tryz.prog 54 #[.agg #[.int .i64 t.ins, .int .i64 t.outs, .slice A n c]] w fun e w' => ∃ A' c', e = .returned (.agg #[.int .i64 t.ins, .int .i64 t.outs, .slice A' n c']) ∧ Own w' w.heap.size 2 1 A' n c' (icells t.costs) ∧ Below w.heap.size w w' := by
  obtain ⟨i, o, cs⟩ := t
  have h : RdI w A n cs := h
  simp only
  have HR := Lib.hid h
  clear h
  go_enter Tryz.func54, Tryz.ntmps54
  go_wp2_with fail
  (refine wp_named ?_; intro w1 hw1)
  have hb1 : Below w.heap.size w w1 := by rw [hw1]; exact bELt
  have hT1 : Blk w1 w.heap.size 61 #[.int .i64 i, .int .i64 o, .slice A n c] := by rw [hw1]; exact bLNt
  have hB1 : Blk w1 (w.heap.size + 1) 121 #[.int .i64 0, .int .i64 0, .slice none 0 0] := by rw [hw1]; exact bLNt
  have hz1 : w1.heap.size = w.heap.size + 1 + 1 := by rw [hw1]; simp
  clear hw1
  obtain ⟨t0, t1, t2⟩ := hT1.three
  have hb0 : Below (w.heap.size + 1) w1 w1.drew := (Below.refl _ _).drew
  have HSX := Lib.hid (show ∀ V, Below (w.heap.size + 1) w1 V → V.cell? ⟨w.heap.size, 0, none⟩ = some (.int .i64 i) ∧ V.cell? ⟨w.heap.size, 1, none⟩ = some (.int .i64 o) ∧ V.cell? ⟨w.heap.size, 2, none⟩ = some (.slice A n c) from fun V hV => ⟨(hV.cell (Nat.lt_succ_self _)).trans t0, (hV.cell (Nat.lt_succ_self _)).trans t1, (hV.cell (Nat.lt_succ_self _)).trans t2⟩)
  clear t0 t1 t2
  refine wp_region_held_drew (S := fun V => Below (w.heap.size + 1) w1 V) (by kernel_rfl) hb0 (fun _ => ?_)
  refine tk 0 3 (h := ⟨_, tv, ?_⟩)
  simp only [pE, List.set]
  refine tk 1 4 (h := ⟨_, tv, ?_⟩)
  simp only [pE, List.set]
  refine tk 2 5 (h := ⟨_, tv, ?_⟩)
  simp only [pE, List.set]
  refine tk 3 6 (h := ⟨_, tv, ?_⟩)
  simp only [pE, List.set]
  refine tk 5 8 (h := ⟨_, tv, ?_⟩)
  simp only [pE, List.set]
  refine tk 6 9 (h := ⟨_, tv, ?_⟩)
  simp only [pE, List.set]
  refine wpAnyH_ready (rs := [4]) (by kernel_rfl) (by simp) ?_
  refine AllReadyH.cons (o := _) rfl (fun K hK => ?_) AllReadyH.nil
  go_simp
  obtain ⟨W, hW⟩ : ∃ W, W = (w1.alloc (.cells #[] 2)).drew := ⟨_, rfl⟩
  rw [← hW]
  have hownW : Own W (w.heap.size + 1 + 1) 2 1 (some ⟨w1.heap.size, 0, none⟩) 0 0 [] := by
    rw [hW]; exact Own.drew (Own.lit w1 #[] 0 (by omega) (by omega) rfl)
  rw [hz1] at hownW
  have hbW : Below (w.heap.size + 1) w1 W := by rw [hW]; exact ((Below.refl _ _).alloc (by omega) _).drew
  have hB2 : Blk W (w.heap.size + 1) 121 #[.int .i64 0, .int .i64 0, .slice none 0 0] := by rw [hW]; exact bLKt
  have hbwW : Below w.heap.size w W := hb1.trans (hbW.mono (by omega))
  have hrW : Rds W 1 A n (icells cs) := (HR.out.below hbwW).rdsI
  have hzW : w.heap.size + 1 + 1 ≤ W.heap.size := by have := hbW.size; omega
  clear hW
  refine hK.out _ _ hbW (fun _ => ?_)
  clear hK K
  refine wpAnyH_ready (rs := [7]) (by kernel_rfl) (by simp) ?_
  refine AllReadyH.cons (o := _) rfl (fun K hK => ?_) AllReadyH.nil
  with_reducible refine step_app' (some 10) rfl rfl (.tmp 7) (.tmp 9) 59 rfl 2 _ 1 8 infoI64 Tryz.underlying59 rfl (by omega) rfl rfl hownW hrW (icells_one _) (by omega) (by omega) hzW ?_
  intro A' c' w' hown' hg' _
  have hb5 : Below (w.heap.size + 1) w1 w' := Bel.grownOwn hbW hg' (hownW.mono (by omega)) (by omega)
  have hb6 : Below w.heap.size w w' := Bel.grownOwn hbwW hg' (hownW.mono (by omega)) (by omega)
  have hB' := hB2.grown hg' (hownW.ne (by omega))
  rw [Nat.zero_add, List.nil_append] at hown'
  have HO := Lib.hid (hown'.mono (show w.heap.size + 2 ≤ w.heap.size + 1 + 1 by omega))
  refine hK.out _ _ hb5 (fun _ => ?_)
  clear hK K hownW hrW hg' hown'
  simp only [Act.put, List.setIfInBounds_toArray, List.set_cons_zero, List.set_cons_succ, Nat.zero_add]
  obtain ⟨c0, c1, c2⟩ := hB'.three
  have f0 := hB'.frozen 0
  have f1 := hB'.frozen 1
  have f2 := hB'.frozen 2
  refine tk 8 11 (h := ⟨_, tv, ?_⟩)
  simp only [pE, List.set]
  refine wpAnyH_ready (rs := [9]) (by kernel_rfl) (by simp) ?_
  refine AllReadyH.cons (o := _) rfl (fun K hK => ?_) AllReadyH.nil
  go_simp
  refine hK.out _ _ (((hb5.setCell (Nat.le_refl _) _).setCell (Nat.le_refl _) _).setCell (Nat.le_refl _) _) (fun _ => ?_)
  clear hK K
  refine wpAnyH_done (by kernel_rfl) ?_ _
  go_wp2_with fail
  refine bodyPost_ret (v := .agg #[.int .i64 i, .int .i64 o, .slice A' n c']) (by simp [results, Tryz.results54, go_sem, c0, c1, c2]) rfl ?_
  refine ⟨A', c', rfl, ?_, bELt⟩
  have := ownsRow_setCell_below (ownsRow_setCell_below (ownsRow_setCell_below HO.out (a := ⟨w.heap.size + 1, 0, none⟩) (by show w.heap.size + 1 < w.heap.size + 2; omega) (.int .i64 i)) (a := ⟨w.heap.size + 1, 1, none⟩) (by show w.heap.size + 1 < w.heap.size + 2; omega) (.int .i64 o)) (a := ⟨w.heap.size + 1, 2, none⟩) (by show w.heap.size + 1 < w.heap.size + 2; omega) (.slice A' n c')
  exact Own.mono this (by omega)
end Go.Proofs.YtpffhoefmcpniaaGreatDoor

/- Tables in a row of the call's own. -/
namespace Go.Proofs.YtpffhoefmcpniaaGreatDoor
open Go.RowKit

/-- Tables in a row of the call's own; their costs lie elsewhere. -/
def YwO (W : World) (B : Nat) (A : Option Addr) (n c : Nat) (xs : List Value) (ls : List TabD) : Prop :=
  Own W B 121 3 A n c xs ∧ ls.length = n ∧ ∀ j t, ls[j]? = some t → ∃ A2 n2 c2, xs[j * 3]? = some (.int .i64 t.ins) ∧ xs[j * 3 + 1]? = some (.int .i64 t.outs) ∧ xs[j * 3 + 2]? = some (.slice A2 n2 c2) ∧ RdI W A2 n2 t.costs ∧ (∀ g, blkOf A2 = some g → B ≤ g ∧ g < W.heap.size ∧ blkOf A ≠ some g) ∧ n2 ≤ c2 ∧ c2 ≤ 9223372036854775807
theorem YwO.nil (W : World) (B : Nat) : YwO W B none 0 0 [] [] := ⟨Own.nil _ _ _ _, rfl, fun j l h => by simp at h⟩
theorem YwO.rdY {W : World} {B n c : Nat} {A : Option Addr} {xs : List Value} {ls : List TabD} (h : YwO W B A n c xs ls) : RdY W A n ls :=
  ⟨h.2.1, fun i t ht => by
    obtain ⟨A2, n2, c2, h1, h2, h3, h4, _, h5, h6⟩ := h.2.2 i t ht
    obtain ⟨b, o, e, k1⟩ := h.1.rds.2 _ _ h1
    obtain ⟨b', o', e', k2⟩ := h.1.rds.2 _ _ h2
    rw [e] at e'; cases e'
    obtain ⟨b', o', e', k3⟩ := h.1.rds.2 _ _ h3
    rw [e] at e'; cases e'
    exact ⟨b, o, e, k1, by rw [Nat.add_assoc]; exact k2, A2, n2, c2, by rw [Nat.add_assoc]; exact k3, h4, h5, h6⟩⟩
theorem YwO.push {W w' : World} {B n c c' m d : Nat} {A A' R : Option Addr} {xs : List Value} {ls : List TabD} {t : TabD} (h : YwO W B A n c xs ls)
    (hown : Own w' B 121 3 A' (n + 1) c' (xs ++ [.int .i64 t.ins, .int .i64 t.outs, .slice R m d])) (hg : W.grownBy w' (blkOf A)) (hat : blkOf A' = blkOf A ∨ blkOf A' = some W.heap.size)
    (hr : RdI W R m t.costs) (hne : ∀ g, blkOf R = some g → B ≤ g ∧ g < W.heap.size ∧ blkOf A ≠ some g) (h4 : m ≤ d) (h5 : d ≤ 9223372036854775807) : YwO w' B A' (n + 1) c' (xs ++ [.int .i64 t.ins, .int .i64 t.outs, .slice R m d]) (ls ++ [t]) := by
  have hxl : xs.length = ls.length * 3 := by rw [h.1.1, h.2.1]
  have new : ∀ Y : Option Addr, (∀ g, blkOf Y = some g → B ≤ g ∧ g < W.heap.size ∧ blkOf A ≠ some g) → ∀ g, blkOf Y = some g → B ≤ g ∧ g < w'.heap.size ∧ blkOf A' ≠ some g := fun Y hY g e => by
    obtain ⟨k0, k1, k2⟩ := hY g e
    refine ⟨k0, Nat.lt_of_lt_of_le k1 hg.size, fun e2 => ?_⟩
    rcases hat with hat | hat
    · exact k2 (by rw [← hat]; exact e2)
    · rw [hat] at e2
      injection e2 with e2
      omega
  refine ⟨hown, by simp [h.2.1], fun j t' hl => ?_⟩
  rcases Nat.lt_trichotomy j ls.length with hj | hj | hj
  · rw [List.getElem?_append_left hj] at hl
    obtain ⟨A2, n2, c2, p1, p2, p3, k2, k3, k4, k5⟩ := h.2.2 j t' hl
    exact ⟨A2, n2, c2, by rw [List.getElem?_append_left (by omega)]; exact p1, by rw [List.getElem?_append_left (by omega)]; exact p2, by rw [List.getElem?_append_left (by omega)]; exact p3, k2.grownN hg (fun g e => (k3 g e).2.2), new A2 k3, k4, k5⟩
  · subst hj
    rw [List.getElem?_append_right (Nat.le_refl _), Nat.sub_self] at hl
    cases hl
    refine ⟨R, m, d, ?_, ?_, ?_, hr.grownN hg (fun g e => (hne g e).2.2), new R hne, h4, h5⟩
    · rw [← hxl, List.getElem?_append_right (Nat.le_refl _), Nat.sub_self]; rfl
    · rw [← hxl, List.getElem?_append_right (by omega), Nat.add_sub_cancel_left]; rfl
    · rw [← hxl, List.getElem?_append_right (by omega), Nat.add_sub_cancel_left]; rfl
  · rw [List.getElem?_eq_none (by simp; omega)] at hl
    cases hl
theorem YwO.below {W W' : World} {B n c : Nat} {A : Option Addr} {xs : List Value} {ls : List TabD} (h : YwO W B A n c xs ls) (hb : Below W.heap.size W W') : YwO W' B A n c xs ls :=
  ⟨h.1.below hb, h.2.1, fun i l hl => by
    obtain ⟨A', n', c', p1, p2, p3, h2, h3, h4, h5⟩ := h.2.2 i l hl
    exact ⟨A', n', c', p1, p2, p3, h2.below hb, fun g hg => ⟨(h3 g hg).1, Nat.lt_of_lt_of_le (h3 g hg).2.1 hb.size, (h3 g hg).2.2⟩, h4, h5⟩⟩
theorem YwO.far {W W' : World} {B n c : Nat} {A : Option Addr} {xs : List Value} {ls : List TabD} (h : YwO W B A n c xs ls) {g : Nat} (hg : W.grownBy W' (some g)) (hB : g < B) : YwO W' B A n c xs ls :=
  ⟨h.1.far hg (.inr (fun e => by have := (h.1.lt g e).1; omega)), h.2.1, fun i l hl => by
    obtain ⟨A', n', c', p1, p2, p3, h2, h3, h4, h5⟩ := h.2.2 i l hl
    refine ⟨A', n', c', p1, p2, p3, h2.grownN hg (fun k hk e => ?_), fun k hk => ⟨(h3 k hk).1, Nat.lt_of_lt_of_le (h3 k hk).2.1 hg.size, (h3 k hk).2.2⟩, h4, h5⟩
    cases e
    have := (h3 g hk).1
    omega⟩
end Go.Proofs.YtpffhoefmcpniaaGreatDoor
