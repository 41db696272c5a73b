/- Parts of the proof: Rm, Cl, Nt10. -/
import Derived.Test.YtgkeolddpielpaaGreatM6
import Derived.Lib.SliceRun
namespace Go.Proofs.YtgkeolddpielpaaGreat
open Go.RowKit

attribute [local go_sem ↓] Go.wp_at_zero Go.wp_at_succ

set_option maxHeartbeats 1000000 in
theorem rimEnds_ok (g a : Nat) (N : NetD) (A : Option Addr) (n c u v : Nat) (z p q : Int) (l : List Int) (w : World) (h : RdGr w g N) (hr : RdI w A n l) (hx : N.ar[a]? = some ((u : Int), (v : Int), z)) (hu : u < n) (hv : v < n) (hp : l[u]? = some p) (hq : l[v]? = some q) :
 Calls Tryz.prog 138 #[.pointer (some ⟨g, 0, none⟩), .slice A n c, .int .i64 a] w fun e w' => e = .returned (.tuple #[.int .i64 p, .int .i64 q, .bool true]) ∧ ∃ k, w' = w.drewN k := by
 have HF := Lib.hid (gFrom_ok g a N _ w h hx)
 have HT := Lib.hid (gTo_ok g a N _ w h hx)
 obtain ⟨b, o, p', rfl, hp', cp⟩ := hr.at_ hu
 rw [hp] at hp'
 cases hp'
 obtain ⟨b', o', q', e, hq', cq⟩ := hr.at_ hv
 rw [hq] at hq'
 cases hq'
 cases e
 have i1 : (0 : Int) ≤ (u : Int) := by omega
 have i2 : (u : Int) < (n : Int) := by omega
 have i3 : (0 : Int) ≤ (v : Int) := by omega
 have i4 : (v : Int) < (n : Int) := by omega
 clear h hr hx hp hq
 go_enter Tryz.func138, Tryz.ntmps138
 go_wp2_with fail
 with_reducible refine HF.out.mono ?_
 rintro e w' ⟨rfl, rfl⟩
 go_wp2_with fail
 with_reducible refine HT.out.mono ?_
 rintro e w' ⟨rfl, rfl⟩
 go_wp2_with fail
 go_quiet (fail)
 go_wp2_with fail
 go_ret3
 exact ⟨rfl, _, rfl⟩

set_option maxHeartbeats 1000000 in
theorem cross_ok (g : Nat) (N : NetD) (Q : Option Addr) (L cq i n : Nat) (ls : List (List Int)) (l : List Int) (w : World) (h : RdGr w g N) (hN : NetOk N) (hq : RdT w Q L ls) (hl : ls[i]? = some l) (hL : L ≤ 1000000) (hlo : LvlOk n l) (hn : N.vs.length = n) :
 Calls Tryz.prog 99 #[.pointer (some ⟨g, 0, none⟩), .agg #[.slice Q L cq], .int .i64 ((i : Int) + 1)] w fun e w' => ∃ A c, e = .returned (.slice A (crossL N.ar l).length c) ∧ RdI w' A (crossL N.ar l).length (crossL N.ar l) ∧ (∀ b, blkOf A = some b → w.heap.size ≤ b ∧ b < w'.heap.size) ∧ Below w.heap.size w w' := by
 have HG := Lib.hid h
 have HN := Lib.hid hN
 have hn4 : n ≤ 4096 := by rw [← hn]; exact hN.lv
 have hm : N.ar.length ≤ 16384 := hN.la
 have HR := Lib.hid (show ∀ V, Below w.heap.size w V → Calls Tryz.prog 115 #[.agg #[.slice Q L cq], .int .i64 ((i : Int) + 1)] V fun e w' => ∃ A n c, e = .returned (.slice A n c) ∧ RdI V A n l ∧ n ≤ c ∧ c ≤ 9223372036854775807 ∧ Below V.heap.size V w' from fun V hV => row_ok Q L cq i ls l V (hq.below hV) hl hL)
 have HLO := Lib.hid hlo
 have HVN := Lib.hid hn
 clear h hN hq hl hlo hn
 go_enter Tryz.func99, Tryz.ntmps99
 go_wp2_with fail
 (refine calls_named ?_; intro w1 hw1)
 have hb1 : Below w.heap.size w w1 := by rw [hw1]; exact bELt
 clear hw1
 with_reducible refine (HR.out w1 hb1).mono ?_
 rintro e w2 ⟨A, n', c, rfl, hr, q1, q2, hb2⟩
 obtain rfl : n = n' := by rw [← hr.1]; exact HLO.out.len.symm
 have hr2 := hr.below hb2
 have hbw2 := Bel.step hb1 hb2
 have hz0 := hbw2.size
 clear hr hb2 hb1
 go_wp2_with fail
 with_reducible refine (gArcs_any g N w2 (HG.out.below hbw2)).mono ?_
 rintro e w' ⟨rfl, rfl⟩
 go_wp2_with fail
 generalize hM : N.ar.length = M at *
 have HM := Lib.hid hM
 clear hM
 go_loopw [8, 18] (fun x q W => Below w.heap.size w W ∧ w2.heap.size ≤ W.heap.size ∧ Below w2.heap.size w2 W ∧ ∃ (j : Nat) (X : Option Addr) (k cx : Nat), j ≤ M ∧ q = .int .i64 j ∧ x = .slice X k cx ∧ k ≤ j ∧ Own W w2.heap.size 3 1 X k cx (icells (arcP (crossB l) (N.ar.take j)))) (fun _ q _ => M - (intOf q).toNat)
 case atStart => exact ⟨hbw2, Nat.le_refl _, Below.refl _ _, 0, none, 0, 0, Nat.zero_le _, rfl, rfl, Nat.le_refl _, Own.nil _ _ _ _⟩
 case round =>
  clear hbw2
  obtain ⟨hbl, hsz, hb2r, j, X, k, cx, hj, rfl, rfl, hkj, hown⟩ := hrel
  by_cases hlt : j < M
  · obtain ⟨⟨fx, tx, zx⟩, hx⟩ : ∃ x, N.ar[j]? = some x := ⟨_, List.getElem?_eq_getElem (by rw [HM.out]; exact hlt)⟩
    have hok := HN.out.arcs _ (List.mem_of_getElem? hx)
    have f0 := hok.f0
    have f1 := hok.f1
    have g0 := hok.g0
    have g1 := hok.g1
    simp only at f0 f1 g0 g1
    rw [HVN.out] at f1 g1
    obtain ⟨u, rfl⟩ : ∃ u : Nat, fx = u := ⟨fx.toNat, by omega⟩
    obtain ⟨v, rfl⟩ : ∃ v : Nat, tx = v := ⟨tx.toNat, by omega⟩
    have hu : u < n := by omega
    have hv : v < n := by omega
    obtain ⟨p, hp⟩ : ∃ p, l[u]? = some p := ⟨_, List.getElem?_eq_getElem (by rw [HLO.out.len]; exact hu)⟩
    obtain ⟨q, hq⟩ : ∃ q, l[v]? = some q := ⟨_, List.getElem?_eq_getElem (by rw [HLO.out.len]; exact hv)⟩
    have HE := Lib.hid (rimEnds_ok g j N A n c u v zx p q l wr (HG.out.below hbl) (hr2.below hb2r) hx hu hv hp hq)
    have HNX := Lib.hid (arcP_take (P := crossB l) hx)
    have hcb : crossB l ((u : Int), (v : Int), zx) = (p != q) := by unfold crossB; simp only; rw [cellOf_nat hp, cellOf_nat hq]
    rw [hcb] at HNX
    clear hx hok hcb hp hq
    go_wp2_with fail
    with_reducible refine HE.out.mono ?_
    rintro e w4 ⟨rfl, nq, hw4⟩
    have hbl4 : Below w.heap.size w w4 := by rw [hw4]; exact below_drewN hbl _
    have hb24 : Below w2.heap.size w2 w4 := by rw [hw4]; exact below_drewN hb2r _
    have hsz4 : w2.heap.size ≤ w4.heap.size := by rw [hw4]; exact hsz
    have hown4 : Own w4 w2.heap.size 3 1 X k cx (icells (arcP (crossB l) (N.ar.take j))) := by rw [hw4]; exact hown
    clear hw4 hbl hb2r hsz hown HE
    by_cases hpq : p = q
    · have e1 : (p != q) = false := by simpa using hpq
      have e2 : (p == q) = true := by simpa using hpq
      rw [e1] at HNX
      clear hpq
      go_wp2_with fail
      go_roundw
      case rel => exact ⟨hbl4, hsz4, hb24, j + 1, X, k, cx, by omega, by go_num, rfl, by omega, by rw [HNX.out]; simpa using hown4⟩
      case measure => simp [intOf]; omega
    · have e1 : (p != q) = true := by simpa using hpq
      have e2 : (p == q) = false := by simpa using hpq
      rw [e1] at HNX
      clear hpq
      have hlt4 : Below w4.heap.size w4 (w4.alloc (.cells #[.int .i64 (j : Int)] 3)) := bELt
      have hownA := hown4.below hlt4
      have hrA : Rds (w4.alloc (.cells #[.int .i64 (j : Int)] 3)) 1 (some ⟨w4.heap.size, 0, none⟩) 1 (icells [(j : Int)]) := (Blk.new w4 3 (ints [(j : Int)])).rds rfl
      have hblA := Bel.step hbl4 hlt4
      have hb2A := Bel.step hb24 hlt4
      go_wp2_with (at_builtin; with_reducible refine wpList_app rfl (.tmp 35) (.tmp 37) 36 rfl 3 _ 1 8 infoInt Tryz.underlying36 rfl (by omega) rfl rfl hownA hrA (icells_one _) (by omega) (by omega) (by simp; omega) ?_)
      intro A' c' w' hown' hg _
      have hbl5 : Below w.heap.size w w' := Bel.grownOwn hblA hg (hownA.mono (by omega)) (by simp; omega)
      have hb25 : Below w2.heap.size w2 w' := Bel.grownOwn hb2A hg hownA (by simp; omega)
      have hsz5 : w2.heap.size ≤ w'.heap.size := hb25.size
      have HO := Lib.hid hown'
      clear hown' hg hownA hrA hblA hb2A hlt4 hown4 hbl4 hb24 hsz4
      go_wp2
      go_roundw
      case rel => exact ⟨hbl5, hsz5, hb25, j + 1, A', k + 1, c', by omega, by go_num, rfl, by omega, by rw [HNX.out, if_pos trivial, icells_app]; exact HO.out⟩
      case measure => simp [intOf]; omega
  · obtain rfl : M = j := by omega
    rw [List.take_of_length_le (by rw [HM.out]; exact Nat.le_refl _)] at hown
    have HO := Lib.hid hown
    have hk : k = (crossL N.ar l).length := by have := hown.1; rw [Nat.mul_one] at this; rw [← this]; simp [icells, crossL]
    have HK := Lib.hid hk
    clear hown hk
    go_wp2
    go_ret
    exact ⟨X, cx, by rw [← HK.out]; rfl, by rw [← HK.out]; exact HO.out.rds.rdI, fun b hb => by have := HO.out.lt b hb; omega, hbl⟩
end Go.Proofs.YtgkeolddpielpaaGreat

namespace Go.Proofs.YtgkeolddpielpaaGreat
open Go.RowKit

attribute [local go_sem ↓] Go.wp_at_zero Go.wp_at_succ

theorem infoClI : (Tryz.prog.info? 3).map (fun i => (i.zero, i.size, i.bytes)) = some (some (.int .i64 0), 1, 8) := by kernel_rfl
theorem infoClL : (Tryz.prog.info? 2).map (fun i => (i.zero, i.size, i.bytes)) = some (some (.int .i64 0), 1, 8) := by kernel_rfl
set_option maxHeartbeats 1000000 in
theorem cloneL_any (A : Option Addr) (n c : Nat) (xs : List Value) (w : World) (h : Rds w 1 A n xs) (h1 : ∀ u ∈ xs, u.oneCell' = true) (hn : n ≤ 1000000000) :
 Calls Tryz.prog 125 #[.slice A n c] w fun e w' => ∃ A' c', e = .returned (.slice A' n c') ∧ Own w' w.heap.size 2 1 A' n c' xs ∧ Below w.heap.size w w' := by
 have q22 : ∀ (w : World) (a : Option Addr) (n c n' c' : Nat), (binOp .eql 44 (.slice a n c) (.slice none n' c')).run Tryz.prog w = .ok (.bool a.isNone) w := fun w a n c n' c' => Lib.run_eql_slice_nil w _ _ a n c n' c' Tryz.underlying44
 cases A with
 | none =>
  have hl : xs = [] := by
   cases hl : xs with
   | nil => rfl
   | cons p t =>
    obtain ⟨b, o, e, _⟩ := h.2 0 p (by rw [hl]; rfl)
    cases e
  subst hl
  have h0 : n = 0 := by have := h.1; simp at this; omega
  subst h0
  go_enter Tryz.func125, Tryz.ntmps125
  go_wp2
  go_ret
  exact ⟨none, 0, rfl, Own.nil _ _ _ _, bELt⟩
 | some a =>
  have hb1 : ∀ o, Below w.heap.size w (w.alloc o) := fun o => (Below.refl _ _).alloc (Nat.le_refl _) o
  have hown0 : Own (w.alloc (.cells #[] 2)) w.heap.size 2 1 (some ⟨w.heap.size, 0, none⟩) 0 0 [] := Own.lit w #[] 0 (Nat.le_refl _) (by omega) rfl
  go_enter Tryz.func125, Tryz.ntmps125
  go_wp2_with (at_builtin; with_reducible refine wpList_app rfl (.tmp 5) (.tmp 6) 44 rfl 2 _ 1 8 infoClL Tryz.underlying44 rfl (by omega) (B := w.heap.size) rfl rfl hown0 (h.below (hb1 _)) h1 (by omega) (by omega) (by simp) ?_)
  intro A' c' w' hown hg _
  have hb2 : Below w.heap.size w w' := Bel.grownOwn (hb1 _) hg hown0 (by simp)
  try simp only [Nat.zero_add, List.nil_append] at hown
  have HO := Lib.hid hown
  clear hown hg
  go_wp2
  go_ret
  exact ⟨_, _, rfl, HO.out, hb2⟩
theorem infoClV : (Tryz.prog.info? 148).map (fun i => (i.zero, i.size, i.bytes)) = some (some (.agg #[.int .i64 0, .int .i64 0, .int .i64 0]), 3, 24) := by kernel_rfl
set_option maxHeartbeats 1000000 in
theorem cloneV_any (A : Option Addr) (n c : Nat) (xs : List Value) (w : World) (h : Rds w 3 A n xs) (h1 : ∀ u ∈ xs, u.oneCell' = true) (hn : n ≤ 1000000000) :
 Calls Tryz.prog 126 #[.slice A n c] w fun e w' => ∃ A' c', e = .returned (.slice A' n c') ∧ Own w' w.heap.size 148 3 A' n c' xs ∧ Below w.heap.size w w' := by
 have q22 : ∀ (w : World) (a : Option Addr) (n c n' c' : Nat), (binOp .eql 91 (.slice a n c) (.slice none n' c')).run Tryz.prog w = .ok (.bool a.isNone) w := fun w a n c n' c' => Lib.run_eql_slice_nil w _ _ a n c n' c' Tryz.underlying91
 cases A with
 | none =>
  have hl : xs = [] := by
   cases hl : xs with
   | nil => rfl
   | cons p t =>
    obtain ⟨b, o, e, _⟩ := h.2 0 p (by rw [hl]; rfl)
    cases e
  subst hl
  have h0 : n = 0 := by have := h.1; simp at this; omega
  subst h0
  go_enter Tryz.func126, Tryz.ntmps126
  go_wp2
  go_ret
  exact ⟨none, 0, rfl, Own.nil _ _ _ _, bELt⟩
 | some a =>
  have hb1 : ∀ o, Below w.heap.size w (w.alloc o) := fun o => (Below.refl _ _).alloc (Nat.le_refl _) o
  have hown0 : Own (w.alloc (.cells #[] 148)) w.heap.size 148 3 (some ⟨w.heap.size, 0, none⟩) 0 0 [] := Own.lit w #[] 0 (Nat.le_refl _) (by omega) rfl
  go_enter Tryz.func126, Tryz.ntmps126
  go_wp2_with (at_builtin; with_reducible refine wpList_app rfl (.tmp 5) (.tmp 6) 91 rfl 148 _ 3 24 infoClV Tryz.underlying91 rfl (by omega) (B := w.heap.size) rfl rfl hown0 (h.below (hb1 _)) h1 (by omega) (by omega) (by simp) ?_)
  intro A' c' w' hown hg _
  have hb2 : Below w.heap.size w w' := Bel.grownOwn (hb1 _) hg hown0 (by simp)
  try simp only [Nat.zero_add, List.nil_append] at hown
  have HO := Lib.hid hown
  clear hown hg
  go_wp2
  go_ret
  exact ⟨_, _, rfl, HO.out, hb2⟩
theorem infoClA : (Tryz.prog.info? 111).map (fun i => (i.zero, i.size, i.bytes)) = some (some (.agg #[.int .i64 0, .int .i64 0, .int .i64 0]), 3, 24) := by kernel_rfl
set_option maxHeartbeats 1000000 in
theorem cloneA_any (A : Option Addr) (n c : Nat) (xs : List Value) (w : World) (h : Rds w 3 A n xs) (h1 : ∀ u ∈ xs, u.oneCell' = true) (hn : n ≤ 1000000000) :
 Calls Tryz.prog 127 #[.slice A n c] w fun e w' => ∃ A' c', e = .returned (.slice A' n c') ∧ Own w' w.heap.size 111 3 A' n c' xs ∧ Below w.heap.size w w' := by
 have q22 : ∀ (w : World) (a : Option Addr) (n c n' c' : Nat), (binOp .eql 92 (.slice a n c) (.slice none n' c')).run Tryz.prog w = .ok (.bool a.isNone) w := fun w a n c n' c' => Lib.run_eql_slice_nil w _ _ a n c n' c' Tryz.underlying92
 cases A with
 | none =>
  have hl : xs = [] := by
   cases hl : xs with
   | nil => rfl
   | cons p t =>
    obtain ⟨b, o, e, _⟩ := h.2 0 p (by rw [hl]; rfl)
    cases e
  subst hl
  have h0 : n = 0 := by have := h.1; simp at this; omega
  subst h0
  go_enter Tryz.func127, Tryz.ntmps127
  go_wp2
  go_ret
  exact ⟨none, 0, rfl, Own.nil _ _ _ _, bELt⟩
 | some a =>
  have hb1 : ∀ o, Below w.heap.size w (w.alloc o) := fun o => (Below.refl _ _).alloc (Nat.le_refl _) o
  have hown0 : Own (w.alloc (.cells #[] 111)) w.heap.size 111 3 (some ⟨w.heap.size, 0, none⟩) 0 0 [] := Own.lit w #[] 0 (Nat.le_refl _) (by omega) rfl
  go_enter Tryz.func127, Tryz.ntmps127
  go_wp2_with (at_builtin; with_reducible refine wpList_app rfl (.tmp 5) (.tmp 6) 92 rfl 111 _ 3 24 infoClA Tryz.underlying92 rfl (by omega) (B := w.heap.size) rfl rfl hown0 (h.below (hb1 _)) h1 (by omega) (by omega) (by simp) ?_)
  intro A' c' w' hown hg _
  have hb2 : Below w.heap.size w w' := Bel.grownOwn (hb1 _) hg hown0 (by simp)
  try simp only [Nat.zero_add, List.nil_append] at hown
  have HO := Lib.hid hown
  clear hown hg
  go_wp2
  go_ret
  exact ⟨_, _, rfl, HO.out, hb2⟩
end Go.Proofs.YtgkeolddpielpaaGreat

namespace Go.Proofs.YtgkeolddpielpaaGreat
open Go.RowKit

attribute [local go_sem ↓] Go.wp_at_zero Go.wp_at_succ

theorem infoVert : (Tryz.prog.info? 148).map (fun i => (i.zero, i.size, i.bytes)) = some (some (.agg #[.int .i64 0, .int .i64 0, .int .i64 0]), 3, 24) := by kernel_rfl
theorem infoArc : (Tryz.prog.info? 111).map (fun i => (i.zero, i.size, i.bytes)) = some (some (.agg #[.int .i64 0, .int .i64 0, .int .i64 0]), 3, 24) := by kernel_rfl
theorem infoTable : (Tryz.prog.info? 149).map (fun i => (i.zero, i.size, i.bytes)) = some (some (.agg #[.int .i64 0, .int .i64 0, .slice none 0 0]), 3, 40) := by kernel_rfl
theorem tcells_next {L : List Tri} {k : Nat} {p : Tri} (h : L[k]? = some p) : tcells (L.take (k + 1)) = tcells (L.take k) ++ [.int .i64 p.1, .int .i64 p.2.1, .int .i64 p.2.2] := by
 have hlt := (List.getElem?_eq_some_iff.1 h).1
 have e := (List.getElem?_eq_some_iff.1 h).2
 rw [List.take_succ_eq_append_getElem hlt, e, tcells_app]
 rfl
theorem three_one (x y z : Int) : ∀ u ∈ [Value.int .i64 x, Value.int .i64 y, Value.int .i64 z], u.oneCell' = true := by
 intro u hu
 simp at hu
 rcases hu with rfl | rfl | rfl <;> rfl
theorem Own.apart {w : World} {B' s' n' c' : Nat} {e' : TypeId} {A A' : Option Addr} {xs' : List Value} (h : ∀ g, blkOf A = some g → g < B') (h' : Own w B' e' s' A' n' c' xs') : blkOf A = none ∨ blkOf A ≠ blkOf A' := by
 cases hA : blkOf A with
 | none => exact .inl rfl
 | some g =>
  refine .inr (fun e => ?_)
  have := (h'.lt g e.symm).1
  have := h g hA
  omega

--BODY



set_option maxHeartbeats 1000000 in
set_option maxRecDepth 20000 in
theorem netTo_any (A B C : Option Addr) (n m k c d e : Nat) (N : NetD) (w : World) (h : RdNet w A B C n m k N) (hn : n ≤ 1000000) (hm : m ≤ 1000000) (hk : k ≤ 1000000) (hc : ∀ t ∈ N.ts, t.costs.length ≤ 1000000) :
 Calls Tryz.prog 46 #[.agg #[.slice A n c, .slice B m d, .slice C k e]] w fun r w' => ∃ A' B' C' c' d' e', r = .returned (.agg #[.slice A' n c', .slice B' m d', .slice C' k e']) ∧ RdNet w' A' B' C' n m k N ∧ Below w.heap.size w w' := by
 have HV := Lib.hid h.1
 have HA := Lib.hid h.2.1
 have HY := Lib.hid h.2.2
 have HC := Lib.hid hc
 clear h hc
 go_enter Tryz.func46, Tryz.ntmps46
 go_wp2_with fail
 (refine wp_named ?_; intro w1 hw1)
 have hb1 : Below w.heap.size w w1 := by rw [hw1]; exact bELt
 have hJ : Blk w1 w.heap.size 26 #[.slice A n c, .slice B m d, .slice C k e] := by rw [hw1]; exact bLNt
 have hR : Blk w1 (w.heap.size + 1) 95 #[.slice none 0 0, .slice none 0 0, .slice none 0 0] := by rw [hw1]; exact bLNt
 have hK0 : Blk w1 (w.heap.size + 2) 95 #[.slice none 0 0, .slice none 0 0, .slice none 0 0] := by rw [hw1]; exact bLNt
 clear hw1
 go_loopw [4] (fun i W => Below w.heap.size w W ∧ Blk W w.heap.size 26 #[.slice A n c, .slice B m d, .slice C k e] ∧ Blk W (w.heap.size + 1) 95 #[.slice none 0 0, .slice none 0 0, .slice none 0 0] ∧ ∃ (j : Nat) (A3 : Option Addr) (c3 : Nat), j ≤ n ∧ i = .int .i64 j ∧ Blk W (w.heap.size + 2) 95 #[.slice A3 j c3, .slice none 0 0, .slice none 0 0] ∧ Own W (w.heap.size + 3) 148 3 A3 j c3 (tcells (N.vs.take j))) (fun i _ => n - (intOf i).toNat)
 case atStart => exact ⟨hb1, hJ, hR, 0, none, 0, Nat.zero_le _, rfl, hK0, by simpa [tcells] using Own.nil _ _ _ _⟩
 case round =>
  clear hb1 hJ hR hK0
  obtain ⟨hbl, hJ, hR, j, A3, c3, hj, rfl, hK0, hown⟩ := hrel
  obtain ⟨j0, j1, j2⟩ := hJ.three
  obtain ⟨k0, k1, k2⟩ := hK0.three
  by_cases hlt : j < n
  · obtain ⟨sb, so, x, y, z, rfl, hx, cx, cy, cz⟩ := HV.out.at_ hlt
    have HN := Lib.hid (tcells_next hx)
    have dx := Below.cellOf hbl (Nat.le_refl _) cx
    have dy := Below.cellOf hbl (Nat.le_refl _) cy
    have dz := Below.cellOf hbl (Nat.le_refl _) cz
    have HSX := Lib.hid (show ∀ V, Below (w.heap.size + 2) wr V → V.cell? ⟨w.heap.size, 0, none⟩ = some (.slice (some ⟨sb, so, none⟩) n c) ∧ V.cell? ⟨sb, so + j * 3, none⟩ = some (.int .i64 x) ∧ V.cell? ⟨sb, so + j * 3 + 1, none⟩ = some (.int .i64 y) ∧ V.cell? ⟨sb, so + j * 3 + 2, none⟩ = some (.int .i64 z) from
     fun V hb => ⟨(hb.cell (by simp only; omega)).trans j0, (hb.cell (by have := lt_of_cell cx; simp only at this ⊢; omega)).trans dx, (hb.cell (by have := lt_of_cell cx; simp only at this ⊢; omega)).trans dy, (hb.cell (by have := lt_of_cell cx; simp only at this ⊢; omega)).trans dz⟩)
    have i3 : (0 : Int) ≤ (j : Int) := by omega
    have i4 : (j : Int) < (n : Int) := by omega
    have hsz : w.heap.size + 3 ≤ wr.heap.size := by have := hK0.lt; omega
    clear hx cx cy cz dx dy dz j1 j2 k0 k1 k2
    go_wp2_with fail
    refine wp_region_held_drew (S := fun V => Below (w.heap.size + 2) wr V) (by kernel_rfl) (Below.refl _ _).drew (fun _ => ?_)
    refine tk 0 14 (h := ⟨_, tv, ?_⟩)
    simp only [pE, List.set]
    refine tk 2 16 (h := ⟨_, tv, ?_⟩)
    simp only [pE, List.set]
    refine tk 3 17 (h := ⟨_, tv, ?_⟩)
    simp only [pE, List.set]
    refine tk 4 18 (h := ⟨_, tv, ?_⟩)
    simp only [pE, List.set]
    refine tk 5 19 (h := ⟨_, tv, ?_⟩)
    simp only [pE, List.set]
    refine tk 6 20 (h := ⟨_, tv, ?_⟩)
    simp only [pE, List.set]
    refine tk 7 21 (h := ⟨_, tv, ?_⟩)
    simp only [pE, List.set]
    refine tk 8 22 (h := ⟨_, tv, ?_⟩)
    simp only [pE, List.set]
    refine tk 9 23 (h := ⟨_, tv, ?_⟩)
    simp only [pE, List.set]
    refine tk 10 24 (h := ⟨_, tv, ?_⟩)
    simp only [pE, List.set]
    refine tk 11 25 (h := ⟨_, tv, ?_⟩)
    simp only [pE, List.set]
    refine tk 12 26 (h := ⟨_, tv, ?_⟩)
    simp only [pE, List.set]
    refine tk 13 27 (h := ⟨_, tv, ?_⟩)
    simp only [pE, List.set]
    refine tk 14 28 (h := ⟨_, tv, ?_⟩)
    simp only [pE, List.set]
    refine tk 15 29 (h := ⟨_, tv, ?_⟩)
    simp only [pE, List.set]
    refine tk 16 30 (h := ⟨_, tv, ?_⟩)
    simp only [pE, List.set]
    refine tk 17 31 (h := ⟨_, tv, ?_⟩)
    simp only [pE, List.set]
    refine tk 18 32 (h := ⟨_, tv, ?_⟩)
    simp only [pE, List.set]
    refine tk 19 33 (h := ⟨_, tv, ?_⟩)
    simp only [pE, List.set]
    refine tk 20 34 (h := ⟨_, tv, ?_⟩)
    simp only [pE, List.set]
    refine wpAnyH_ready (rs := [1, 21]) (by kernel_rfl) (by simp) ?_
    refine AllReadyH.cons (o := _) rfl (fun K hK => ?_) (AllReadyH.cons (o := _) rfl (fun K hK => ?_) AllReadyH.nil)
    · have k3a := hK0.three
      obtain ⟨k3a, k3b, k3c⟩ := k3a
      go_simp
      refine hK.out _ _ (Below.refl _ _).drew (fun _ => ?_)
      clear hK K k3a k3b k3c
      refine wpAnyH_ready (rs := [21]) (by kernel_rfl) (by simp) ?_
      refine AllReadyH.cons (o := _) rfl (fun K hK => ?_) AllReadyH.nil
      go_simp
      refine hK.out _ _ (((Below.refl _ _).alloc (by omega) _).drew) (fun _ => ?_)
      clear hK K
      have hW : ∃ W, W = (wr.alloc (.cells #[.int .i64 x, .int .i64 y, .int .i64 z] 148)).drew := ⟨_, rfl⟩
      obtain ⟨W, hW⟩ := hW
      rw [← hW]
      have hownW : Own W (w.heap.size + 3) 148 3 A3 j c3 (tcells (N.vs.take j)) := by rw [hW]; exact (by repeat (first | assumption | apply Own.drewN | apply Own.drew | apply Own.alloc))
      skip
      have hrdW : Rds W 3 (some ⟨wr.heap.size, 0, none⟩) 1 [.int .i64 x, .int .i64 y, .int .i64 z] := by rw [hW]; exact (Blk.new wr 148 #[.int .i64 x, .int .i64 y, .int .i64 z]).rds rfl
      have hbW : Below (w.heap.size + 2) wr W := by rw [hW]; exact ((Below.refl _ _).alloc (by omega) _).drew
      have hblW : Below w.heap.size w W := by rw [hW]; exact bELt
      have hJW : Blk W w.heap.size 26 #[.slice (some ⟨sb, so, none⟩) n c, .slice B m d, .slice C k e] := by rw [hW]; exact bLKt
      have hRW : Blk W (w.heap.size + 1) 95 #[.slice none 0 0, .slice none 0 0, .slice none 0 0] := by rw [hW]; exact bLKt
      have hKW : Blk W (w.heap.size + 2) 95 #[.slice A3 j c3, .slice none 0 0, .slice none 0 0] := by rw [hW]; exact bLKt
      have hWsz : (w.heap.size + 3) ≤ W.heap.size := by rw [hW]; simp; omega
      clear hW
      refine wpAnyH_ready (rs := [22]) (by kernel_rfl) (by simp) ?_
      refine AllReadyH.cons (o := _) rfl (fun K hK => ?_) AllReadyH.nil
      with_reducible refine step_app' (some 36) rfl rfl (.tmp 15) (.tmp 35) 91 rfl 148 _ 3 24 infoVert Tryz.underlying91 rfl (by omega) rfl rfl hownW hrdW (three_one x y z) (by omega) (by omega) hWsz ?_
      intro A' c' w' hown' hg _
      have hb5 : Below (w.heap.size + 2) wr w' := Bel.grownOwn hbW hg (hownW.mono (by omega)) (by omega)
      have hb6 : Below w.heap.size w w' := Bel.grownOwn hblW hg (hownW.mono (by omega)) (by omega)
      have hJ' := hJW.grown hg (hownW.ne (by omega))
      have hR' := hRW.grown hg (hownW.ne (by omega))
      have hK' := hKW.grown hg (hownW.ne (by omega))
      skip
      clear hownW hrdW hbW hblW hJW hRW hKW hg
      refine hK.out _ _ hb5 (fun _ => ?_)
      clear hK K
      simp only [Act.put, List.setIfInBounds_toArray, List.set_cons_zero, List.set_cons_succ]
      refine tk 23 37 (h := ⟨_, tv, ?_⟩)
      simp only [pE, List.set]
      have k3' := hK'.three
      have kf' := hK'.frozen 0
      obtain ⟨k3a, k3b, k3c⟩ := k3'
      refine wpAnyH_ready (rs := [24]) (by kernel_rfl) (by simp) ?_
      refine AllReadyH.cons (o := _) rfl (fun K hK => ?_) AllReadyH.nil
      go_simp
      refine hK.out _ _ (hb5.setCell (by simp only; omega) _) (fun _ => ?_)
      clear hK K
      refine wpAnyH_done (by kernel_rfl) ?_ _
      have HO := Lib.hid (hown'.far (grownBy_set w' (w.heap.size + 2) 0 (.slice A' (j + 1) c')) (.inr (hown'.ne (by omega))))
      have HK2 := Lib.hid (hK'.set_ 0 (.slice A' (j + 1) c'))
      skip
      clear hown' hK' k3a k3b k3c kf'
      go_wp2_with fail
      go_roundw
      case rel => exact ⟨bELt, bLKt, bLKt, j + 1, A', c', by omega, by go_num, HK2.out, by rw [HN.out]; exact HO.out⟩
      case measure => simp [intOf]; omega
    · go_simp
      refine hK.out _ _ (((Below.refl _ _).alloc (by omega) _).drew) (fun _ => ?_)
      clear hK K
      have k3a := fun o => (hK0.alloc o).three.1
      have k3b := fun o => (hK0.alloc o).three.2.1
      refine wpAnyH_ready (rs := [1]) (by kernel_rfl) (by simp) ?_
      refine AllReadyH.cons (o := _) rfl (fun K hK => ?_) AllReadyH.nil
      go_simp
      refine hK.out _ _ (((Below.refl _ _).alloc (by omega) _).drew) (fun _ => ?_)
      clear hK K k3a k3b
      have hW : ∃ W, W = (wr.alloc (.cells #[.int .i64 x, .int .i64 y, .int .i64 z] 148)).drew := ⟨_, rfl⟩
      obtain ⟨W, hW⟩ := hW
      rw [← hW]
      have hownW : Own W (w.heap.size + 3) 148 3 A3 j c3 (tcells (N.vs.take j)) := by rw [hW]; exact (by repeat (first | assumption | apply Own.drewN | apply Own.drew | apply Own.alloc))
      skip
      have hrdW : Rds W 3 (some ⟨wr.heap.size, 0, none⟩) 1 [.int .i64 x, .int .i64 y, .int .i64 z] := by rw [hW]; exact (Blk.new wr 148 #[.int .i64 x, .int .i64 y, .int .i64 z]).rds rfl
      have hbW : Below (w.heap.size + 2) wr W := by rw [hW]; exact ((Below.refl _ _).alloc (by omega) _).drew
      have hblW : Below w.heap.size w W := by rw [hW]; exact bELt
      have hJW : Blk W w.heap.size 26 #[.slice (some ⟨sb, so, none⟩) n c, .slice B m d, .slice C k e] := by rw [hW]; exact bLKt
      have hRW : Blk W (w.heap.size + 1) 95 #[.slice none 0 0, .slice none 0 0, .slice none 0 0] := by rw [hW]; exact bLKt
      have hKW : Blk W (w.heap.size + 2) 95 #[.slice A3 j c3, .slice none 0 0, .slice none 0 0] := by rw [hW]; exact bLKt
      have hWsz : (w.heap.size + 3) ≤ W.heap.size := by rw [hW]; simp; omega
      clear hW
      refine wpAnyH_ready (rs := [22]) (by kernel_rfl) (by simp) ?_
      refine AllReadyH.cons (o := _) rfl (fun K hK => ?_) AllReadyH.nil
      with_reducible refine step_app' (some 36) rfl rfl (.tmp 15) (.tmp 35) 91 rfl 148 _ 3 24 infoVert Tryz.underlying91 rfl (by omega) rfl rfl hownW hrdW (three_one x y z) (by omega) (by omega) hWsz ?_
      intro A' c' w' hown' hg _
      have hb5 : Below (w.heap.size + 2) wr w' := Bel.grownOwn hbW hg (hownW.mono (by omega)) (by omega)
      have hb6 : Below w.heap.size w w' := Bel.grownOwn hblW hg (hownW.mono (by omega)) (by omega)
      have hJ' := hJW.grown hg (hownW.ne (by omega))
      have hR' := hRW.grown hg (hownW.ne (by omega))
      have hK' := hKW.grown hg (hownW.ne (by omega))
      skip
      clear hownW hrdW hbW hblW hJW hRW hKW hg
      refine hK.out _ _ hb5 (fun _ => ?_)
      clear hK K
      simp only [Act.put, List.setIfInBounds_toArray, List.set_cons_zero, List.set_cons_succ]
      refine tk 23 37 (h := ⟨_, tv, ?_⟩)
      simp only [pE, List.set]
      have k3' := hK'.three
      have kf' := hK'.frozen 0
      obtain ⟨k3a, k3b, k3c⟩ := k3'
      refine wpAnyH_ready (rs := [24]) (by kernel_rfl) (by simp) ?_
      refine AllReadyH.cons (o := _) rfl (fun K hK => ?_) AllReadyH.nil
      go_simp
      refine hK.out _ _ (hb5.setCell (by simp only; omega) _) (fun _ => ?_)
      clear hK K
      refine wpAnyH_done (by kernel_rfl) ?_ _
      have HO := Lib.hid (hown'.far (grownBy_set w' (w.heap.size + 2) 0 (.slice A' (j + 1) c')) (.inr (hown'.ne (by omega))))
      have HK2 := Lib.hid (hK'.set_ 0 (.slice A' (j + 1) c'))
      skip
      clear hown' hK' k3a k3b k3c kf'
      go_wp2_with fail
      go_roundw
      case rel => exact ⟨bELt, bLKt, bLKt, j + 1, A', c', by omega, by go_num, HK2.out, by rw [HN.out]; exact HO.out⟩
      case measure => simp [intOf]; omega
  · obtain rfl : n = j := by omega
    obtain ⟨A1, rfl⟩ : ∃ A1, A1 = A3 := ⟨_, rfl⟩
    obtain ⟨c1, rfl⟩ : ∃ c1, c1 = c3 := ⟨_, rfl⟩
    rw [List.take_of_length_le (by rw [HV.out.1]; exact Nat.le_refl _)] at hown
    obtain ⟨w2, hw2⟩ : ∃ w2, w2 = wr := ⟨_, rfl⟩
    subst hw2
    have hz2 : w.heap.size + 3 ≤ w2.heap.size := by have := hK0.lt; omega
    have HLT := Lib.hid (fun g hg => (hown.lt g hg).2)
    go_wp2_with fail
    go_loopw [5] (fun i W => w2.heap.size ≤ W.heap.size ∧ Below w.heap.size w W ∧ Blk W w.heap.size 26 #[.slice A n c, .slice B m d, .slice C k e] ∧ Blk W (w.heap.size + 1) 95 #[.slice none 0 0, .slice none 0 0, .slice none 0 0] ∧ Own W (w.heap.size + 3) 148 3 A1 n c1 (tcells N.vs) ∧ ∃ (j : Nat) (A3 : Option Addr) (c3 : Nat), j ≤ m ∧ i = .int .i64 j ∧ Blk W (w.heap.size + 2) 95 #[.slice A1 n c1, .slice A3 j c3, .slice none 0 0] ∧ Own W w2.heap.size 111 3 A3 j c3 (tcells (N.ar.take j))) (fun i _ => m - (intOf i).toNat)
    case atStart => exact ⟨Nat.le_refl _, hbl, hJ, hR, hown, 0, none, 0, Nat.zero_le _, rfl, hK0, by simpa [tcells] using Own.nil _ _ _ _⟩
    case round =>
     clear hbl hJ hR hown hK0 j0 j1 j2 k0 k1 k2 hj
     obtain ⟨hszr, hbl, hJ, hR, hVo, j, A3, c3, hj, rfl, hK0, hown⟩ := hrel
     obtain ⟨j0, j1, j2⟩ := hJ.three
     obtain ⟨k0, k1, k2⟩ := hK0.three
     by_cases hlt : j < m
     · obtain ⟨sb, so, x, y, z, rfl, hx, cx, cy, cz⟩ := HA.out.at_ hlt
       have HN := Lib.hid (tcells_next hx)
       have dx := Below.cellOf hbl (Nat.le_refl _) cx
       have dy := Below.cellOf hbl (Nat.le_refl _) cy
       have dz := Below.cellOf hbl (Nat.le_refl _) cz
       have HSX := Lib.hid (show ∀ V, Below (w.heap.size + 2) wr V → V.cell? ⟨w.heap.size, 1, none⟩ = some (.slice (some ⟨sb, so, none⟩) m d) ∧ V.cell? ⟨sb, so + j * 3, none⟩ = some (.int .i64 x) ∧ V.cell? ⟨sb, so + j * 3 + 1, none⟩ = some (.int .i64 y) ∧ V.cell? ⟨sb, so + j * 3 + 2, none⟩ = some (.int .i64 z) from
        fun V hb => ⟨(hb.cell (by simp only; omega)).trans j1, (hb.cell (by have := lt_of_cell cx; simp only at this ⊢; omega)).trans dx, (hb.cell (by have := lt_of_cell cx; simp only at this ⊢; omega)).trans dy, (hb.cell (by have := lt_of_cell cx; simp only at this ⊢; omega)).trans dz⟩)
       have i3 : (0 : Int) ≤ (j : Int) := by omega
       have i4 : (j : Int) < (m : Int) := by omega
       have hsz : w2.heap.size ≤ wr.heap.size := hszr
       clear hx cx cy cz dx dy dz j0 j2 k0 k1 k2
       go_wp2_with fail
       refine wp_region_held_drew (S := fun V => Below (w.heap.size + 2) wr V) (by kernel_rfl) (Below.refl _ _).drew (fun _ => ?_)
       refine tk 0 45 (h := ⟨_, tv, ?_⟩)
       simp only [pE, List.set]
       refine tk 2 47 (h := ⟨_, tv, ?_⟩)
       simp only [pE, List.set]
       refine tk 3 48 (h := ⟨_, tv, ?_⟩)
       simp only [pE, List.set]
       refine tk 4 49 (h := ⟨_, tv, ?_⟩)
       simp only [pE, List.set]
       refine tk 5 50 (h := ⟨_, tv, ?_⟩)
       simp only [pE, List.set]
       refine tk 6 51 (h := ⟨_, tv, ?_⟩)
       simp only [pE, List.set]
       refine tk 7 52 (h := ⟨_, tv, ?_⟩)
       simp only [pE, List.set]
       refine tk 8 53 (h := ⟨_, tv, ?_⟩)
       simp only [pE, List.set]
       refine tk 9 54 (h := ⟨_, tv, ?_⟩)
       simp only [pE, List.set]
       refine tk 10 55 (h := ⟨_, tv, ?_⟩)
       simp only [pE, List.set]
       refine tk 11 56 (h := ⟨_, tv, ?_⟩)
       simp only [pE, List.set]
       refine tk 12 57 (h := ⟨_, tv, ?_⟩)
       simp only [pE, List.set]
       refine tk 13 58 (h := ⟨_, tv, ?_⟩)
       simp only [pE, List.set]
       refine tk 14 59 (h := ⟨_, tv, ?_⟩)
       simp only [pE, List.set]
       refine tk 15 60 (h := ⟨_, tv, ?_⟩)
       simp only [pE, List.set]
       refine tk 16 61 (h := ⟨_, tv, ?_⟩)
       simp only [pE, List.set]
       refine tk 17 62 (h := ⟨_, tv, ?_⟩)
       simp only [pE, List.set]
       refine tk 18 63 (h := ⟨_, tv, ?_⟩)
       simp only [pE, List.set]
       refine tk 19 64 (h := ⟨_, tv, ?_⟩)
       simp only [pE, List.set]
       refine tk 20 65 (h := ⟨_, tv, ?_⟩)
       simp only [pE, List.set]
       refine wpAnyH_ready (rs := [1, 21]) (by kernel_rfl) (by simp) ?_
       refine AllReadyH.cons (o := _) rfl (fun K hK => ?_) (AllReadyH.cons (o := _) rfl (fun K hK => ?_) AllReadyH.nil)
       · have k3a := hK0.three
         obtain ⟨k3a, k3b, k3c⟩ := k3a
         go_simp
         refine hK.out _ _ (Below.refl _ _).drew (fun _ => ?_)
         clear hK K k3a k3b k3c
         refine wpAnyH_ready (rs := [21]) (by kernel_rfl) (by simp) ?_
         refine AllReadyH.cons (o := _) rfl (fun K hK => ?_) AllReadyH.nil
         go_simp
         refine hK.out _ _ (((Below.refl _ _).alloc (by omega) _).drew) (fun _ => ?_)
         clear hK K
         have hW : ∃ W, W = (wr.alloc (.cells #[.int .i64 x, .int .i64 y, .int .i64 z] 111)).drew := ⟨_, rfl⟩
         obtain ⟨W, hW⟩ := hW
         rw [← hW]
         have hownW : Own W w2.heap.size 111 3 A3 j c3 (tcells (N.ar.take j)) := by rw [hW]; exact (by repeat (first | assumption | apply Own.drewN | apply Own.drew | apply Own.alloc))
         have hVW : Own W (w.heap.size + 3) 148 3 A1 n c1 (tcells N.vs) := by rw [hW]; exact (by repeat (first | assumption | apply Own.drewN | apply Own.drew | apply Own.alloc))
         have hrdW : Rds W 3 (some ⟨wr.heap.size, 0, none⟩) 1 [.int .i64 x, .int .i64 y, .int .i64 z] := by rw [hW]; exact (Blk.new wr 111 #[.int .i64 x, .int .i64 y, .int .i64 z]).rds rfl
         have hbW : Below (w.heap.size + 2) wr W := by rw [hW]; exact ((Below.refl _ _).alloc (by omega) _).drew
         have hblW : Below w.heap.size w W := by rw [hW]; exact bELt
         have hJW : Blk W w.heap.size 26 #[.slice A n c, .slice (some ⟨sb, so, none⟩) m d, .slice C k e] := by rw [hW]; exact bLKt
         have hRW : Blk W (w.heap.size + 1) 95 #[.slice none 0 0, .slice none 0 0, .slice none 0 0] := by rw [hW]; exact bLKt
         have hKW : Blk W (w.heap.size + 2) 95 #[.slice A1 n c1, .slice A3 j c3, .slice none 0 0] := by rw [hW]; exact bLKt
         have hWsz : w2.heap.size ≤ W.heap.size := by rw [hW]; simp; omega
         clear hW
         refine wpAnyH_ready (rs := [22]) (by kernel_rfl) (by simp) ?_
         refine AllReadyH.cons (o := _) rfl (fun K hK => ?_) AllReadyH.nil
         with_reducible refine step_app' (some 67) rfl rfl (.tmp 46) (.tmp 66) 92 rfl 111 _ 3 24 infoArc Tryz.underlying92 rfl (by omega) rfl rfl hownW hrdW (three_one x y z) (by omega) (by omega) hWsz ?_
         intro A' c' w' hown' hg _
         have hb5 : Below (w.heap.size + 2) wr w' := Bel.grownOwn hbW hg (hownW.mono (by omega)) (by omega)
         have hb6 : Below w.heap.size w w' := Bel.grownOwn hblW hg (hownW.mono (by omega)) (by omega)
         have hJ' := hJW.grown hg (hownW.ne (by omega))
         have hR' := hRW.grown hg (hownW.ne (by omega))
         have hK' := hKW.grown hg (hownW.ne (by omega))
         have hV' := hVW.far hg (Own.apart HLT.out hownW)
         clear hVW
         clear hownW hrdW hbW hblW hJW hRW hKW hg
         refine hK.out _ _ hb5 (fun _ => ?_)
         clear hK K
         simp only [Act.put, List.setIfInBounds_toArray, List.set_cons_zero, List.set_cons_succ]
         refine tk 23 68 (h := ⟨_, tv, ?_⟩)
         simp only [pE, List.set]
         have k3' := hK'.three
         have kf' := hK'.frozen 1
         obtain ⟨k3a, k3b, k3c⟩ := k3'
         refine wpAnyH_ready (rs := [24]) (by kernel_rfl) (by simp) ?_
         refine AllReadyH.cons (o := _) rfl (fun K hK => ?_) AllReadyH.nil
         go_simp
         refine hK.out _ _ (hb5.setCell (by simp only; omega) _) (fun _ => ?_)
         clear hK K
         refine wpAnyH_done (by kernel_rfl) ?_ _
         have HO := Lib.hid (hown'.far (grownBy_set w' (w.heap.size + 2) 1 (.slice A' (j + 1) c')) (.inr (hown'.ne (by omega))))
         have HK2 := Lib.hid (hK'.set_ 1 (.slice A' (j + 1) c'))
         have HV2 := Lib.hid (hV'.far (grownBy_set w' (w.heap.size + 2) 1 (.slice A' (j + 1) c')) (.inr (hV'.ne (by omega))))
         clear hV'
         clear hown' hK' k3a k3b k3c kf'
         go_wp2_with fail
         go_roundw
         case rel => exact ⟨(by have := hb5.size; simp [World.setCell]; omega), bELt, bLKt, bLKt, HV2.out, j + 1, A', c', by omega, by go_num, HK2.out, by rw [HN.out]; exact HO.out⟩
         case measure => simp [intOf]; omega
       · go_simp
         refine hK.out _ _ (((Below.refl _ _).alloc (by omega) _).drew) (fun _ => ?_)
         clear hK K
         have k3a := fun o => (hK0.alloc o).three.1
         have k3b := fun o => (hK0.alloc o).three.2.1
         refine wpAnyH_ready (rs := [1]) (by kernel_rfl) (by simp) ?_
         refine AllReadyH.cons (o := _) rfl (fun K hK => ?_) AllReadyH.nil
         go_simp
         refine hK.out _ _ (((Below.refl _ _).alloc (by omega) _).drew) (fun _ => ?_)
         clear hK K k3a k3b
         have hW : ∃ W, W = (wr.alloc (.cells #[.int .i64 x, .int .i64 y, .int .i64 z] 111)).drew := ⟨_, rfl⟩
         obtain ⟨W, hW⟩ := hW
         rw [← hW]
         have hownW : Own W w2.heap.size 111 3 A3 j c3 (tcells (N.ar.take j)) := by rw [hW]; exact (by repeat (first | assumption | apply Own.drewN | apply Own.drew | apply Own.alloc))
         have hVW : Own W (w.heap.size + 3) 148 3 A1 n c1 (tcells N.vs) := by rw [hW]; exact (by repeat (first | assumption | apply Own.drewN | apply Own.drew | apply Own.alloc))
         have hrdW : Rds W 3 (some ⟨wr.heap.size, 0, none⟩) 1 [.int .i64 x, .int .i64 y, .int .i64 z] := by rw [hW]; exact (Blk.new wr 111 #[.int .i64 x, .int .i64 y, .int .i64 z]).rds rfl
         have hbW : Below (w.heap.size + 2) wr W := by rw [hW]; exact ((Below.refl _ _).alloc (by omega) _).drew
         have hblW : Below w.heap.size w W := by rw [hW]; exact bELt
         have hJW : Blk W w.heap.size 26 #[.slice A n c, .slice (some ⟨sb, so, none⟩) m d, .slice C k e] := by rw [hW]; exact bLKt
         have hRW : Blk W (w.heap.size + 1) 95 #[.slice none 0 0, .slice none 0 0, .slice none 0 0] := by rw [hW]; exact bLKt
         have hKW : Blk W (w.heap.size + 2) 95 #[.slice A1 n c1, .slice A3 j c3, .slice none 0 0] := by rw [hW]; exact bLKt
         have hWsz : w2.heap.size ≤ W.heap.size := by rw [hW]; simp; omega
         clear hW
         refine wpAnyH_ready (rs := [22]) (by kernel_rfl) (by simp) ?_
         refine AllReadyH.cons (o := _) rfl (fun K hK => ?_) AllReadyH.nil
         with_reducible refine step_app' (some 67) rfl rfl (.tmp 46) (.tmp 66) 92 rfl 111 _ 3 24 infoArc Tryz.underlying92 rfl (by omega) rfl rfl hownW hrdW (three_one x y z) (by omega) (by omega) hWsz ?_
         intro A' c' w' hown' hg _
         have hb5 : Below (w.heap.size + 2) wr w' := Bel.grownOwn hbW hg (hownW.mono (by omega)) (by omega)
         have hb6 : Below w.heap.size w w' := Bel.grownOwn hblW hg (hownW.mono (by omega)) (by omega)
         have hJ' := hJW.grown hg (hownW.ne (by omega))
         have hR' := hRW.grown hg (hownW.ne (by omega))
         have hK' := hKW.grown hg (hownW.ne (by omega))
         have hV' := hVW.far hg (Own.apart HLT.out hownW)
         clear hVW
         clear hownW hrdW hbW hblW hJW hRW hKW hg
         refine hK.out _ _ hb5 (fun _ => ?_)
         clear hK K
         simp only [Act.put, List.setIfInBounds_toArray, List.set_cons_zero, List.set_cons_succ]
         refine tk 23 68 (h := ⟨_, tv, ?_⟩)
         simp only [pE, List.set]
         have k3' := hK'.three
         have kf' := hK'.frozen 1
         obtain ⟨k3a, k3b, k3c⟩ := k3'
         refine wpAnyH_ready (rs := [24]) (by kernel_rfl) (by simp) ?_
         refine AllReadyH.cons (o := _) rfl (fun K hK => ?_) AllReadyH.nil
         go_simp
         refine hK.out _ _ (hb5.setCell (by simp only; omega) _) (fun _ => ?_)
         clear hK K
         refine wpAnyH_done (by kernel_rfl) ?_ _
         have HO := Lib.hid (hown'.far (grownBy_set w' (w.heap.size + 2) 1 (.slice A' (j + 1) c')) (.inr (hown'.ne (by omega))))
         have HK2 := Lib.hid (hK'.set_ 1 (.slice A' (j + 1) c'))
         have HV2 := Lib.hid (hV'.far (grownBy_set w' (w.heap.size + 2) 1 (.slice A' (j + 1) c')) (.inr (hV'.ne (by omega))))
         clear hV'
         clear hown' hK' k3a k3b k3c kf'
         go_wp2_with fail
         go_roundw
         case rel => exact ⟨(by have := hb5.size; simp [World.setCell]; omega), bELt, bLKt, bLKt, HV2.out, j + 1, A', c', by omega, by go_num, HK2.out, by rw [HN.out]; exact HO.out⟩
         case measure => simp [intOf]; omega
     · obtain rfl : m = j := by omega
       obtain ⟨A3', rfl⟩ : ∃ A3', A3' = A3 := ⟨_, rfl⟩
       obtain ⟨c3', rfl⟩ : ∃ c3', c3' = c3 := ⟨_, rfl⟩
       rw [List.take_of_length_le (by rw [HA.out.1]; exact Nat.le_refl _)] at hown
       obtain ⟨w3, hw3⟩ : ∃ w3, w3 = wr := ⟨_, rfl⟩
       subst hw3
       have HLV := HLT
       clear HLT
       have HLT := Lib.hid (show ∀ g, blkOf A1 = some g → g < w3.heap.size from fun g hg => by have := HLV.out g hg; omega)
       have HLA := Lib.hid (fun g hg => (hown.lt g hg).2)
       clear HLV
       have hz3 : w.heap.size + 3 ≤ w3.heap.size := by omega
       go_wp2_with fail
       go_loopw [6] (fun i W => w3.heap.size ≤ W.heap.size ∧ Below w.heap.size w W ∧ Blk W w.heap.size 26 #[.slice A n c, .slice B m d, .slice C k e] ∧ Blk W (w.heap.size + 1) 95 #[.slice none 0 0, .slice none 0 0, .slice none 0 0] ∧ Own W (w.heap.size + 3) 148 3 A1 n c1 (tcells N.vs) ∧ Own W w2.heap.size 111 3 A3' m c3' (tcells N.ar) ∧ ∃ (j : Nat) (C3 : Option Addr) (e3 : Nat) (xs : List Value), j ≤ k ∧ i = .int .i64 j ∧ Blk W (w.heap.size + 2) 95 #[.slice A1 n c1, .slice A3' m c3', .slice C3 j e3] ∧ YwO W w3.heap.size C3 j e3 xs (N.ts.take j)) (fun i _ => k - (intOf i).toNat)
       case atStart => exact ⟨Nat.le_refl _, hbl, hJ, hR, hVo, hown, 0, none, 0, [], Nat.zero_le _, rfl, hK0, by simpa using YwO.nil _ _⟩
       case round =>
        clear hbl hJ hR hown hK0 j0 j1 j2 k0 k1 k2 hj hVo hszr
        obtain ⟨hszr, hbl, hJ, hR, hVo, hAo, j, C3, e3, xs, hj, rfl, hK0, hown⟩ := hrel
        obtain ⟨j0, j1, j2⟩ := hJ.three
        by_cases hlt : j < k
        · obtain ⟨sb, so, t, rfl, ht, cx, cy, A', n', c', cz, hr, hc1', hc2'⟩ := HY.out.at_ hlt
          have HN := Lib.hid (show N.ts.take (j + 1) = N.ts.take j ++ [t] by
           rw [List.take_succ_eq_append_getElem (List.getElem?_eq_some_iff.1 ht).1, (List.getElem?_eq_some_iff.1 ht).2])
          have HTC := Lib.hid (show ∀ V, Below w.heap.size w V → Calls Tryz.prog 84 #[.agg #[.int .i64 t.ins, .int .i64 t.outs, .slice A' n' c']] V (fun e w' => ∃ A2 c2, e = .returned (.agg #[.int .i64 t.ins, .int .i64 t.outs, .slice A2 n' c2]) ∧ Own w' V.heap.size 2 1 A2 n' c2 (icells t.costs) ∧ Below V.heap.size V w') from
           fun V hV => tabTo_any A' n' c' t V (hr.below hV) (by have := HC.out t (List.mem_of_getElem? ht); rw [hr.1] at this; exact this))
          have dx := Below.cellOf hbl (Nat.le_refl _) cx
          have dy := Below.cellOf hbl (Nat.le_refl _) cy
          have dz := Below.cellOf hbl (Nat.le_refl _) cz
          have HSX := Lib.hid (show ∀ V, Below (w.heap.size + 2) wr V → V.cell? ⟨w.heap.size, 2, none⟩ = some (.slice (some ⟨sb, so, none⟩) k e) ∧ V.cell? ⟨sb, so + j * 3, none⟩ = some (.int .i64 t.ins) ∧ V.cell? ⟨sb, so + j * 3 + 1, none⟩ = some (.int .i64 t.outs) ∧ V.cell? ⟨sb, so + j * 3 + 2, none⟩ = some (.slice A' n' c') from
           fun V hb => ⟨(hb.cell (by simp only; omega)).trans j2, (hb.cell (by have := lt_of_cell cx; simp only at this ⊢; omega)).trans dx, (hb.cell (by have := lt_of_cell cx; simp only at this ⊢; omega)).trans dy, (hb.cell (by have := lt_of_cell cx; simp only at this ⊢; omega)).trans dz⟩)
          have i3 : (0 : Int) ≤ (j : Int) := by omega
          have i4 : (j : Int) < (k : Int) := by omega
          have hsz : w3.heap.size ≤ wr.heap.size := hszr
          clear hr ht cx cy cz dx dy dz j0 j1 hc1' hc2'
          go_wp2_with fail
          refine wp_region_held_drew (S := fun V => Below (w.heap.size + 2) wr V) (by kernel_rfl) (Below.refl _ _).drew (fun _ => ?_)
          refine tk 0 76 (h := ⟨_, tv, ?_⟩)
          simp only [pE, List.set]
          refine tk 2 78 (h := ⟨_, tv, ?_⟩)
          simp only [pE, List.set]
          refine tk 3 79 (h := ⟨_, tv, ?_⟩)
          simp only [pE, List.set]
          refine tk 4 80 (h := ⟨_, tv, ?_⟩)
          simp only [pE, List.set]
          refine tk 5 81 (h := ⟨_, tv, ?_⟩)
          simp only [pE, List.set]
          refine tk 6 82 (h := ⟨_, tv, ?_⟩)
          simp only [pE, List.set]
          refine wpAnyH_ready (rs := [1, 7]) (by kernel_rfl) (by simp) ?_
          refine AllReadyH.cons (o := _) rfl (fun K hK => ?_) (AllReadyH.cons (o := _) rfl (fun K hK => ?_) AllReadyH.nil)
          · have k3a := hK0.three
            obtain ⟨k3a, k3b, k3c⟩ := k3a
            go_simp
            refine hK.out _ _ (Below.refl _ _).drew (fun _ => ?_)
            clear hK K k3a k3b k3c
            refine wpAnyH_ready (rs := [7]) (by kernel_rfl) (by simp) ?_
            refine AllReadyH.cons (o := _) rfl (fun K hK => ?_) AllReadyH.nil
            go_simp
            with_reducible refine (HTC.out _ bELt).mono ?_
            rintro r w4 ⟨A2, c2, rfl, hrc, hb4⟩
            have hbr4 : Below wr.heap.size wr w4 := Bel.step bELt hb4
            clear hb4
            go_wp2_with fail
            refine hK.out _ _ (hbr4.mono (by omega)) (fun _ => ?_)
            clear hK K
            refine wpAnyH_ready (rs := [8]) (by kernel_rfl) (by simp) ?_
            refine AllReadyH.cons (o := _) rfl (fun K hK => ?_) AllReadyH.nil
            go_simp
            refine hK.out _ _ (Below.alloc (hbr4.mono (by omega)) (by have := hbr4.size; omega) _) (fun _ => ?_)
            clear hK K
            have hrc : Own w4 wr.heap.size 2 1 A2 n' c2 (icells t.costs) := hrc
            have hW : ∃ W, W = w4.alloc (.cells #[.int .i64 t.ins, .int .i64 t.outs, .slice A2 n' c2] 149) := ⟨_, rfl⟩
            obtain ⟨W, hW⟩ := hW
            rw [← hW]
            have hb4W : Below w4.heap.size w4 W := by rw [hW]; exact bELt
            have hrdW : Rds W 3 (some ⟨w4.heap.size, 0, none⟩) 1 [.int .i64 t.ins, .int .i64 t.outs, .slice A2 n' c2] := by rw [hW]; exact (Blk.new w4 149 #[.int .i64 t.ins, .int .i64 t.outs, .slice A2 n' c2]).rds rfl
            clear hW
            have hbrW : Below wr.heap.size wr W := Bel.step hbr4 hb4W
            have hyW := hown.below hbrW
            have hVW := hVo.below hbrW
            have hAW := hAo.below hbrW
            have hbW : Below (w.heap.size + 2) wr W := hbrW.mono (by omega)
            have hblW : Below w.heap.size w W := Bel.step hbl hbrW
            have hJW := hJ.below hbrW hJ.lt
            have hRW := hR.below hbrW hR.lt
            have hKW := hK0.below hbrW hK0.lt
            have hcW := hrc.rds.rdI.below hb4W
            have hclW : ∀ g, blkOf A2 = some g → w3.heap.size ≤ g ∧ g < W.heap.size ∧ blkOf C3 ≠ some g := fun g hg => by
             have h1 := hrc.lt g hg
             refine ⟨by omega, Nat.lt_of_lt_of_le h1.2 hb4W.size, fun e => ?_⟩
             have h2 := (hown.1.lt g e).2
             omega
            have hcapW := hrc.cap
            have hcapM := hrc.capMax
            have hWsz : w3.heap.size ≤ W.heap.size := by have := hbrW.size; omega
            have HYY := Lib.hid hyW
            have hownY := hyW.1
            have HONE := Lib.hid (show ∀ u ∈ [Value.int .i64 t.ins, .int .i64 t.outs, .slice A2 n' c2], u.oneCell' = true from fun u hu => by
             simp at hu
             rcases hu with rfl | rfl | rfl <;> rfl)
            clear hyW
            refine wpAnyH_ready (rs := [9]) (by kernel_rfl) (by simp) ?_
            refine AllReadyH.cons (o := _) rfl (fun K hK => ?_) AllReadyH.nil
            with_reducible refine step_app' (some 85) rfl rfl (.tmp 77) (.tmp 84) 93 rfl 149 _ 3 40 infoTable Tryz.underlying93 rfl (by omega) rfl rfl hownY hrdW HONE.out (by omega) (by omega) hWsz ?_
            intro A' c' w' hown' hg hat
            have hb5 : Below (w.heap.size + 2) wr w' := Bel.grownOwn hbW hg (hownY.mono (by omega)) (by omega)
            have hb6 : Below w.heap.size w w' := Bel.grownOwn hblW hg (hownY.mono (by omega)) (by omega)
            have hJ' := hJW.grown hg (hownY.ne (by omega))
            have hR' := hRW.grown hg (hownY.ne (by omega))
            have hK' := hKW.grown hg (hownY.ne (by omega))
            have hV' := hVW.far hg (Own.apart HLT.out hownY)
            have hA' := hAW.far hg (Own.apart HLA.out hownY)
            have HYN := Lib.hid (HYY.out.push hown' hg hat hcW hclW hcapW hcapM)
            clear hownY hrdW hbW hblW hJW hRW hKW hg hVW hAW hclW hcW hown' hat HYY hbrW hb4W hcapW hcapM
            refine hK.out _ _ hb5 (fun _ => ?_)
            clear hK K
            simp only [Act.put, List.setIfInBounds_toArray, List.set_cons_zero, List.set_cons_succ]
            refine tk 10 86 (h := ⟨_, tv, ?_⟩)
            simp only [pE, List.set]
            have k3' := hK'.three
            have kf' := hK'.frozen 2
            obtain ⟨k3a, k3b, k3c⟩ := k3'
            refine wpAnyH_ready (rs := [11]) (by kernel_rfl) (by simp) ?_
            refine AllReadyH.cons (o := _) rfl (fun K hK => ?_) AllReadyH.nil
            go_simp
            refine hK.out _ _ (hb5.setCell (by simp only; omega) _) (fun _ => ?_)
            clear hK K
            refine wpAnyH_done (by kernel_rfl) ?_ _
            have HK2 := Lib.hid (hK'.set_ 2 (.slice A' (j + 1) c'))
            have HV2 := Lib.hid (hV'.far (grownBy_set w' (w.heap.size + 2) 2 (.slice A' (j + 1) c')) (.inr (hV'.ne (by omega))))
            have HA2 := Lib.hid (hA'.far (grownBy_set w' (w.heap.size + 2) 2 (.slice A' (j + 1) c')) (.inr (hA'.ne (by omega))))
            have HY2 := Lib.hid (HYN.out.far (grownBy_set w' (w.heap.size + 2) 2 (.slice A' (j + 1) c')) (by omega))
            clear hV' hA' hK' k3a k3b k3c kf'
            go_wp2_with fail
            go_roundw
            case rel => exact ⟨(by have := hb5.size; simp [World.setCell]; omega), bELt, bLKt, bLKt, HV2.out, HA2.out, j + 1, A', c', _, by omega, by go_num, HK2.out, by rw [HN.out]; exact HY2.out⟩
            case measure => simp [intOf]; omega
          · go_simp
            with_reducible refine (HTC.out _ bELt).mono ?_
            rintro r w4 ⟨A2, c2, rfl, hrc, hb4⟩
            have hbr4 : Below wr.heap.size wr w4 := Bel.step bELt hb4
            clear hb4
            go_wp2_with fail
            refine hK.out _ _ (hbr4.mono (by omega)) (fun _ => ?_)
            clear hK K
            refine wpAnyH_ready (rs := [1, 8]) (by kernel_rfl) (by simp) ?_
            refine AllReadyH.cons (o := _) rfl (fun K hK => ?_) (AllReadyH.cons (o := _) rfl (fun K hK => ?_) AllReadyH.nil)
            · have k3a := (hK0.below hbr4 hK0.lt).three
              obtain ⟨k3a, k3b, k3c⟩ := k3a
              go_simp
              refine hK.out _ _ (hbr4.mono (by omega)) (fun _ => ?_)
              clear hK K k3a k3b k3c
              refine wpAnyH_ready (rs := [8]) (by kernel_rfl) (by simp) ?_
              refine AllReadyH.cons (o := _) rfl (fun K hK => ?_) AllReadyH.nil
              go_simp
              refine hK.out _ _ (Below.alloc (hbr4.mono (by omega)) (by have := hbr4.size; omega) _) (fun _ => ?_)
              clear hK K
              have hrc : Own w4 wr.heap.size 2 1 A2 n' c2 (icells t.costs) := hrc
              have hW : ∃ W, W = w4.alloc (.cells #[.int .i64 t.ins, .int .i64 t.outs, .slice A2 n' c2] 149) := ⟨_, rfl⟩
              obtain ⟨W, hW⟩ := hW
              rw [← hW]
              have hb4W : Below w4.heap.size w4 W := by rw [hW]; exact bELt
              have hrdW : Rds W 3 (some ⟨w4.heap.size, 0, none⟩) 1 [.int .i64 t.ins, .int .i64 t.outs, .slice A2 n' c2] := by rw [hW]; exact (Blk.new w4 149 #[.int .i64 t.ins, .int .i64 t.outs, .slice A2 n' c2]).rds rfl
              clear hW
              have hbrW : Below wr.heap.size wr W := Bel.step hbr4 hb4W
              have hyW := hown.below hbrW
              have hVW := hVo.below hbrW
              have hAW := hAo.below hbrW
              have hbW : Below (w.heap.size + 2) wr W := hbrW.mono (by omega)
              have hblW : Below w.heap.size w W := Bel.step hbl hbrW
              have hJW := hJ.below hbrW hJ.lt
              have hRW := hR.below hbrW hR.lt
              have hKW := hK0.below hbrW hK0.lt
              have hcW := hrc.rds.rdI.below hb4W
              have hclW : ∀ g, blkOf A2 = some g → w3.heap.size ≤ g ∧ g < W.heap.size ∧ blkOf C3 ≠ some g := fun g hg => by
               have h1 := hrc.lt g hg
               refine ⟨by omega, Nat.lt_of_lt_of_le h1.2 hb4W.size, fun e => ?_⟩
               have h2 := (hown.1.lt g e).2
               omega
              have hcapW := hrc.cap
              have hcapM := hrc.capMax
              have hWsz : w3.heap.size ≤ W.heap.size := by have := hbrW.size; omega
              have HYY := Lib.hid hyW
              have hownY := hyW.1
              have HONE := Lib.hid (show ∀ u ∈ [Value.int .i64 t.ins, .int .i64 t.outs, .slice A2 n' c2], u.oneCell' = true from fun u hu => by
               simp at hu
               rcases hu with rfl | rfl | rfl <;> rfl)
              clear hyW
              refine wpAnyH_ready (rs := [9]) (by kernel_rfl) (by simp) ?_
              refine AllReadyH.cons (o := _) rfl (fun K hK => ?_) AllReadyH.nil
              with_reducible refine step_app' (some 85) rfl rfl (.tmp 77) (.tmp 84) 93 rfl 149 _ 3 40 infoTable Tryz.underlying93 rfl (by omega) rfl rfl hownY hrdW HONE.out (by omega) (by omega) hWsz ?_
              intro A' c' w' hown' hg hat
              have hb5 : Below (w.heap.size + 2) wr w' := Bel.grownOwn hbW hg (hownY.mono (by omega)) (by omega)
              have hb6 : Below w.heap.size w w' := Bel.grownOwn hblW hg (hownY.mono (by omega)) (by omega)
              have hJ' := hJW.grown hg (hownY.ne (by omega))
              have hR' := hRW.grown hg (hownY.ne (by omega))
              have hK' := hKW.grown hg (hownY.ne (by omega))
              have hV' := hVW.far hg (Own.apart HLT.out hownY)
              have hA' := hAW.far hg (Own.apart HLA.out hownY)
              have HYN := Lib.hid (HYY.out.push hown' hg hat hcW hclW hcapW hcapM)
              clear hownY hrdW hbW hblW hJW hRW hKW hg hVW hAW hclW hcW hown' hat HYY hbrW hb4W hcapW hcapM
              refine hK.out _ _ hb5 (fun _ => ?_)
              clear hK K
              simp only [Act.put, List.setIfInBounds_toArray, List.set_cons_zero, List.set_cons_succ]
              refine tk 10 86 (h := ⟨_, tv, ?_⟩)
              simp only [pE, List.set]
              have k3' := hK'.three
              have kf' := hK'.frozen 2
              obtain ⟨k3a, k3b, k3c⟩ := k3'
              refine wpAnyH_ready (rs := [11]) (by kernel_rfl) (by simp) ?_
              refine AllReadyH.cons (o := _) rfl (fun K hK => ?_) AllReadyH.nil
              go_simp
              refine hK.out _ _ (hb5.setCell (by simp only; omega) _) (fun _ => ?_)
              clear hK K
              refine wpAnyH_done (by kernel_rfl) ?_ _
              have HK2 := Lib.hid (hK'.set_ 2 (.slice A' (j + 1) c'))
              have HV2 := Lib.hid (hV'.far (grownBy_set w' (w.heap.size + 2) 2 (.slice A' (j + 1) c')) (.inr (hV'.ne (by omega))))
              have HA2 := Lib.hid (hA'.far (grownBy_set w' (w.heap.size + 2) 2 (.slice A' (j + 1) c')) (.inr (hA'.ne (by omega))))
              have HY2 := Lib.hid (HYN.out.far (grownBy_set w' (w.heap.size + 2) 2 (.slice A' (j + 1) c')) (by omega))
              clear hV' hA' hK' k3a k3b k3c kf'
              go_wp2_with fail
              go_roundw
              case rel => exact ⟨(by have := hb5.size; simp [World.setCell]; omega), bELt, bLKt, bLKt, HV2.out, HA2.out, j + 1, A', c', _, by omega, by go_num, HK2.out, by rw [HN.out]; exact HY2.out⟩
              case measure => simp [intOf]; omega
            · go_simp
              refine hK.out _ _ (Below.alloc (hbr4.mono (by omega)) (by have := hbr4.size; omega) _) (fun _ => ?_)
              clear hK K
              have k3a := fun o => ((hK0.below hbr4 hK0.lt).alloc o).three.1
              have k3b := fun o => ((hK0.below hbr4 hK0.lt).alloc o).three.2.1
              have k3c := fun o => ((hK0.below hbr4 hK0.lt).alloc o).three.2.2
              refine wpAnyH_ready (rs := [1]) (by kernel_rfl) (by simp) ?_
              refine AllReadyH.cons (o := _) rfl (fun K hK => ?_) AllReadyH.nil
              go_simp
              refine hK.out _ _ (Below.alloc (hbr4.mono (by omega)) (by have := hbr4.size; omega) _) (fun _ => ?_)
              clear hK K k3a k3b k3c
              have hrc : Own w4 wr.heap.size 2 1 A2 n' c2 (icells t.costs) := hrc
              have hW : ∃ W, W = w4.alloc (.cells #[.int .i64 t.ins, .int .i64 t.outs, .slice A2 n' c2] 149) := ⟨_, rfl⟩
              obtain ⟨W, hW⟩ := hW
              rw [← hW]
              have hb4W : Below w4.heap.size w4 W := by rw [hW]; exact bELt
              have hrdW : Rds W 3 (some ⟨w4.heap.size, 0, none⟩) 1 [.int .i64 t.ins, .int .i64 t.outs, .slice A2 n' c2] := by rw [hW]; exact (Blk.new w4 149 #[.int .i64 t.ins, .int .i64 t.outs, .slice A2 n' c2]).rds rfl
              clear hW
              have hbrW : Below wr.heap.size wr W := Bel.step hbr4 hb4W
              have hyW := hown.below hbrW
              have hVW := hVo.below hbrW
              have hAW := hAo.below hbrW
              have hbW : Below (w.heap.size + 2) wr W := hbrW.mono (by omega)
              have hblW : Below w.heap.size w W := Bel.step hbl hbrW
              have hJW := hJ.below hbrW hJ.lt
              have hRW := hR.below hbrW hR.lt
              have hKW := hK0.below hbrW hK0.lt
              have hcW := hrc.rds.rdI.below hb4W
              have hclW : ∀ g, blkOf A2 = some g → w3.heap.size ≤ g ∧ g < W.heap.size ∧ blkOf C3 ≠ some g := fun g hg => by
               have h1 := hrc.lt g hg
               refine ⟨by omega, Nat.lt_of_lt_of_le h1.2 hb4W.size, fun e => ?_⟩
               have h2 := (hown.1.lt g e).2
               omega
              have hcapW := hrc.cap
              have hcapM := hrc.capMax
              have hWsz : w3.heap.size ≤ W.heap.size := by have := hbrW.size; omega
              have HYY := Lib.hid hyW
              have hownY := hyW.1
              have HONE := Lib.hid (show ∀ u ∈ [Value.int .i64 t.ins, .int .i64 t.outs, .slice A2 n' c2], u.oneCell' = true from fun u hu => by
               simp at hu
               rcases hu with rfl | rfl | rfl <;> rfl)
              clear hyW
              refine wpAnyH_ready (rs := [9]) (by kernel_rfl) (by simp) ?_
              refine AllReadyH.cons (o := _) rfl (fun K hK => ?_) AllReadyH.nil
              with_reducible refine step_app' (some 85) rfl rfl (.tmp 77) (.tmp 84) 93 rfl 149 _ 3 40 infoTable Tryz.underlying93 rfl (by omega) rfl rfl hownY hrdW HONE.out (by omega) (by omega) hWsz ?_
              intro A' c' w' hown' hg hat
              have hb5 : Below (w.heap.size + 2) wr w' := Bel.grownOwn hbW hg (hownY.mono (by omega)) (by omega)
              have hb6 : Below w.heap.size w w' := Bel.grownOwn hblW hg (hownY.mono (by omega)) (by omega)
              have hJ' := hJW.grown hg (hownY.ne (by omega))
              have hR' := hRW.grown hg (hownY.ne (by omega))
              have hK' := hKW.grown hg (hownY.ne (by omega))
              have hV' := hVW.far hg (Own.apart HLT.out hownY)
              have hA' := hAW.far hg (Own.apart HLA.out hownY)
              have HYN := Lib.hid (HYY.out.push hown' hg hat hcW hclW hcapW hcapM)
              clear hownY hrdW hbW hblW hJW hRW hKW hg hVW hAW hclW hcW hown' hat HYY hbrW hb4W hcapW hcapM
              refine hK.out _ _ hb5 (fun _ => ?_)
              clear hK K
              simp only [Act.put, List.setIfInBounds_toArray, List.set_cons_zero, List.set_cons_succ]
              refine tk 10 86 (h := ⟨_, tv, ?_⟩)
              simp only [pE, List.set]
              have k3' := hK'.three
              have kf' := hK'.frozen 2
              obtain ⟨k3a, k3b, k3c⟩ := k3'
              refine wpAnyH_ready (rs := [11]) (by kernel_rfl) (by simp) ?_
              refine AllReadyH.cons (o := _) rfl (fun K hK => ?_) AllReadyH.nil
              go_simp
              refine hK.out _ _ (hb5.setCell (by simp only; omega) _) (fun _ => ?_)
              clear hK K
              refine wpAnyH_done (by kernel_rfl) ?_ _
              have HK2 := Lib.hid (hK'.set_ 2 (.slice A' (j + 1) c'))
              have HV2 := Lib.hid (hV'.far (grownBy_set w' (w.heap.size + 2) 2 (.slice A' (j + 1) c')) (.inr (hV'.ne (by omega))))
              have HA2 := Lib.hid (hA'.far (grownBy_set w' (w.heap.size + 2) 2 (.slice A' (j + 1) c')) (.inr (hA'.ne (by omega))))
              have HY2 := Lib.hid (HYN.out.far (grownBy_set w' (w.heap.size + 2) 2 (.slice A' (j + 1) c')) (by omega))
              clear hV' hA' hK' k3a k3b k3c kf'
              go_wp2_with fail
              go_roundw
              case rel => exact ⟨(by have := hb5.size; simp [World.setCell]; omega), bELt, bLKt, bLKt, HV2.out, HA2.out, j + 1, A', c', _, by omega, by go_num, HK2.out, by rw [HN.out]; exact HY2.out⟩
              case measure => simp [intOf]; omega
        · obtain rfl : k = j := by omega
          rw [List.take_of_length_le (by rw [HY.out.1]; exact Nat.le_refl _)] at hown
          obtain ⟨q0, q1, q2⟩ := hK0.three
          have f0 := hR.frozen 0
          have f1 := hR.frozen 1
          have f2 := hR.frozen 2
          obtain ⟨r0, r1, r2⟩ := hR.three
          have HV5 := Lib.hid ((((hVo.far (grownBy_set wr (w.heap.size + 1) 0 (.slice A1 n c1)) (.inr (hVo.ne (by omega)))).far (grownBy_set _ (w.heap.size + 1) 1 (.slice A3' m c3')) (.inr (hVo.ne (by omega)))).far (grownBy_set _ (w.heap.size + 1) 2 (.slice C3 k e3)) (.inr (hVo.ne (by omega)))).rds.rd3)
          have HA5 := Lib.hid ((((hAo.far (grownBy_set wr (w.heap.size + 1) 0 (.slice A1 n c1)) (.inr (hAo.ne (by omega)))).far (grownBy_set _ (w.heap.size + 1) 1 (.slice A3' m c3')) (.inr (hAo.ne (by omega)))).far (grownBy_set _ (w.heap.size + 1) 2 (.slice C3 k e3)) (.inr (hAo.ne (by omega)))).rds.rd3)
          have HY5 := Lib.hid ((((hown.far (grownBy_set wr (w.heap.size + 1) 0 (.slice A1 n c1)) (by omega)).far (grownBy_set _ (w.heap.size + 1) 1 (.slice A3' m c3')) (by omega)).far (grownBy_set _ (w.heap.size + 1) 2 (.slice C3 k e3)) (by omega)).rdY)
          clear hVo hAo hown j0 j1 hR
          go_wp2_with fail
          refine bodyPost_ret (v := .agg #[.slice A1 n c1, .slice A3' m c3', .slice C3 k e3]) (by simp [results, Tryz.results46, go_sem, r0, r1, r2]) rfl ?_
          exact ⟨A1, A3', C3, c1, c3', e3, rfl, ⟨HV5.out, HA5.out, HY5.out⟩, bELt⟩
end Go.Proofs.YtgkeolddpielpaaGreat
