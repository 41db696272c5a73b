/- rim.ends, rim.Cross. -/
import Derived.Test.YtgkeolddpielpaaGreatGw
namespace Go.Proofs.YtgkeolddpielpaaGreat
open Go.RowKit

attribute [local go_sem ↓] Go.wp_at_zero Go.wp_at_succ

set_option maxHeartbeats 1000000 in
theorem rimEnds_ok (g a : Nat) (N : NetD) (A : Option Addr) (n c u v : Nat) (z p q : Int) (l : List Int) (w : World) (h : RdGr w g N) (hr : RdI w A n l) (hx : N.ar[a]? = some ((u : Int), (v : Int), z)) (hu : u < n) (hv : v < n) (hp : l[u]? = some p) (hq : l[v]? = some q) :
    Calls Tryz.prog 138 #[.pointer (some ⟨g, 0, none⟩), .slice A n c, .int .i64 a] w fun e w' => e = .returned (.tuple #[.int .i64 p, .int .i64 q, .bool true]) ∧ ∃ k, w' = w.drewN k := by
  have HF := Lib.hid (gFrom_ok g a N _ w h hx)
  have HT := Lib.hid (gTo_ok g a N _ w h hx)
  obtain ⟨b, o, p', rfl, hp', cp⟩ := hr.at_ hu
  rw [hp] at hp'
  cases hp'
  obtain ⟨b', o', q', e, hq', cq⟩ := hr.at_ hv
  rw [hq] at hq'
  cases hq'
  cases e
  have i1 : (0 : Int) ≤ (u : Int) := by omega
  have i2 : (u : Int) < (n : Int) := by omega
  have i3 : (0 : Int) ≤ (v : Int) := by omega
  have i4 : (v : Int) < (n : Int) := by omega
  clear h hr hx hp hq
  go_enter Tryz.func138, Tryz.ntmps138
  go_wp2_with fail
  with_reducible refine HF.out.mono ?_
  rintro e w' ⟨rfl, rfl⟩
  go_wp2_with fail
  with_reducible refine HT.out.mono ?_
  rintro e w' ⟨rfl, rfl⟩
  go_wp2_with fail
  go_quiet (fail)
  go_wp2_with fail
  go_ret3
  exact ⟨rfl, _, rfl⟩

set_option maxHeartbeats 1000000 in
theorem cross_ok (g : Nat) (N : NetD) (Q : Option Addr) (L cq i n : Nat) (ls : List (List Int)) (l : List Int) (w : World) (h : RdGr w g N) (hN : NetOk N) (hq : RdT w Q L ls) (hl : ls[i]? = some l) (hL : L ≤ 1000000) (hlo : LvlOk n l) (hn : N.vs.length = n) :
    Calls Tryz.prog 99 #[.pointer (some ⟨g, 0, none⟩), .agg #[.slice Q L cq], .int .i64 ((i : Int) + 1)] w fun e w' => ∃ A c, e = .returned (.slice A (crossL N.ar l).length c) ∧ RdI w' A (crossL N.ar l).length (crossL N.ar l) ∧ (∀ b, blkOf A = some b → w.heap.size ≤ b ∧ b < w'.heap.size) ∧ Below w.heap.size w w' := by
  have HG := Lib.hid h
  have HN := Lib.hid hN
  have hn4 : n ≤ 4096 := by rw [← hn]; exact hN.lv
  have hm : N.ar.length ≤ 16384 := hN.la
  have HR := Lib.hid (show ∀ V, Below w.heap.size w V → Calls Tryz.prog 115 #[.agg #[.slice Q L cq], .int .i64 ((i : Int) + 1)] V fun e w' => ∃ A n c, e = .returned (.slice A n c) ∧ RdI V A n l ∧ n ≤ c ∧ c ≤ 9223372036854775807 ∧ Below V.heap.size V w' from fun V hV => row_ok Q L cq i ls l V (hq.below hV) hl hL)
  have HLO := Lib.hid hlo
  have HVN := Lib.hid hn
  clear h hN hq hl hlo hn
  go_enter Tryz.func99, Tryz.ntmps99
  go_wp2_with fail
  (refine calls_named ?_; intro w1 hw1)
  have hb1 : Below w.heap.size w w1 := by rw [hw1]; exact (by repeat (first | exact Below.refl _ _ | assumption | apply Below.drew | apply below_drewN | apply Bel.alloc | (refine Bel.setCell_ ?_ ?_; rotate_left; omega) | (refine Bel.step ?_ (by assumption))))
  clear hw1
  with_reducible refine (HR.out w1 hb1).mono ?_
  rintro e w2 ⟨A, n', c, rfl, hr, q1, q2, hb2⟩
  obtain rfl : n = n' := by rw [← hr.1]; exact HLO.out.len.symm
  have hr2 := hr.below hb2
  have hbw2 := Bel.step hb1 hb2
  have hz0 := hbw2.size
  clear hr hb2 hb1
  go_wp2_with fail
  with_reducible refine (gArcs_any g N w2 (HG.out.below hbw2)).mono ?_
  rintro e w' ⟨rfl, rfl⟩
  go_wp2_with fail
  generalize hM : N.ar.length = M at *
  have HM := Lib.hid hM
  clear hM
  go_loopw [8, 18] (fun x q W => Below w.heap.size w W ∧ w2.heap.size ≤ W.heap.size ∧ Below w2.heap.size w2 W ∧ ∃ (j : Nat) (X : Option Addr) (k cx : Nat), j ≤ M ∧ q = .int .i64 j ∧ x = .slice X k cx ∧ k ≤ j ∧ Own W w2.heap.size 3 1 X k cx (icells (arcP (crossB l) (N.ar.take j)))) (fun _ q _ => M - (intOf q).toNat)
  case atStart => exact ⟨hbw2, Nat.le_refl _, Below.refl _ _, 0, none, 0, 0, Nat.zero_le _, rfl, rfl, Nat.le_refl _, Own.nil _ _ _ _⟩
  case round =>
    clear hbw2
    obtain ⟨hbl, hsz, hb2r, j, X, k, cx, hj, rfl, rfl, hkj, hown⟩ := hrel
    by_cases hlt : j < M
    · obtain ⟨⟨fx, tx, zx⟩, hx⟩ : ∃ x, N.ar[j]? = some x := ⟨_, List.getElem?_eq_getElem (by rw [HM.out]; exact hlt)⟩
      have hok := HN.out.arcs _ (List.mem_of_getElem? hx)
      have f0 := hok.f0
      have f1 := hok.f1
      have g0 := hok.g0
      have g1 := hok.g1
      simp only at f0 f1 g0 g1
      rw [HVN.out] at f1 g1
      obtain ⟨u, rfl⟩ : ∃ u : Nat, fx = u := ⟨fx.toNat, by omega⟩
      obtain ⟨v, rfl⟩ : ∃ v : Nat, tx = v := ⟨tx.toNat, by omega⟩
      have hu : u < n := by omega
      have hv : v < n := by omega
      obtain ⟨p, hp⟩ : ∃ p, l[u]? = some p := ⟨_, List.getElem?_eq_getElem (by rw [HLO.out.len]; exact hu)⟩
      obtain ⟨q, hq⟩ : ∃ q, l[v]? = some q := ⟨_, List.getElem?_eq_getElem (by rw [HLO.out.len]; exact hv)⟩
      have HE := Lib.hid (rimEnds_ok g j N A n c u v zx p q l wr (HG.out.below hbl) (hr2.below hb2r) hx hu hv hp hq)
      have HNX := Lib.hid (arcP_take (P := crossB l) hx)
      have hcb : crossB l ((u : Int), (v : Int), zx) = (p != q) := by unfold crossB; simp only; rw [cellOf_nat hp, cellOf_nat hq]
      rw [hcb] at HNX
      clear hx hok hcb hp hq
      go_wp2_with fail
      with_reducible refine HE.out.mono ?_
      rintro e w4 ⟨rfl, nq, hw4⟩
      have hbl4 : Below w.heap.size w w4 := by rw [hw4]; exact below_drewN hbl _
      have hb24 : Below w2.heap.size w2 w4 := by rw [hw4]; exact below_drewN hb2r _
      have hsz4 : w2.heap.size ≤ w4.heap.size := by rw [hw4]; exact hsz
      have hown4 : Own w4 w2.heap.size 3 1 X k cx (icells (arcP (crossB l) (N.ar.take j))) := by rw [hw4]; exact hown
      clear hw4 hbl hb2r hsz hown HE
      by_cases hpq : p = q
      · have e1 : (p != q) = false := by simpa using hpq
        have e2 : (p == q) = true := by simpa using hpq
        rw [e1] at HNX
        clear hpq
        go_wp2_with fail
        go_roundw
        case rel => exact ⟨hbl4, hsz4, hb24, j + 1, X, k, cx, by omega, by go_num, rfl, by omega, by rw [HNX.out]; simpa using hown4⟩
        case measure => simp [intOf]; omega
      · have e1 : (p != q) = true := by simpa using hpq
        have e2 : (p == q) = false := by simpa using hpq
        rw [e1] at HNX
        clear hpq
        have hlt4 : Below w4.heap.size w4 (w4.alloc (.cells #[.int .i64 (j : Int)] 3)) := (by repeat (first | exact Below.refl _ _ | assumption | apply Below.drew | apply below_drewN | apply Bel.alloc | (refine Bel.setCell_ ?_ ?_; rotate_left; omega) | (refine Bel.step ?_ (by assumption))))
        have hownA := hown4.below hlt4
        have hrA : Rds (w4.alloc (.cells #[.int .i64 (j : Int)] 3)) 1 (some ⟨w4.heap.size, 0, none⟩) 1 (icells [(j : Int)]) := (Blk.new w4 3 (ints [(j : Int)])).rds rfl
        have hblA := Bel.step hbl4 hlt4
        have hb2A := Bel.step hb24 hlt4
        go_wp2_with (at_builtin; with_reducible refine wpList_app rfl (.tmp 35) (.tmp 37) 36 rfl 3 _ 1 8 infoInt Tryz.underlying36 rfl (by omega) rfl rfl hownA hrA (icells_one _) (by omega) (by omega) (by simp; omega) ?_)
        intro A' c' w' hown' hg _
        have hbl5 : Below w.heap.size w w' := Bel.grownOwn hblA hg (hownA.mono (by omega)) (by simp; omega)
        have hb25 : Below w2.heap.size w2 w' := Bel.grownOwn hb2A hg hownA (by simp; omega)
        have hsz5 : w2.heap.size ≤ w'.heap.size := hb25.size
        have HO := Lib.hid hown'
        clear hown' hg hownA hrA hblA hb2A hlt4 hown4 hbl4 hb24 hsz4
        go_wp2
        go_roundw
        case rel => exact ⟨hbl5, hsz5, hb25, j + 1, A', k + 1, c', by omega, by go_num, rfl, by omega, by rw [HNX.out, if_pos trivial, icells_app]; exact HO.out⟩
        case measure => simp [intOf]; omega
    · obtain rfl : M = j := by omega
      rw [List.take_of_length_le (by rw [HM.out]; exact Nat.le_refl _)] at hown
      have HO := Lib.hid hown
      have hk : k = (crossL N.ar l).length := by have := hown.1; rw [Nat.mul_one] at this; rw [← this]; simp [icells, crossL]
      have HK := Lib.hid hk
      clear hown hk
      go_wp2
      go_ret
      exact ⟨X, cx, by rw [← HK.out]; rfl, by rw [← HK.out]; exact HO.out.rds.rdI, fun b hb => by have := HO.out.lt b hb; omega, hbl⟩
end Go.Proofs.YtgkeolddpielpaaGreat
