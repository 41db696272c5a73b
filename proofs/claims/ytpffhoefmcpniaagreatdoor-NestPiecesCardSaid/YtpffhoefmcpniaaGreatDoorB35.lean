/- Parts of the proof: QFx, Ne1. -/
import Derived.Test.YtpffhoefmcpniaaGreatDoorB1
import Derived.Test.YtpffhoefmcpniaaGreatDoorB10
import Derived.Test.YtpffhoefmcpniaaGreatDoorB11
import Derived.Test.YtpffhoefmcpniaaGreatDoorB21
import Derived.Test.YtpffhoefmcpniaaGreatDoorB25
namespace Go.Proofs.YtpffhoefmcpniaaGreatDoor
open Go.RowKit

theorem RdW.keepB {w w' : World} {A : Option Addr} {n : Nat} {l : List (ByteArray × Int)} (h : RdW w A n l) (hk : ∀ b, blkOf A = some b → w'.heap[b]? = w.heap[b]?) : RdW w' A n l :=
 ⟨h.1, fun i x hx => by
  obtain ⟨b, o, e, h1, h2⟩ := h.2 i x hx
  have hb := hk b (by rw [e]; rfl)
  exact ⟨b, o, e, cell_keep hb h1, cell_keep hb h2⟩⟩
theorem RdW.setFar {W : World} {A : Option Addr} {n : Nat} {l : List (ByteArray × Int)} (h : RdW W A n l) (g i : Nat) (v : Value) (hne : ∀ b, blkOf A = some b → b ≠ g ∧ b < W.heap.size) : RdW (W.setCell ⟨g, i, none⟩ v) A n l :=
 h.keepB (fun b e => (Kept.set W g i v (G := fun b => b ≠ g) (fun h => h rfl)) b (hne b e).1 (hne b e).2)
theorem refAt_x (s : ByteArray) (k c : Int) (w : World) : Calls Tryz.prog 28 #[.string s, .int .i64 k, .int .i64 c] w fun e w' => ∃ A n m, e = .returned (.agg #[.slice A n m, .int .i64 c]) ∧ RdW w' A n [(s, k)] ∧ (∀ b, blkOf A = some b → w.heap.size ≤ b ∧ b < w'.heap.size) ∧ n ≤ 1000000 ∧ Below w.heap.size w w' := by
 go_enter Tryz.func28, Tryz.ntmps28
 go_wp2
 refine bodyPost_ret (v := .agg #[.slice (some ⟨w.heap.size + 1, 0, none⟩) 1 1, .int .i64 c]) (by simp [results, Tryz.results28, go_sem]) rfl ?_
 refine ⟨_, 1, 1, rfl, ⟨rfl, fun i x hx => ?_⟩, fun b e => ?_, by omega, bELt⟩
 · match i, hx with
   | 0, hx => cases hx; exact ⟨_, _, rfl, by simp, by simp⟩
   | i + 1, hx => simp at hx
 · have e : w.heap.size + 1 = b := Option.some.inj e
   subst e
   exact ⟨by omega, by simp⟩
end Go.Proofs.YtpffhoefmcpniaaGreatDoor

namespace Go.Proofs.YtpffhoefmcpniaaGreatDoor
open Go.RowKit

attribute [local go_sem ↓] Go.wp_at_zero Go.wp_at_succ

theorem nestFault_any (s : ByteArray) (k c : Int) (w : World) : Calls Tryz.prog 39 #[.string s, .int .i64 k, errV c] w fun e w' => ∃ v, e = .returned v ∧ Chain w' v [(s, k)] c ∧ Below w.heap.size w w' := by
 go_enter Tryz.func39, Tryz.ntmps39
 go_wp2
 go_ret
 exact ⟨_, rfl, ⟨w.heap.size, 0, errV c, rfl, by simp, by simp, by simp, rfl⟩, bELt⟩
set_option maxHeartbeats 1000000 in
theorem nestCheck_x (A : Option Addr) (n c : Nat) (bs : List Int) (w : World) (h : RdI w A n bs) (l1 : 1 ≤ n) (l6 : n ≤ 6) (i0 : Nat) (hi0 : i0 ≤ n) (hg : ∀ j, j < i0 → bGood bs j) (hb : i0 < n → ¬ bGood bs i0) :
 Calls Tryz.prog 14 #[.slice A n c] w fun e w' => ((i0 = n ∧ e = .returned .nilIface) ∨ (i0 < n ∧ ∃ v, e = .returned v ∧ Chain w' v [((⟨#[110, 101, 115, 116]⟩ : ByteArray), (i0 : Int))] 1)) ∧ Below w.heap.size w w' := by
 have HR := Lib.hid h
 have HG := Lib.hid hg
 have HB := Lib.hid hb
 have j1 : ((n : Int) == 0) = false := by simp; omega
 have j2 : ¬ (n : Int) > 6 := by omega
 have j3 : ¬ n = 0 := by omega
 clear h hg hb
 go_enter Tryz.func14, Tryz.ntmps14
 go_wp2_with fail
 go_loopw [17] (fun q W => Below w.heap.size w W ∧ ∃ i : Nat, i ≤ i0 ∧ q = .int .i64 (i : Int)) (fun q _ => n - (intOf q).toNat)
 case atStart => exact ⟨Below.refl _ _, 0, Nat.zero_le _, rfl⟩
 case round =>
  obtain ⟨hbl, i, hi, rfl⟩ := hrel
  by_cases hlt : i < n
  · obtain ⟨b, o, x, rfl, hx, hc⟩ := (HR.out.below hbl).at_ hlt
    have HX := Lib.hid hx
    have i1 : (0 : Int) ≤ (i : Int) := by omega
    have i2 : (i : Int) < (n : Int) := by omega
    clear hx
    by_cases hii : i < i0
    · obtain ⟨x', hx', x1, xa⟩ := HG.out i hii
      rw [HX.out] at hx'
      obtain rfl : x = x' := by injection hx'
      have x2 : ¬ x < 1 := by omega
      have HXA := Lib.hid xa
      clear hx' x1 xa
      by_cases hz : i = 0
      · have e0 : ¬ ((i : Int) > 0) := by omega
        have e00 : ¬ 0 < i := by omega
        have HZ := Lib.hid hz
        clear hz
        go_wp2_with fail
        go_roundw
        case rel => exact ⟨bELt, i + 1, by omega, by go_num⟩
        case measure => simp [intOf]; omega
      · obtain ⟨j, rfl⟩ : ∃ j, i = j + 1 := ⟨i - 1, by omega⟩
        obtain ⟨b', o', y, e, hy, hcy⟩ := (HR.out.below hbl).at_ (show j < n by omega)
        cases e
        have y1 := HXA.out y (by omega) hy
        have y2 : ¬ x ≤ y := by omega
        have e1 : ((j + 1 : Nat) : Int) - 1 = (j : Int) := by omega
        have e2 : (0 : Int) ≤ (j : Int) := by omega
        have e3 : (j : Int) < (n : Int) := by omega
        have e4 : (0 : Int) ≤ (j : Int) + 1 := by omega
        have HY := Lib.hid hy
        clear hz hy y1
        go_wp2_with fail
        go_roundw
        case rel => exact ⟨bELt, j + 1 + 1, by omega, by go_num⟩
        case measure => simp [intOf]; omega
    · obtain rfl : i0 = i := by omega
      have hltn : i0 < n := hlt
      have hbad := bGood_bad HX.out (HB.out hlt)
      clear hii hlt
      rcases hbad with x1 | ⟨hz, y, hy, y1⟩
      · go_wp2_with fail
        with_reducible refine (nestFault_any _ _ _ _).mono ?_
        rintro e w3 ⟨v, rfl, hc3, hb3⟩
        obtain ⟨tv, xv, rfl⟩ := chain_not_nil hc3
        have HCH := Lib.hid hc3
        clear hc3
        go_wp2_with fail
        go_ret
        exact ⟨.inr ⟨hltn, _, rfl, HCH.out⟩, bELt⟩
      · obtain ⟨j, rfl⟩ : ∃ j, i0 = j + 1 := ⟨i0 - 1, by omega⟩
        obtain ⟨b', o', y', e, hy', hcy⟩ := (HR.out.below hbl).at_ (show j < n by omega)
        cases e
        simp only [Nat.add_sub_cancel] at hy
        rw [hy] at hy'
        obtain rfl : y = y' := by injection hy'
        have e1 : ((j + 1 : Nat) : Int) - 1 = (j : Int) := by omega
        have e2 : (0 : Int) ≤ (j : Int) := by omega
        have e3 : (j : Int) < (n : Int) := by omega
        have e4 : (0 : Int) ≤ (j : Int) + 1 := by omega
        clear hz hy hy'
        by_cases x1 : x < 1
        · go_wp2_with fail
          with_reducible refine (nestFault_any _ _ _ _).mono ?_
          rintro e w3 ⟨v, rfl, hc3, hb3⟩
          obtain ⟨tv, xv, rfl⟩ := chain_not_nil hc3
          have HCH := Lib.hid hc3
          clear hc3
          go_wp2_with fail
          go_ret
          exact ⟨.inr ⟨hltn, _, rfl, HCH.out⟩, bELt⟩
        · go_wp2_with fail
          with_reducible refine (nestFault_any _ _ _ _).mono ?_
          rintro e w3 ⟨v, rfl, hc3, hb3⟩
          obtain ⟨tv, xv, rfl⟩ := chain_not_nil hc3
          have HCH := Lib.hid hc3
          clear hc3
          go_wp2_with fail
          go_ret
          exact ⟨.inr ⟨hltn, _, rfl, HCH.out⟩, bELt⟩
  · obtain rfl : n = i := by omega
    obtain rfl : i0 = n := by omega
    go_wp2_with fail
    go_ret
    first | exact ⟨.inl ⟨rfl, rfl⟩, bELt⟩ | exact ⟨rfl, bELt⟩
theorem nestCheck_ok (A : Option Addr) (n c : Nat) (bs : List Int) (w : World) (h : RdI w A n bs) (hb : BndOk bs) :
 Calls Tryz.prog 14 #[.slice A n c] w fun e w' => e = .returned .nilIface ∧ Below w.heap.size w w' := by
 have hn := h.1
 refine (nestCheck_x A n c bs w h (by rw [← hn]; exact hb.l1) (by rw [← hn]; exact hb.l6) n (Nat.le_refl _) (fun j hj => hb.all j (by rw [hn]; exact hj)) (fun h => absurd h (Nat.lt_irrefl _))).mono ?_
 rintro e w' ⟨h1 | ⟨h1, _⟩, h2⟩
 · exact ⟨h1.2, h2⟩
 · omega
set_option maxHeartbeats 1000000 in
theorem nestCheck_bad (A : Option Addr) (n cq : Nat) (bs : List Int) (k c : Int) (w : World) (h : RdI w A n bs) (hb : BndBad bs k c) :
 Calls Tryz.prog 14 #[.slice A n cq] w fun e w' => ∃ v, e = .returned v ∧ Chain w' v [((⟨#[110, 101, 115, 116]⟩ : ByteArray), k)] c ∧ Below w.heap.size w w' := by
 have hn := h.1
 unfold BndBad at hb
 rw [hn] at hb
 rcases hb with ⟨h0, rfl, rfl⟩ | ⟨h6, rfl, rfl⟩ | ⟨l1, l6, i, hi, hg, hbd, rfl, rfl⟩
 · subst h0
   have j1 : ((((0 : Nat) : Int)) == 0) = true := by simp
   clear h hn
   go_enter Tryz.func14, Tryz.ntmps14
   go_wp2_with fail
   with_reducible refine (nestFault_any _ _ _ _).mono ?_
   rintro e w3 ⟨v, rfl, hc3, hb3⟩
   obtain ⟨tv, xv, rfl⟩ := chain_not_nil hc3
   have HCH := Lib.hid hc3
   clear hc3
   go_wp2_with fail
   go_ret
   exact ⟨_, rfl, HCH.out, bELt⟩
 · have j1 : ((n : Int) == 0) = false := by simp; omega
   have j2 : (n : Int) > 6 := by omega
   have j3 : ¬ n = 0 := by omega
   clear h hn h6
   go_enter Tryz.func14, Tryz.ntmps14
   go_wp2_with fail
   with_reducible refine (nestFault_any _ _ _ _).mono ?_
   rintro e w3 ⟨v, rfl, hc3, hb3⟩
   obtain ⟨tv, xv, rfl⟩ := chain_not_nil hc3
   have HCH := Lib.hid hc3
   clear hc3
   go_wp2_with fail
   go_ret
   exact ⟨_, rfl, HCH.out, bELt⟩
 · refine (nestCheck_x A n cq bs w h l1 l6 i (by omega) hg (fun _ => hbd)).mono ?_
   rintro e w' ⟨h1 | ⟨_, v, h1, h2⟩, h3⟩
   · omega
   · exact ⟨v, h1, h2, h3⟩
set_option maxHeartbeats 2000000 in
theorem checkBounds_x (A : Option Addr) (n c : Nat) (bs : List Int) (w : World) (h : RdI w A n bs) (l1 : 1 ≤ n) (l6 : n ≤ 6) (i0 : Nat) (hi0 : i0 ≤ n) (hg : ∀ j, j < i0 → bGood bs j) (hb : i0 < n → ¬ bGood bs i0) :
 Calls Tryz.prog 15 #[.slice A n c] w fun e w' => ((i0 = n ∧ e = .returned (.agg #[.slice none 0 0, .int .i64 0])) ∨ (i0 < n ∧ ∃ A4 n4 m4, e = .returned (.agg #[.slice A4 n4 m4, .int .i64 1]) ∧ RdW w' A4 n4 [((⟨#[110, 101, 115, 116]⟩ : ByteArray), (i0 : Int))] ∧ n4 ≤ 1000000)) ∧ Below w.heap.size w w' := by
 have HR := Lib.hid h
 have HG := Lib.hid hg
 have HB := Lib.hid hb
 have j1 : ((n : Int) == 0) = false := by simp; omega
 have j2 : ¬ (n : Int) > 6 := by omega
 have j3 : ¬ n = 0 := by omega
 clear h hg hb
 go_enter Tryz.func15, Tryz.ntmps15
 go_wp2_with fail
 (refine wp_named ?_; intro w1 hw1)
 have hb1 : Below w.heap.size w w1 := by rw [hw1]; exact bELt
 have hB : Blk w1 w.heap.size 42 #[.slice none 0 0, .int .i64 0] := by rw [hw1]; exact bLNt
 clear hw1
 go_loopw [3] (fun q W => Below w.heap.size w W ∧ Blk W w.heap.size 42 #[.slice none 0 0, .int .i64 0] ∧ ∃ i : Nat, i ≤ i0 ∧ q = .int .i64 (i : Int)) (fun q _ => n - (intOf q).toNat)
 case atStart => exact ⟨hb1, hB, 0, Nat.zero_le _, rfl⟩
 case round =>
  clear hb1 hB
  obtain ⟨hbl, hB, i, hi, rfl⟩ := hrel
  by_cases hlt : i < n
  · obtain ⟨b, o, x, rfl, hx, hc⟩ := (HR.out.below hbl).at_ hlt
    have HX := Lib.hid hx
    have i1 : (0 : Int) ≤ (i : Int) := by omega
    have i2 : (i : Int) < (n : Int) := by omega
    clear hx
    by_cases hii : i < i0
    · obtain ⟨x', hx', x1, xa⟩ := HG.out i hii
      rw [HX.out] at hx'
      obtain rfl : x = x' := by injection hx'
      have x2 : ¬ x < 1 := by omega
      have HXA := Lib.hid xa
      clear hx' x1 xa
      by_cases hz : i = 0
      · have e0 : ¬ ((i : Int) > 0) := by omega
        have e00 : ¬ 0 < i := by omega
        have HZ := Lib.hid hz
        clear hz
        have HSX := Lib.hid (show ∀ V, Below wr.heap.size wr V → V.cell? ⟨b, o + i, none⟩ = some (.int .i64 x) ∧ decide (x < 1) = false ∧ decide ((i : Int) > 0) = false ∧ decide (0 < i) = false from fun V hV => ⟨Below.cellOf hV (Nat.le_refl _) hc, decide_eq_false x2, decide_eq_false e0, decide_eq_false e00⟩)
        go_wp2_with fail
        refine wp_region_held_drew (S := fun V => Below wr.heap.size wr V) (by kernel_rfl) (Below.refl _ _).drew (fun _ => ?_)
        refine tk 0 18 (h := ⟨_, tv, ?_⟩)
        simp only [pE, List.set]
        refine tk 1 19 (h := ⟨_, tv, ?_⟩)
        simp only [pE, List.set]
        refine tk 2 20 (h := ⟨_, tv, ?_⟩)
        simp only [pE, List.set]
        refine tk 3 21 (h := ⟨_, tv, ?_⟩)
        simp only [pE, List.set]
        refine tk 4 22 (h := ⟨_, tv, ?_⟩)
        simp only [pE, List.set]
        refine tk 5 23 (h := ⟨_, tv, ?_⟩)
        simp only [pE, List.set]
        refine tk 6 24 (h := ⟨_, tv, ?_⟩)
        simp only [pE, List.set]
        refine tk 7 25 (h := ⟨_, tv, ?_⟩)
        simp only [pE, List.set]
        refine tk 8 26 (h := ⟨_, tv, ?_⟩)
        simp only [pE, List.set]
        refine tu 9 27 (h := ?_)
        simp only [pE, List.set]
        refine tu 10 28 (h := ?_)
        simp only [pE, List.set]
        refine tu 11 29 (h := ?_)
        simp only [pE, List.set]
        refine tu 12 30 (h := ?_)
        simp only [pE, List.set]
        refine tu 13 31 (h := ?_)
        simp only [pE, List.set]
        refine tu 14 32 (h := ?_)
        simp only [pE, List.set]
        refine tu 15 33 (h := ?_)
        simp only [pE, List.set]
        refine tu 16 34 (h := ?_)
        simp only [pE, List.set]
        refine tu 17 35 (h := ?_)
        simp only [pE, List.set]
        refine tu 18 36 (h := ?_)
        simp only [pE, List.set]
        refine tk 19 37 (h := ⟨_, tv, ?_⟩)
        simp only [pE, List.set]
        refine tk 20 38 (h := ⟨_, tv, ?_⟩)
        simp only [pE, List.set]
        refine wpAnyH_done (by kernel_rfl) ?_ _
        go_wp2_with fail
        go_roundw
        case rel => exact ⟨bELt, hB, i + 1, by omega, by go_num⟩
        case measure => simp [intOf]; omega
      · obtain ⟨j, rfl⟩ : ∃ j, i = j + 1 := ⟨i - 1, by omega⟩
        obtain ⟨b', o', y, e, hy, hcy⟩ := (HR.out.below hbl).at_ (show j < n by omega)
        cases e
        have y1 := HXA.out y (by omega) hy
        have y2 : ¬ x ≤ y := by omega
        have e1 : ((j + 1 : Nat) : Int) - 1 = (j : Int) := by omega
        have e2 : (0 : Int) ≤ (j : Int) := by omega
        have e3 : (j : Int) < (n : Int) := by omega
        have e4 : (0 : Int) ≤ (j : Int) + 1 := by omega
        have HY := Lib.hid hy
        clear hz hy y1
        have HSX := Lib.hid (show ∀ V, Below wr.heap.size wr V → V.cell? ⟨b, o + (j + 1), none⟩ = some (.int .i64 x) ∧ V.cell? ⟨b, o + j, none⟩ = some (.int .i64 y) ∧ decide (x < 1) = false ∧ decide (((j + 1 : Nat) : Int) > 0) = true ∧ decide ((j : Int) + 1 > 0) = true ∧ decide (0 < (j : Int) + 1) = true ∧ decide (x ≤ y) = false ∧ (j : Int) + 1 - 1 = (j : Int) ∧ IntKind.i64.wrap (j : Int) = (j : Int) from fun V hV => ⟨Below.cellOf hV (Nat.le_refl _) hc, Below.cellOf hV (Nat.le_refl _) hcy, decide_eq_false x2, decide_eq_true (by omega), decide_eq_true (by omega), decide_eq_true (by omega), decide_eq_false y2, by omega, IntWalk.i64_in _ (by omega)⟩)
        go_wp2_with fail
        refine wp_region_held_drew (S := fun V => Below wr.heap.size wr V) (by kernel_rfl) (Below.refl _ _).drew (fun _ => ?_)
        refine tk 0 18 (h := ⟨_, tv, ?_⟩)
        simp only [pE, List.set]
        refine tk 1 19 (h := ⟨_, tv, ?_⟩)
        simp only [pE, List.set]
        refine tk 2 20 (h := ⟨_, tv, ?_⟩)
        simp only [pE, List.set]
        refine tk 3 21 (h := ⟨_, tv, ?_⟩)
        simp only [pE, List.set]
        refine tk 4 22 (h := ⟨_, tv, ?_⟩)
        simp only [pE, List.set]
        refine tk 5 23 (h := ⟨_, tv, ?_⟩)
        simp only [pE, List.set]
        refine tk 6 24 (h := ⟨_, tv, ?_⟩)
        simp only [pE, List.set]
        refine tk 7 25 (h := ⟨_, tv, ?_⟩)
        simp only [pE, List.set]
        refine tk 8 26 (h := ⟨_, tv, ?_⟩)
        simp only [pE, List.set]
        refine tk 9 27 (h := ⟨_, tv, ?_⟩)
        simp only [pE, List.set]
        refine tk 10 28 (h := ⟨_, tv, ?_⟩)
        simp only [pE, List.set]
        refine tk 11 29 (h := ⟨_, tv, ?_⟩)
        simp only [pE, List.set]
        refine tk 12 30 (h := ⟨_, tv, ?_⟩)
        simp only [pE, List.set]
        refine tk 13 31 (h := ⟨_, tv, ?_⟩)
        simp only [pE, List.set]
        refine tk 14 32 (h := ⟨_, tv, ?_⟩)
        simp only [pE, List.set]
        refine tk 15 33 (h := ⟨_, tv, ?_⟩)
        simp only [pE, List.set]
        refine tk 16 34 (h := ⟨_, tv, ?_⟩)
        simp only [pE, List.set]
        refine tk 17 35 (h := ⟨_, tv, ?_⟩)
        simp only [pE, List.set]
        refine tk 18 36 (h := ⟨_, tv, ?_⟩)
        simp only [pE, List.set]
        refine tk 19 37 (h := ⟨_, tv, ?_⟩)
        simp only [pE, List.set]
        refine tk 20 38 (h := ⟨_, tv, ?_⟩)
        simp only [pE, List.set]
        refine wpAnyH_done (by kernel_rfl) ?_ _
        go_wp2_with fail
        go_roundw
        case rel => exact ⟨bELt, hB, j + 1 + 1, by omega, by go_num⟩
        case measure => simp [intOf]; omega
    · obtain rfl : i0 = i := by omega
      have hltn : i0 < n := hlt
      have hbad := bGood_bad HX.out (HB.out hlt)
      clear hii hlt
      by_cases x1 : x < 1
      · have HSX := Lib.hid (show ∀ V, Below wr.heap.size wr V → V.cell? ⟨b, o + i0, none⟩ = some (.int .i64 x) ∧ decide (x < 1) = true from fun V hV => ⟨Below.cellOf hV (Nat.le_refl _) hc, decide_eq_true x1⟩)
        clear hbad
        go_wp2_with fail
        refine wp_region_held_drew (S := fun V => Below wr.heap.size wr V) (by kernel_rfl) (Below.refl _ _).drew (fun _ => ?_)
        refine tk 0 18 (h := ⟨_, tv, ?_⟩)
        simp only [pE, List.set]
        refine tk 1 19 (h := ⟨_, tv, ?_⟩)
        simp only [pE, List.set]
        refine tk 2 20 (h := ⟨_, tv, ?_⟩)
        simp only [pE, List.set]
        refine tk 3 21 (h := ⟨_, tv, ?_⟩)
        simp only [pE, List.set]
        refine tk 4 22 (h := ⟨_, tv, ?_⟩)
        simp only [pE, List.set]
        refine tk 5 23 (h := ⟨_, tv, ?_⟩)
        simp only [pE, List.set]
        refine tu 6 24 (h := ?_)
        simp only [pE, List.set]
        refine tu 7 25 (h := ?_)
        simp only [pE, List.set]
        refine tu 8 26 (h := ?_)
        simp only [pE, List.set]
        refine tu 9 27 (h := ?_)
        simp only [pE, List.set]
        refine tu 10 28 (h := ?_)
        simp only [pE, List.set]
        refine tu 11 29 (h := ?_)
        simp only [pE, List.set]
        refine tu 12 30 (h := ?_)
        simp only [pE, List.set]
        refine tu 13 31 (h := ?_)
        simp only [pE, List.set]
        refine tu 14 32 (h := ?_)
        simp only [pE, List.set]
        refine tu 15 33 (h := ?_)
        simp only [pE, List.set]
        refine tu 16 34 (h := ?_)
        simp only [pE, List.set]
        refine tu 17 35 (h := ?_)
        simp only [pE, List.set]
        refine tu 18 36 (h := ?_)
        simp only [pE, List.set]
        refine tu 19 37 (h := ?_)
        simp only [pE, List.set]
        refine tk 20 38 (h := ⟨_, tv, ?_⟩)
        simp only [pE, List.set]
        refine wpAnyH_done (by kernel_rfl) ?_ _
        go_wp2_with fail
        (refine calls_named ?_; intro w1 hw1)
        have hb1 : Below w.heap.size w w1 := by rw [hw1]; exact bELt
        have hB1 : Blk w1 w.heap.size 42 #[.slice none 0 0, .int .i64 0] := by rw [hw1]; exact bLKt
        have hz1 : w.heap.size + 1 ≤ w1.heap.size := hB1.lt
        clear hw1
        with_reducible refine (refAt_x _ _ _ _).mono ?_
        rintro e w3 ⟨A4, n4, m4, rfl, h4, hA4, h5, hb3⟩
        have hB3 := hB1.below hb3 hB1.lt
        obtain ⟨d0, d1, f0, f1⟩ := hB3.two
        have hbw3 := Bel.step hb1 hb3
        have HW := Lib.hid ((h4.setFar w.heap.size 0 (.slice A4 n4 m4) (fun b e => ⟨by have := (hA4 b e).1; omega, (hA4 b e).2⟩)).setFar w.heap.size 1 (.int .i64 1) (fun b e => ⟨by have := (hA4 b e).1; omega, by simpa [World.setCell] using (hA4 b e).2⟩))
        have hbw4 : Below w.heap.size w ((w3.setCell ⟨w.heap.size, 0, none⟩ (.slice A4 n4 m4)).setCell ⟨w.heap.size, 1, none⟩ (.int .i64 1)) := (hbw3.setCell (by simp only; omega) _).setCell (by simp only; omega) _
        clear h4 hA4 hb3
        go_wp2_with fail
        refine bodyPost_ret (v := .agg #[.slice A4 n4 m4, .int .i64 1]) (by simp [results, Tryz.results15, go_sem, d0, d1]) rfl ?_
        exact ⟨.inr ⟨hltn, _, _, _, rfl, HW.out, h5⟩, hbw4⟩
      · rcases hbad with x2 | ⟨hz, y, hy, y1⟩
        · exact absurd x2 x1
        obtain ⟨j, rfl⟩ : ∃ j, i0 = j + 1 := ⟨i0 - 1, by omega⟩
        obtain ⟨b', o', y', e, hy', hcy⟩ := (HR.out.below hbl).at_ (show j < n by omega)
        cases e
        simp only [Nat.add_sub_cancel] at hy
        rw [hy] at hy'
        obtain rfl : y = y' := by injection hy'
        have e1 : ((j + 1 : Nat) : Int) - 1 = (j : Int) := by omega
        have e2 : (0 : Int) ≤ (j : Int) := by omega
        have e3 : (j : Int) < (n : Int) := by omega
        have e4 : (0 : Int) ≤ (j : Int) + 1 := by omega
        clear hz hy hy'
        have HSX := Lib.hid (show ∀ V, Below wr.heap.size wr V → V.cell? ⟨b, o + (j + 1), none⟩ = some (.int .i64 x) ∧ V.cell? ⟨b, o + j, none⟩ = some (.int .i64 y) ∧ decide (x < 1) = false ∧ decide (((j + 1 : Nat) : Int) > 0) = true ∧ decide ((j : Int) + 1 > 0) = true ∧ decide (0 < (j : Int) + 1) = true ∧ decide (x ≤ y) = true ∧ (j : Int) + 1 - 1 = (j : Int) ∧ IntKind.i64.wrap (j : Int) = (j : Int) from fun V hV => ⟨Below.cellOf hV (Nat.le_refl _) hc, Below.cellOf hV (Nat.le_refl _) hcy, decide_eq_false x1, decide_eq_true (by omega), decide_eq_true (by omega), decide_eq_true (by omega), decide_eq_true y1, by omega, IntWalk.i64_in _ (by omega)⟩)
        go_wp2_with fail
        refine wp_region_held_drew (S := fun V => Below wr.heap.size wr V) (by kernel_rfl) (Below.refl _ _).drew (fun _ => ?_)
        refine tk 0 18 (h := ⟨_, tv, ?_⟩)
        simp only [pE, List.set]
        refine tk 1 19 (h := ⟨_, tv, ?_⟩)
        simp only [pE, List.set]
        refine tk 2 20 (h := ⟨_, tv, ?_⟩)
        simp only [pE, List.set]
        refine tk 3 21 (h := ⟨_, tv, ?_⟩)
        simp only [pE, List.set]
        refine tk 4 22 (h := ⟨_, tv, ?_⟩)
        simp only [pE, List.set]
        refine tk 5 23 (h := ⟨_, tv, ?_⟩)
        simp only [pE, List.set]
        refine tk 6 24 (h := ⟨_, tv, ?_⟩)
        simp only [pE, List.set]
        refine tk 7 25 (h := ⟨_, tv, ?_⟩)
        simp only [pE, List.set]
        refine tk 8 26 (h := ⟨_, tv, ?_⟩)
        simp only [pE, List.set]
        refine tk 9 27 (h := ⟨_, tv, ?_⟩)
        simp only [pE, List.set]
        refine tk 10 28 (h := ⟨_, tv, ?_⟩)
        simp only [pE, List.set]
        refine tk 11 29 (h := ⟨_, tv, ?_⟩)
        simp only [pE, List.set]
        refine tk 12 30 (h := ⟨_, tv, ?_⟩)
        simp only [pE, List.set]
        refine tk 13 31 (h := ⟨_, tv, ?_⟩)
        simp only [pE, List.set]
        refine tk 14 32 (h := ⟨_, tv, ?_⟩)
        simp only [pE, List.set]
        refine tk 15 33 (h := ⟨_, tv, ?_⟩)
        simp only [pE, List.set]
        refine tk 16 34 (h := ⟨_, tv, ?_⟩)
        simp only [pE, List.set]
        refine tk 17 35 (h := ⟨_, tv, ?_⟩)
        simp only [pE, List.set]
        refine tk 18 36 (h := ⟨_, tv, ?_⟩)
        simp only [pE, List.set]
        refine tk 19 37 (h := ⟨_, tv, ?_⟩)
        simp only [pE, List.set]
        refine tk 20 38 (h := ⟨_, tv, ?_⟩)
        simp only [pE, List.set]
        refine wpAnyH_done (by kernel_rfl) ?_ _
        go_wp2_with fail
        (refine calls_named ?_; intro w1 hw1)
        have hb1 : Below w.heap.size w w1 := by rw [hw1]; exact bELt
        have hB1 : Blk w1 w.heap.size 42 #[.slice none 0 0, .int .i64 0] := by rw [hw1]; exact bLKt
        have hz1 : w.heap.size + 1 ≤ w1.heap.size := hB1.lt
        clear hw1
        with_reducible refine (refAt_x _ _ _ _).mono ?_
        rintro e w3 ⟨A4, n4, m4, rfl, h4, hA4, h5, hb3⟩
        have hB3 := hB1.below hb3 hB1.lt
        obtain ⟨d0, d1, f0, f1⟩ := hB3.two
        have hbw3 := Bel.step hb1 hb3
        have HW := Lib.hid ((h4.setFar w.heap.size 0 (.slice A4 n4 m4) (fun b e => ⟨by have := (hA4 b e).1; omega, (hA4 b e).2⟩)).setFar w.heap.size 1 (.int .i64 1) (fun b e => ⟨by have := (hA4 b e).1; omega, by simpa [World.setCell] using (hA4 b e).2⟩))
        have hbw4 : Below w.heap.size w ((w3.setCell ⟨w.heap.size, 0, none⟩ (.slice A4 n4 m4)).setCell ⟨w.heap.size, 1, none⟩ (.int .i64 1)) := (hbw3.setCell (by simp only; omega) _).setCell (by simp only; omega) _
        clear h4 hA4 hb3
        go_wp2_with fail
        refine bodyPost_ret (v := .agg #[.slice A4 n4 m4, .int .i64 1]) (by simp [results, Tryz.results15, go_sem, d0, d1]) rfl ?_
        exact ⟨.inr ⟨hltn, _, _, _, rfl, HW.out, h5⟩, hbw4⟩
  · obtain rfl : n = i := by omega
    obtain rfl : i0 = n := by omega
    obtain ⟨c0, c1, f0, f1⟩ := hB.two
    have zB := hB.lt
    go_wp2_with fail
    refine bodyPost_ret (v := .agg #[.slice none 0 0, .int .i64 0]) (by simp [results, Tryz.results15, go_sem, c0, c1]) rfl ?_
    first | exact ⟨.inl ⟨rfl, rfl⟩, bELt⟩ | exact ⟨rfl, bELt⟩
theorem checkBounds_ok (A : Option Addr) (n c : Nat) (bs : List Int) (w : World) (h : RdI w A n bs) (hb : BndOk bs) :
 Calls Tryz.prog 15 #[.slice A n c] w fun e w' => e = .returned (.agg #[.slice none 0 0, .int .i64 0]) ∧ Below w.heap.size w w' := by
 have hn := h.1
 refine (checkBounds_x A n c bs w h (by rw [← hn]; exact hb.l1) (by rw [← hn]; exact hb.l6) n (Nat.le_refl _) (fun j hj => hb.all j (by rw [hn]; exact hj)) (fun h => absurd h (Nat.lt_irrefl _))).mono ?_
 rintro e w' ⟨h1 | ⟨h1, _⟩, h2⟩
 · exact ⟨h1.2, h2⟩
 · omega
set_option maxHeartbeats 1000000 in
theorem checkBounds_bad (A : Option Addr) (n cq : Nat) (bs : List Int) (k c : Int) (w : World) (h : RdI w A n bs) (hb : BndBad bs k c) :
 Calls Tryz.prog 15 #[.slice A n cq] w fun e w' => ∃ A4 n4 m4, e = .returned (.agg #[.slice A4 n4 m4, .int .i64 c]) ∧ RdW w' A4 n4 [((⟨#[110, 101, 115, 116]⟩ : ByteArray), k)] ∧ n4 ≤ 1000000 ∧ Below w.heap.size w w' := by
 have hn := h.1
 unfold BndBad at hb
 rw [hn] at hb
 rcases hb with ⟨h0, rfl, rfl⟩ | ⟨h6, rfl, rfl⟩ | ⟨l1, l6, i, hi, hg, hbd, rfl, rfl⟩
 · subst h0
   have j1 : ((((0 : Nat) : Int)) == 0) = true := by simp
   clear h hn
   go_enter Tryz.func15, Tryz.ntmps15
   go_wp2_with fail
   (refine calls_named ?_; intro w1 hw1)
   have hb1 : Below w.heap.size w w1 := by rw [hw1]; exact bELt
   have hB1 : Blk w1 w.heap.size 42 #[.slice none 0 0, .int .i64 0] := by rw [hw1]; exact bLNt
   have hz1 : w.heap.size + 1 ≤ w1.heap.size := by rw [hw1]; simp
   clear hw1
   with_reducible refine (refAt_x _ _ _ _).mono ?_
   rintro e w3 ⟨A4, n4, m4, rfl, h4, hA4, h5, hb3⟩
   have hB3 := hB1.below hb3 hB1.lt
   obtain ⟨d0, d1, f0, f1⟩ := hB3.two
   have hbw3 := Bel.step hb1 hb3
   have HW := Lib.hid ((h4.setFar w.heap.size 0 (.slice A4 n4 m4) (fun b e => ⟨by have := (hA4 b e).1; omega, (hA4 b e).2⟩)).setFar w.heap.size 1 (.int .i64 1) (fun b e => ⟨by have := (hA4 b e).1; omega, by simpa [World.setCell] using (hA4 b e).2⟩))
   have hbw4 : Below w.heap.size w ((w3.setCell ⟨w.heap.size, 0, none⟩ (.slice A4 n4 m4)).setCell ⟨w.heap.size, 1, none⟩ (.int .i64 1)) := (hbw3.setCell (by simp only; omega) _).setCell (by simp only; omega) _
   clear h4 hA4 hb3
   go_wp2_with fail
   refine bodyPost_ret (v := .agg #[.slice A4 n4 m4, .int .i64 1]) (by simp [results, Tryz.results15, go_sem, d0, d1]) rfl ?_
   exact ⟨_, _, _, rfl, HW.out, h5, hbw4⟩
 · have j1 : ((n : Int) == 0) = false := by simp; omega
   have j2 : (n : Int) > 6 := by omega
   have j3 : ¬ n = 0 := by omega
   clear h hn h6
   go_enter Tryz.func15, Tryz.ntmps15
   go_wp2_with fail
   (refine calls_named ?_; intro w1 hw1)
   have hb1 : Below w.heap.size w w1 := by rw [hw1]; exact bELt
   have hB1 : Blk w1 w.heap.size 42 #[.slice none 0 0, .int .i64 0] := by rw [hw1]; exact bLNt
   have hz1 : w.heap.size + 1 ≤ w1.heap.size := by rw [hw1]; simp
   clear hw1
   with_reducible refine (refAt_x _ _ _ _).mono ?_
   rintro e w3 ⟨A4, n4, m4, rfl, h4, hA4, h5, hb3⟩
   have hB3 := hB1.below hb3 hB1.lt
   obtain ⟨d0, d1, f0, f1⟩ := hB3.two
   have hbw3 := Bel.step hb1 hb3
   have HW := Lib.hid ((h4.setFar w.heap.size 0 (.slice A4 n4 m4) (fun b e => ⟨by have := (hA4 b e).1; omega, (hA4 b e).2⟩)).setFar w.heap.size 1 (.int .i64 4) (fun b e => ⟨by have := (hA4 b e).1; omega, by simpa [World.setCell] using (hA4 b e).2⟩))
   have hbw4 : Below w.heap.size w ((w3.setCell ⟨w.heap.size, 0, none⟩ (.slice A4 n4 m4)).setCell ⟨w.heap.size, 1, none⟩ (.int .i64 4)) := (hbw3.setCell (by simp only; omega) _).setCell (by simp only; omega) _
   clear h4 hA4 hb3
   go_wp2_with fail
   refine bodyPost_ret (v := .agg #[.slice A4 n4 m4, .int .i64 4]) (by simp [results, Tryz.results15, go_sem, d0, d1]) rfl ?_
   exact ⟨_, _, _, rfl, HW.out, h5, hbw4⟩
 · refine (checkBounds_x A n cq bs w h l1 l6 i (by omega) hg (fun _ => hbd)).mono ?_
   rintro e w' ⟨h1 | ⟨_, A4, n4, m4, h1, h2, h4⟩, h3⟩
   · omega
   · exact ⟨A4, n4, m4, h1, h2, h4, h3⟩
end Go.Proofs.YtpffhoefmcpniaaGreatDoor
