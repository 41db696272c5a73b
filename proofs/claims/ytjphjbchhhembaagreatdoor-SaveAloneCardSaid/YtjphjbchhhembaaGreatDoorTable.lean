/- Table of roundsmanlaw24: another table, of rows of its own. -/
import Derived.Test.YtjphjbchhhembaaGreatDoorMat
namespace Go.Proofs.YtjphjbchhhembaaGreatDoor
open Go.RowKit

attribute [local go_sem ↓] Go.wp_at_zero Go.wp_at_succ

theorem infoI64 : (Tryz.prog.info? 2).map (fun i => (i.zero, i.size, i.bytes)) = some (some (.int .i64 0), 1, 8) := by kernel_rfl
theorem infoRow64 : (Tryz.prog.info? 44).map (fun i => (i.zero, i.size, i.bytes)) = some (some (.slice none 0 0), 1, 24) := by kernel_rfl

/-- Rows that were copied, of the first ones. -/
def MatO (W : World) (B m : Nat) (A : Option Addr) (k c : Nat) (xs : List Value) (gs : List Nat) (ls : List (List Int)) : Prop :=
  Own W B 44 1 A k c xs ∧ gs.length = k ∧ gs.Nodup ∧ ∀ (j g : Nat), gs[j]? = some g → B ≤ g ∧ g < W.heap.size ∧ blkOf A ≠ some g ∧ ∃ c' cs l, ls[j]? = some l ∧ xs[j]? = some (.slice (some ⟨g, 0, none⟩) m c') ∧ Blk W g 2 cs ∧ (∀ (i : Nat) (x : Int), l[i]? = some x → cs[i]? = some (.int .i64 x)) ∧ m ≤ c' ∧ c' ≤ 9223372036854775807
theorem MatO.nil (W : World) (B m : Nat) (ls : List (List Int)) : MatO W B m none 0 0 [] [] ls := ⟨Own.nil _ _ _ _, rfl, List.nodup_nil, fun j g h => by simp at h⟩
theorem MatO.push {W w' : World} {B m k c c' g d : Nat} {A A' : Option Addr} {xs : List Value} {gs : List Nat} {ls : List (List Int)} {l : List Int} {cs : Array Value} (h : MatO W B m A k c xs gs ls)
    (hown : Own w' B 44 1 A' (k + 1) c' (xs ++ [.slice (some ⟨g, 0, none⟩) m d])) (hg : W.grownBy w' (blkOf A)) (hat : blkOf A' = blkOf A ∨ blkOf A' = some W.heap.size)
    (hl : ls[k]? = some l) (hB : B ≤ g) (hlt : g < W.heap.size) (hne : blkOf A ≠ some g) (hnew : ∀ g' ∈ gs, g' ≠ g) (hb : Blk W g 2 cs) (hv : ∀ (i : Nat) (x : Int), l[i]? = some x → cs[i]? = some (.int .i64 x)) (h4 : m ≤ d) (h5 : d ≤ 9223372036854775807) :
    MatO w' B m A' (k + 1) c' (xs ++ [.slice (some ⟨g, 0, none⟩) m d]) (gs ++ [g]) ls := by
  have hxl : xs.length = k := by rw [h.1.1]; omega
  have new : ∀ g, g < W.heap.size → blkOf A ≠ some g → blkOf A' ≠ some g := fun g k1 k2 e2 => by
    rcases hat with hat | hat
    · exact k2 (by rw [← hat]; exact e2)
    · rw [hat] at e2
      injection e2 with e2
      omega
  refine ⟨hown, by simp [h.2.1], ?_, fun j g' hj => ?_⟩
  · rw [List.nodup_append]
    refine ⟨h.2.2.1, by simp, fun a ha b hb' => ?_⟩
    rw [List.mem_singleton.1 hb']
    exact hnew a ha
  · rcases Nat.lt_trichotomy j gs.length with hj2 | hj2 | hj2
    · rw [List.getElem?_append_left hj2] at hj
      obtain ⟨k1, k2, k3, c2, cs2, l2, k4, k5, k6, k7, k8, k9⟩ := h.2.2.2 j g' hj
      have h21 := h.2.1
      exact ⟨k1, Nat.lt_of_lt_of_le k2 hg.size, new g' k2 k3, c2, cs2, l2, k4, by rw [List.getElem?_append_left (by omega)]; exact k5, k6.grown hg k3, k7, k8, k9⟩
    · subst hj2
      rw [List.getElem?_append_right (Nat.le_refl _), Nat.sub_self] at hj
      cases hj
      have h21 := h.2.1
      exact ⟨hB, Nat.lt_of_lt_of_le hlt hg.size, new g hlt hne, d, cs, l, by rw [h21]; exact hl, by rw [h21, ← hxl, List.getElem?_append_right (Nat.le_refl _), Nat.sub_self]; rfl, hb.grown hg hne, hv, h4, h5⟩
    · rw [List.getElem?_eq_none (by simp; omega)] at hj
      cases hj
theorem MatO.below {W W' : World} {B m k c : Nat} {A : Option Addr} {xs : List Value} {gs : List Nat} {ls : List (List Int)} (h : MatO W B m A k c xs gs ls) (hb : Below W.heap.size W W') : MatO W' B m A k c xs gs ls :=
  ⟨h.1.below hb, h.2.1, h.2.2.1, fun j g hj => by
    obtain ⟨k1, k2, k3, c2, cs2, l2, k4, k5, k6, k7, k8, k9⟩ := h.2.2.2 j g hj
    exact ⟨k1, Nat.lt_of_lt_of_le k2 hb.size, k3, c2, cs2, l2, k4, k5, k6.below hb k2, k7, k8, k9⟩⟩
theorem MatO.mat {W : World} {B m n c : Nat} {A : Option Addr} {xs : List Value} {gs : List Nat} {ls : List (List Int)} (h : MatO W B m A n c xs gs ls) (hn : ls.length = n) (hm : ∀ l ∈ ls, l.length = m) : Mat W A n m gs ls :=
  ⟨hn, h.2.1, h.2.2.1, fun g hg => by
    obtain ⟨i, hi, e⟩ := List.getElem_of_mem hg
    exact (h.2.2.2 i g (by rw [List.getElem?_eq_getElem hi, e])).2.2.1, fun i l g hl hg => by
    obtain ⟨k1, k2, k3, c2, cs2, l2, k4, k5, k6, k7, k8, k9⟩ := h.2.2.2 i g hg
    rw [hl] at k4
    cases k4
    obtain ⟨b, o, e, hc⟩ := h.1.rds.2 i _ k5
    exact ⟨b, o, c2, cs2, e, hc, k6, hm l (List.mem_of_getElem? hl), k7, k8, k9⟩⟩

set_option maxHeartbeats 2000000 in
theorem table_any (A : Option Addr) (n c m : Nat) (ls : List (List Int)) (w : World) (h : RdT w A n ls) (hm : ∀ l ∈ ls, l.length = m) (hm0 : 0 < m) (hm1 : m ≤ 1000) (hn : n ≤ 1000) :
    Calls Tryz.prog 11 #[.slice A n c] w fun e w' => ∃ A' c' gs, e = .returned (.slice A' n c') ∧ Mat w' A' n m gs ls ∧ (∀ g ∈ gs, w.heap.size ≤ g) ∧ (∀ g, blkOf A' = some g → w.heap.size ≤ g) ∧ Below w.heap.size w w' := by
  have HM := Lib.hid hm
  have HL := Lib.hid h.1
  clear hm
  go_enter Tryz.func11, Tryz.ntmps11
  go_wp2_with fail
  go_loopw [3, 4] (fun a i W => Below w.heap.size w W ∧ ∃ (k : Nat) (A3 : Option Addr) (c3 : Nat) (xs : List Value) (gs : List Nat), k ≤ n ∧ i = .int .i64 k ∧ a = .slice A3 k c3 ∧ MatO W w.heap.size m A3 k c3 xs gs ls) (fun _ i _ => n - (intOf i).toNat)
  case atStart => exact ⟨Below.refl _ _, 0, none, 0, [], [], Nat.zero_le _, rfl, rfl, MatO.nil _ _ _ _⟩
  case round =>
    obtain ⟨hbl, k, A3, c3, xs, gs, hk, rfl, rfl, hmo⟩ := hrel
    by_cases hlt : k < n
    · obtain ⟨b, o, A1, n1, c1, l, rfl, hl, hc, hr, _, _⟩ := h.at_ hlt
      obtain rfl : n1 = m := by have h1 := hr.1; have h2 := HM.out l (List.mem_of_getElem? hl); omega
      have HX := Lib.hid hl
      have HMO := Lib.hid hmo
      have hsz := hbl.size
      have hbe : Below wr.heap.size wr (wr.alloc (.cells #[] 2)) := (Below.refl _ _).alloc (Nat.le_refl _) _
      have hown0 : Own (wr.alloc (.cells #[] 2)) wr.heap.size 2 1 (some ⟨wr.heap.size, 0, none⟩) 0 0 [] := Own.lit wr #[] 0 (Nat.le_refl _) (by omega) rfl
      have hrd0 := ((hr.below hbl).below hbe).rdsI
      have j1 := fun o' => Below.cellOf (Bel.alloc hbl (o := o')) (Nat.le_refl _) hc
      clear hl hc hmo hr
      go_wp2_with (at_builtin; with_reducible refine wpList_app rfl (.tmp 12) (.tmp 16) 44 rfl 2 _ 1 8 infoI64 Tryz.underlying44 rfl (by omega) rfl rfl hown0 hrd0 (icells_one _) (by omega) (by omega) (by simp) ?_)
      intro A5 c5 w5 hown5 hg5 _
      have hb5 : Below wr.heap.size wr w5 := Bel.grownOwn hbe hg5 hown0 (by simp)
      obtain ⟨g, cs, rfl, hgB, hblk, hmc, _, hcs⟩ := hown5.block (by omega)
      have hcm := hown5.capMax
      have hv : ∀ (i : Nat) (x : Int), l[i]? = some x → cs[i]? = some (.int .i64 x) := fun i x hx => hcs i _ (by unfold icells; rw [List.getElem?_map, hx]; rfl)
      have hglt := hblk.lt
      have hmo5 := HMO.out.below hb5
      clear hown0 hrd0 hbe hg5 hown5 hcs
      have hbe : Below w5.heap.size w5 (w5.alloc (.cells #[.slice (some ⟨g, 0, none⟩) n1 c5] 44)) := (Below.refl _ _).alloc (Nat.le_refl _) _
      have hmo6 := hmo5.below hbe
      have hblk6 := hblk.alloc (.cells #[.slice (some ⟨g, 0, none⟩) n1 c5] 44)
      have hb1 : Blk (w5.alloc (.cells #[.slice (some ⟨g, 0, none⟩) n1 c5] 44)) w5.heap.size 44 #[.slice (some ⟨g, 0, none⟩) n1 c5] := Blk.new _ _ _
      have hrd := hb1.rds (s := 1) (m := 1) rfl
      have hown := hmo6.1
      have hbel : Below w.heap.size w (w5.alloc (.cells #[.slice (some ⟨g, 0, none⟩) n1 c5] 44)) := (hbl.trans (hb5.mono hsz)).alloc (Nat.le_trans hsz hb5.size) _
      have hz5 : w.heap.size ≤ w5.heap.size := Nat.le_trans hsz hb5.size
      have hne : blkOf A3 ≠ some g := fun e => by have := (HMO.out.1.lt g e).2; omega
      have hnew : ∀ g' ∈ gs, g' ≠ g := fun g' hg' e => by
        obtain ⟨i, hi, e2⟩ := List.getElem_of_mem hg'
        have := (HMO.out.2.2.2 i g' (by rw [List.getElem?_eq_getElem hi, e2])).2.1
        omega
      clear hblk hmo5 hb1 hbe j1
      go_wp2_with (at_builtin; with_reducible refine wpList_app rfl (.tmp 11) (.tmp 18) 25 rfl 44 _ 1 24 infoRow64 Tryz.underlying25 rfl (by omega) rfl rfl hown hrd (slice_one _ _ _) (by omega) (by omega) (by simp; omega) ?_)
      intro A' c' w' hown' hg' hat
      have hP := Lib.hid (hmo6.push hown' hg' (by simpa using hat) HX.out (by omega) (by simp; omega) hne hnew hblk6 hv hmc hcm)
      have hbn : Below w.heap.size w w' := Bel.grownOwn hbel hg' hown (by simp; omega)
      clear hown' hg' hat hown hrd hmo6 hblk6 hbel hnew
      go_wp2
      go_roundw
      case rel => exact ⟨hbn, k + 1, A', c', _, _, by omega, by go_num, rfl, hP.out⟩
      case measure => simp [intOf]; omega
    · obtain rfl : k = n := by omega
      have HMA := Lib.hid (hmo.mat HL.out HM.out)
      have HG := Lib.hid (show ∀ g ∈ gs, w.heap.size ≤ g from fun g hg => by
        obtain ⟨i, hi, e⟩ := List.getElem_of_mem hg
        exact (hmo.2.2.2 i g (by rw [List.getElem?_eq_getElem hi, e])).1)
      have HA := Lib.hid (show ∀ g, blkOf A3 = some g → w.heap.size ≤ g from fun g e => (hmo.1.lt g e).1)
      clear hmo
      go_wp2_with fail
      go_ret
      exact ⟨A3, c3, gs, rfl, HMA.out, HG.out, HA.out, hbl⟩
end Go.Proofs.YtjphjbchhhembaaGreatDoor
