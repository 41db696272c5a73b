/- slices.Concat of two rows; slices.Delete, slices.Clone, slices.SortFunc over rows. -/
import Derived.Test.YtjphjbchhhembaaGreatDoorJn1
import Derived.Test.YtjphjbchhhembaaGreatDoorShelf2
import Derived.Shelf.Spec.SlicesGrow
import Derived.Shelf.SlicesE.Delete
namespace Go.Proofs.YtjphjbchhhembaaGreatDoor
open Go.RowKit Go.Shelf Go.Lib

theorem infoI2 : ∃ i, Tryz.prog.info? 3 = some i ∧ i.zero = some (.int .i64 0) ∧ i.size = 1 ∧ i.bytes = 8 := info_parts infoInt

theorem Own.capMax {w : World} {B s n c : Nat} {e : TypeId} {A : Option Addr} {xs : List Value} (h : Own w B e s A n c xs) : c ≤ 9223372036854775807 := by
  rcases h.2 with ⟨h', h0⟩ | ⟨g, cap, cur, h1, _, _, _, h4, _⟩
  · cases h'; omega
  · cases h1; unfold maxLen at h4; omega
/-- slices.Grow of nil: a row of the call's own, of no element. -/
theorem growNil (n : Nat) (w : World) (hn0 : 0 < n) (hn : n ≤ 1000000000) :
    Calls Tryz.prog 47 #[.slice none 0 0, .int .i64 n] w fun e w' => ∃ A' c', e = .returned (.slice A' 0 c') ∧ Own w' w.heap.size 3 1 A' 0 c' [] ∧ Below w.heap.size w w' := by
  obtain ⟨i, hi, hz, hs, hb⟩ := infoI2
  have hcon := Any8.slices_Grow_grow Tryz.growI i (.int .i64 0) hi hz (by omega) none 0 0 n [] w (by omega) (by omega) (by rw [hb]; omega) (by omega) (by simp) (fun _ => rfl) (fun a h => by cases h)
  refine Calls.mono (show Calls Tryz.prog 47 _ _ _ from hcon) ?_
  rintro e w' ⟨rfl, rfl⟩
  refine ⟨_, _, rfl, ?_, (by repeat (first | exact Below.refl _ _ | assumption | apply Below.drew | apply below_drewN | apply Bel.alloc | (refine Bel.setCell_ ?_ ?_; rotate_left; omega) | (refine Bel.step ?_ (by assumption))))⟩
  refine ⟨by simp, Or.inr ⟨w.heap.size, _, _, rfl, Nat.le_refl _, heap_alloc_new _ _, Nat.zero_le _, grownCap_le_maxLen _ _ _ _ (by unfold maxLen; omega), ?_, by simp⟩⟩
  have := grownCap_ge w (0 + n) 0 (Tryz.growI_ren.t 25)
  simp [Builtin.zeroCells, Value.cells]
  simp at this
  first | done | omega

theorem flat_len_le {ls : List (List Int)} {k : Nat} : (ls.take k).flatten.length ≤ ls.flatten.length := by
  conv => rhs; rw [← List.take_append_drop k ls]
  rw [List.flatten_append, List.length_append]
  omega

set_option maxHeartbeats 2000000 in
/-- slices.Concat: the rows, one behind the other. -/
theorem concat_any (A : Option Addr) (n c : Nat) (ls : List (List Int)) (w : World) (h : RdT w A n ls) (hn : n ≤ 1000000000) (h0 : 0 < ls.flatten.length) (hb : ls.flatten.length ≤ 1000000000) :
    Calls Tryz.prog 24 #[.slice A n c] w fun e w' => ∃ A' c', e = .returned (.slice A' ls.flatten.length c') ∧ RdI w' A' ls.flatten.length ls.flatten ∧ ls.flatten.length ≤ c' ∧ c' ≤ 9223372036854775807 ∧ (∀ g, g < w.heap.size → blkOf A' ≠ some g) ∧ Below w.heap.size w w' := by
  have HL := Lib.hid h.1
  have HF := Lib.hid (show ∀ k, (ls.take k).flatten.length ≤ ls.flatten.length from fun k => flat_len_le)
  have HG := Lib.hid (growNil ls.flatten.length w h0 hb)
  have HE := Lib.hid (show ls.take n = ls from List.take_of_length_le (by rw [h.1]; exact Nat.le_refl _))
  generalize ht : ls.flatten.length = t at *
  have HT := Lib.hid ht
  clear ht
  go_enter Tryz.func24, Tryz.ntmps24
  go_wp2_with fail
  go_loopw [3, 11] (fun a i W => w = W ∧ ∃ k : Nat, k ≤ n ∧ i = .int .i64 k ∧ a = .int .i64 ((ls.take k).flatten.length : Nat)) (fun _ i _ => n - (intOf i).toNat)
  case atStart => exact ⟨by trivial, 0, Nat.zero_le _, rfl, by simp⟩
  case round =>
    obtain ⟨rfl, k, hk, rfl, rfl⟩ := hrel
    by_cases hlt : k < n
    · obtain ⟨b, o, A', n', c', l, rfl, hl, hc, hr, _, _⟩ := h.at_ hlt
      have hx := flat_next hl
      have hx2 : (ls.take (k + 1)).flatten.length = (ls.take k).flatten.length + n' := by rw [hx, List.length_append, hr.1]
      have hle := HF.out (k + 1)
      have HX := Lib.hid hx2
      rw [hx2] at hle
      clear hx hx2 hl
      generalize (ls.take k).flatten.length = s at *
      have e1 : IntKind.i64.wrap ((s : Int) + (n' : Int)) = (s : Int) + (n' : Int) := IntWalk.i64_in _ (by omega)
      have e2 : ¬ ((s : Int) + (n' : Int) < 0) := by omega
      go_wp2_with fail
      go_roundw
      case rel => exact ⟨by trivial, k + 1, by omega, by go_num, by rw [HX.out]; go_num⟩
      case measure => simp [intOf]; omega
    · obtain rfl : k = n := by omega
      rw [HE.out, HT.out]
      go_wp2_with fail
      with_reducible refine (HG.out).mono ?_
      rintro e w2 ⟨A2, c2, rfl, hown, hb2⟩
      go_wp2_with fail
      go_loopw [6, 27] (fun a i W => Below w.heap.size w W ∧ ∃ (k2 m : Nat) (A3 : Option Addr) (c3 : Nat), k2 ≤ k ∧ i = .int .i64 k2 ∧ a = .slice A3 m c3 ∧ m = (ls.take k2).flatten.length ∧ Own W w.heap.size 3 1 A3 m c3 (icells (ls.take k2).flatten)) (fun _ i _ => k - (intOf i).toNat)
      case atStart => exact ⟨hb2, 0, 0, A2, c2, Nat.zero_le _, rfl, rfl, by simp, by simpa [icells] using hown⟩
      case round =>
        clear hown
        obtain ⟨hbl, k2, m, A3, c3, hk2, rfl, rfl, hm, hown⟩ := hrel
        by_cases hlt2 : k2 < k
        · obtain ⟨b, o, A', n', c', l, rfl, hl, hc, hr, _, _⟩ := h.at_ hlt2
          have hx := flat_next hl
          have hx2 : (ls.take (k2 + 1)).flatten.length = m + n' := by rw [hx, List.length_append, hr.1, hm]
          have hle := HF.out (k2 + 1)
          have HX := Lib.hid hx2
          have HX1 := Lib.hid hx
          rw [hx2] at hle
          have j1 := Below.cellOf hbl (Nat.le_refl _) hc
          have hrd := (hr.below hbl).rdsI
          have hsz := hbl.size
          clear hx hx2 hl hm
          go_wp2_with (at_builtin; with_reducible refine wpList_app rfl (.tmp 31) (.tmp 32) 38 rfl 3 _ 1 8 infoInt Tryz.underlying38 rfl (by omega) rfl rfl hown hrd (icells_one _) (by omega) (by omega) (by omega) ?_)
          intro A6 c6 w6 hown6 hg6 _
          have hb6 := Bel.grownOwn hbl hg6 hown (by omega)
          clear hown hbl hg6 hrd j1
          go_wp2
          go_roundw
          case rel => exact ⟨hb6, k2 + 1, m + n', A6, c6, by omega, by go_num, rfl, HX.out.symm, by rw [HX1.out, icells_app]; exact hown6⟩
          case measure => simp [intOf]; omega
        · obtain rfl : k2 = k := by omega
          rw [HE.out] at hm hown
          rw [HT.out] at hm
          have hcap := hown.cap
          have hcm := hown.capMax
          have HR := Lib.hid hown.rds.rdI
          have HZ := Lib.hid (show ∀ g, g < w.heap.size → blkOf A3 ≠ some g from fun g hg e => by have := (hown.lt g e).1; omega)
          subst hm
          clear hown
          go_wp2_with fail
          go_ret
          exact ⟨A3, c3, rfl, HR.out, by omega, by omega, HZ.out, (by repeat (first | exact Below.refl _ _ | assumption | apply Below.drew | apply below_drewN | apply Bel.alloc | (refine Bel.setCell_ ?_ ?_; rotate_left; omega) | (refine Bel.step ?_ (by assumption))))⟩
end Go.Proofs.YtjphjbchhhembaaGreatDoor
