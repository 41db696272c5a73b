/- save.Join's closures; slices.IndexFunc over rows. -/
import Derived.Test.YtjphjbchhhembaaGreatDoorListW
namespace Go.Proofs.YtjphjbchhhembaaGreatDoor
open Go.RowKit

attribute [local go_sem ↓] Go.wp_at_zero Go.wp_at_succ

def lastI (l : List Int) : Int := (l.getLast?).getD 0
def headI (l : List Int) : Int := (l.head?).getD 0
theorem lastI_at {l : List Int} {m : Nat} {x : Int} (hl : l.length = m + 1) (h : l[m]? = some x) : lastI l = x := by
  unfold lastI
  rw [List.getLast?_eq_getElem?, hl, show m + 1 - 1 = m by omega, h]; rfl
theorem headI_at {l : List Int} {x : Int} (h : l[0]? = some x) : headI l = x := by
  unfold headI
  rw [List.head?_eq_getElem?, h]; rfl

set_option maxHeartbeats 1000000 in
theorem join1_any (A : Option Addr) (n c g : Nat) (l : List Int) (I : Int) (w : World) (h : RdI w A n l) (hn0 : n ≠ 0) (hn : n ≤ 4000000000000000000) (hg : w.cell? ⟨g, 0, none⟩ = some (.int .i64 I)) :
    Calls Tryz.prog 22 #[.slice A n c, .pointer (some ⟨g, 0, none⟩)] w fun e w' => e = .returned (.bool (lastI l == I)) ∧ Below w.heap.size w w' := by
  obtain ⟨m, rfl⟩ : ∃ m, n = m + 1 := ⟨n - 1, by omega⟩
  obtain ⟨b, o, x, rfl, hx, hc⟩ := h.at_ (show m < m + 1 by omega)
  have HL := Lib.hid (lastI_at h.1 hx)
  clear h hx hn0
  have HSX := Lib.hid (show ∀ V, Below w.heap.size w V → V.cell? ⟨b, o + m, none⟩ = some (.int .i64 x) ∧ V.cell? ⟨g, 0, none⟩ = some (.int .i64 I) from
    fun V hb => ⟨Below.cellOf hb (Nat.le_refl _) hc, Below.cellOf hb (Nat.le_refl _) hg⟩)
  have e3 : IntKind.i64.wrap (m : Int) = (m : Int) := IntWalk.i64_in _ (by omega)
  have i3 : (0 : Int) ≤ (m : Int) := by omega
  have i4 : (m : Int) < (m : Int) + 1 := by omega
  go_enter Tryz.func22, Tryz.ntmps22
  go_wp2_with fail
  refine wp_region_held_drew (S := fun V => Below w.heap.size w V) (by kernel_rfl) (by repeat (first | exact Below.refl _ _ | assumption | apply Below.drew | apply below_drewN | apply Bel.alloc | (refine Bel.setCell_ ?_ ?_; rotate_left; omega) | (refine Bel.step ?_ (by assumption)))) (fun _ => ?_)
  refine take_ (i := 0) (d := some 4) (v := ?_) rfl rfl (by kernel_rfl) (by kernel_rfl) (by kernel_rfl) (fun _ _ _ h => h) (by rfl) ?_ (by first | rfl | trivial | assumption) ?_
  rotate_left
  · (intro V hSw; (try (have hF := HSX.out V hSw)); (try (cases hSw)); (try go_split_ands); go_simp; try with_reducible rfl)
  simp only [Act.put, List.setIfInBounds_toArray, List.set_cons_zero, List.set_cons_succ]
  refine take_ (i := 1) (d := some 5) (v := ?_) rfl rfl (by kernel_rfl) (by kernel_rfl) (by kernel_rfl) (fun _ _ _ h => h) (by rfl) ?_ (by first | rfl | trivial | assumption) ?_
  rotate_left
  · (intro V hSw; (try (have hF := HSX.out V hSw)); (try (cases hSw)); (try go_split_ands); go_simp; try with_reducible rfl)
  simp only [Act.put, List.setIfInBounds_toArray, List.set_cons_zero, List.set_cons_succ]
  refine take_ (i := 2) (d := some 6) (v := ?_) rfl rfl (by kernel_rfl) (by kernel_rfl) (by kernel_rfl) (fun _ _ _ h => h) (by rfl) ?_ (by first | rfl | trivial | assumption) ?_
  rotate_left
  · (intro V hSw; (try (have hF := HSX.out V hSw)); (try (cases hSw)); (try go_split_ands); go_simp; try with_reducible rfl)
  simp only [Act.put, List.setIfInBounds_toArray, List.set_cons_zero, List.set_cons_succ]
  refine take_ (i := 3) (d := some 7) (v := ?_) rfl rfl (by kernel_rfl) (by kernel_rfl) (by kernel_rfl) (fun _ _ _ h => h) (by rfl) ?_ (by first | rfl | trivial | assumption) ?_
  rotate_left
  · (intro V hSw; (try (have hF := HSX.out V hSw)); (try (cases hSw)); (try go_split_ands); go_simp; try with_reducible rfl)
  simp only [Act.put, List.setIfInBounds_toArray, List.set_cons_zero, List.set_cons_succ]
  refine take_ (i := 4) (d := some 8) (v := ?_) rfl rfl (by kernel_rfl) (by kernel_rfl) (by kernel_rfl) (fun _ _ _ h => h) (by rfl) ?_ (by first | rfl | trivial | assumption) ?_
  rotate_left
  · (intro V hSw; (try (have hF := HSX.out V hSw)); (try (cases hSw)); (try go_split_ands); go_simp; try with_reducible rfl)
  simp only [Act.put, List.setIfInBounds_toArray, List.set_cons_zero, List.set_cons_succ]
  refine take_ (i := 5) (d := some 9) (v := ?_) rfl rfl (by kernel_rfl) (by kernel_rfl) (by kernel_rfl) (fun _ _ _ h => h) (by rfl) ?_ (by first | rfl | trivial | assumption) ?_
  rotate_left
  · (intro V hSw; (try (have hF := HSX.out V hSw)); (try (cases hSw)); (try go_split_ands); go_simp; try with_reducible rfl)
  simp only [Act.put, List.setIfInBounds_toArray, List.set_cons_zero, List.set_cons_succ]
  refine take_ (i := 6) (d := some 10) (v := ?_) rfl rfl (by kernel_rfl) (by kernel_rfl) (by kernel_rfl) (fun _ _ _ h => h) (by rfl) ?_ (by first | rfl | trivial | assumption) ?_
  rotate_left
  · (intro V hSw; (try (have hF := HSX.out V hSw)); (try (cases hSw)); (try go_split_ands); go_simp; try with_reducible rfl)
  simp only [Act.put, List.setIfInBounds_toArray, List.set_cons_zero, List.set_cons_succ]
  refine take_ (i := 7) (d := some 11) (v := ?_) rfl rfl (by kernel_rfl) (by kernel_rfl) (by kernel_rfl) (fun _ _ _ h => h) (by rfl) ?_ (by first | rfl | trivial | assumption) ?_
  rotate_left
  · (intro V hSw; (try (have hF := HSX.out V hSw)); (try (cases hSw)); (try go_split_ands); go_simp; try with_reducible rfl)
  simp only [Act.put, List.setIfInBounds_toArray, List.set_cons_zero, List.set_cons_succ]
  refine take_ (i := 8) (d := some 12) (v := ?_) rfl rfl (by kernel_rfl) (by kernel_rfl) (by kernel_rfl) (fun _ _ _ h => h) (by rfl) ?_ (by first | rfl | trivial | assumption) ?_
  rotate_left
  · (intro V hSw; (try (have hF := HSX.out V hSw)); (try (cases hSw)); (try go_split_ands); go_simp; try with_reducible rfl)
  simp only [Act.put, List.setIfInBounds_toArray, List.set_cons_zero, List.set_cons_succ]
  refine take_ (i := 9) (d := some 3) (v := ?_) rfl rfl (by kernel_rfl) (by kernel_rfl) (by kernel_rfl) (fun _ _ _ h => h) (by rfl) ?_ (by first | rfl | trivial | assumption) ?_
  rotate_left
  · (intro V hSw; (try (have hF := HSX.out V hSw)); (try (cases hSw)); (try go_split_ands); go_simp; try with_reducible rfl)
  simp only [Act.put, List.setIfInBounds_toArray, List.set_cons_zero, List.set_cons_succ]
  refine wpAnyH_done (by kernel_rfl) ?_ _
  go_wp2_with fail
  go_ret
  exact ⟨ret_bool (by rw [HL.out]), (by repeat (first | exact Below.refl _ _ | assumption | apply Below.drew | apply below_drewN | apply Bel.alloc | (refine Bel.setCell_ ?_ ?_; rotate_left; omega) | (refine Bel.step ?_ (by assumption))))⟩

set_option maxHeartbeats 1000000 in
theorem join2_any (A : Option Addr) (n c g : Nat) (l : List Int) (J : Int) (w : World) (h : RdI w A n l) (hn0 : n ≠ 0) (hg : w.cell? ⟨g, 1, none⟩ = some (.int .i64 J)) :
    Calls Tryz.prog 23 #[.slice A n c, .pointer (some ⟨g, 0, none⟩)] w fun e w' => e = .returned (.bool (headI l == J)) ∧ Below w.heap.size w w' := by
  obtain ⟨b, o, x, rfl, hx, hc⟩ := h.at_ (show 0 < n by omega)
  have HL := Lib.hid (headI_at hx)
  rw [Nat.add_zero] at hc
  clear h hx
  have HSX := Lib.hid (show ∀ V, Below w.heap.size w V → V.cell? ⟨b, o, none⟩ = some (.int .i64 x) ∧ V.cell? ⟨g, 1, none⟩ = some (.int .i64 J) from
    fun V hb => ⟨Below.cellOf hb (Nat.le_refl _) hc, Below.cellOf hb (Nat.le_refl _) hg⟩)
  have i4 : (0 : Int) < (n : Int) := by omega
  have i5 : 0 < n := by omega
  clear hn0
  go_enter Tryz.func23, Tryz.ntmps23
  go_wp2_with fail
  refine wp_region_held_drew (S := fun V => Below w.heap.size w V) (by kernel_rfl) (by repeat (first | exact Below.refl _ _ | assumption | apply Below.drew | apply below_drewN | apply Bel.alloc | (refine Bel.setCell_ ?_ ?_; rotate_left; omega) | (refine Bel.step ?_ (by assumption)))) (fun _ => ?_)
  refine take_ (i := 0) (d := some 4) (v := ?_) rfl rfl (by kernel_rfl) (by kernel_rfl) (by kernel_rfl) (fun _ _ _ h => h) (by rfl) ?_ (by first | rfl | trivial | assumption) ?_
  rotate_left
  · (intro V hSw; (try (have hF := HSX.out V hSw)); (try (cases hSw)); (try go_split_ands); go_simp; try with_reducible rfl)
  simp only [Act.put, List.setIfInBounds_toArray, List.set_cons_zero, List.set_cons_succ]
  refine take_ (i := 1) (d := some 5) (v := ?_) rfl rfl (by kernel_rfl) (by kernel_rfl) (by kernel_rfl) (fun _ _ _ h => h) (by rfl) ?_ (by first | rfl | trivial | assumption) ?_
  rotate_left
  · (intro V hSw; (try (have hF := HSX.out V hSw)); (try (cases hSw)); (try go_split_ands); go_simp; try with_reducible rfl)
  simp only [Act.put, List.setIfInBounds_toArray, List.set_cons_zero, List.set_cons_succ]
  refine take_ (i := 2) (d := some 6) (v := ?_) rfl rfl (by kernel_rfl) (by kernel_rfl) (by kernel_rfl) (fun _ _ _ h => h) (by rfl) ?_ (by first | rfl | trivial | assumption) ?_
  rotate_left
  · (intro V hSw; (try (have hF := HSX.out V hSw)); (try (cases hSw)); (try go_split_ands); go_simp; try with_reducible rfl)
  simp only [Act.put, List.setIfInBounds_toArray, List.set_cons_zero, List.set_cons_succ]
  refine take_ (i := 3) (d := some 7) (v := ?_) rfl rfl (by kernel_rfl) (by kernel_rfl) (by kernel_rfl) (fun _ _ _ h => h) (by rfl) ?_ (by first | rfl | trivial | assumption) ?_
  rotate_left
  · (intro V hSw; (try (have hF := HSX.out V hSw)); (try (cases hSw)); (try go_split_ands); go_simp; try with_reducible rfl)
  simp only [Act.put, List.setIfInBounds_toArray, List.set_cons_zero, List.set_cons_succ]
  refine take_ (i := 4) (d := some 8) (v := ?_) rfl rfl (by kernel_rfl) (by kernel_rfl) (by kernel_rfl) (fun _ _ _ h => h) (by rfl) ?_ (by first | rfl | trivial | assumption) ?_
  rotate_left
  · (intro V hSw; (try (have hF := HSX.out V hSw)); (try (cases hSw)); (try go_split_ands); go_simp; try with_reducible rfl)
  simp only [Act.put, List.setIfInBounds_toArray, List.set_cons_zero, List.set_cons_succ]
  refine take_ (i := 5) (d := some 9) (v := ?_) rfl rfl (by kernel_rfl) (by kernel_rfl) (by kernel_rfl) (fun _ _ _ h => h) (by rfl) ?_ (by first | rfl | trivial | assumption) ?_
  rotate_left
  · (intro V hSw; (try (have hF := HSX.out V hSw)); (try (cases hSw)); (try go_split_ands); go_simp; try with_reducible rfl)
  simp only [Act.put, List.setIfInBounds_toArray, List.set_cons_zero, List.set_cons_succ]
  refine take_ (i := 6) (d := some 3) (v := ?_) rfl rfl (by kernel_rfl) (by kernel_rfl) (by kernel_rfl) (fun _ _ _ h => h) (by rfl) ?_ (by first | rfl | trivial | assumption) ?_
  rotate_left
  · (intro V hSw; (try (have hF := HSX.out V hSw)); (try (cases hSw)); (try go_split_ands); go_simp; try with_reducible rfl)
  simp only [Act.put, List.setIfInBounds_toArray, List.set_cons_zero, List.set_cons_succ]
  refine wpAnyH_done (by kernel_rfl) ?_ _
  go_wp2_with fail
  go_ret
  exact ⟨ret_bool (by rw [HL.out]), (by repeat (first | exact Below.refl _ _ | assumption | apply Below.drew | apply below_drewN | apply Bel.alloc | (refine Bel.setCell_ ?_ ?_; rotate_left; omega) | (refine Bel.step ?_ (by assumption))))⟩

/-- The first place at which p holds, or -1. -/
def idxP (n : Nat) (p : Nat → Bool) : Int := match (List.range n).find? p with | some i => (i : Int) | none => -1
theorem idxP_hit {n k : Nat} {p : Nat → Bool} (hk : k < n) (hj : ∀ j, j < k → p j = false) (h : p k = true) : idxP n p = k := by
  unfold idxP
  have : (List.range n).find? p = some k := by
    rw [List.find?_range_eq_some]
    exact ⟨h, by simpa using hk, fun j hj' => by rw [hj j hj']; rfl⟩
  rw [this]
theorem idxP_miss {n : Nat} {p : Nat → Bool} (hj : ∀ j, j < n → p j = false) : idxP n p = -1 := by
  unfold idxP
  have : (List.range n).find? p = none := by
    rw [List.find?_eq_none]
    intro j hj'
    rw [hj j (by simpa using hj')]
    simp
  rw [this]

set_option maxHeartbeats 1000000 in
theorem indexFunc_any (A : Option Addr) (n c g : Nat) (lb : Array Value) (p : Nat → Bool) (w : World) (eg : ∀ args w, (callFunc g args).run Tryz.prog w = .ok (.enter g args) w) (hn : n ≤ 4000000000000000000)
    (hc : ∀ i, i < n → ∃ b o v, A = some ⟨b, o, none⟩ ∧ w.cell? ⟨b, o + i, none⟩ = some v ∧ ∀ W, Below w.heap.size w W → Calls Tryz.prog g (#[v] ++ lb) W fun e w' => e = .returned (.bool (p i)) ∧ Below W.heap.size W w') :
    Calls Tryz.prog 21 #[.slice A n c, .func (.func g) #[] lb] w fun e w' => e = .returned (.int .i64 (idxP n p)) ∧ Below w.heap.size w w' := by
  have HC := Lib.hid hc
  clear hc
  go_enter Tryz.func21, Tryz.ntmps21
  go_wp2_with fail
  go_loopw [8] (fun i W => Below w.heap.size w W ∧ ∃ k : Nat, k ≤ n ∧ i = .int .i64 k ∧ ∀ j, j < k → p j = false) (fun i _ => n - (intOf i).toNat)
  case atStart => exact ⟨Below.refl _ _, 0, Nat.zero_le _, rfl, fun _ h => absurd h (by omega)⟩
  case round =>
    obtain ⟨hbl, k, hk, rfl, hj⟩ := hrel
    have HJ := Lib.hid hj
    clear hj
    by_cases hlt : k < n
    · obtain ⟨b, o, v, rfl, hv, hcall⟩ := HC.out k hlt
      have hv2 := Below.cellOf hbl (Nat.le_refl _) hv
      have HK := Lib.hid hcall
      clear hcall hv
      cases hp : p k
      · rw [hp] at HK
        have HP := Lib.hid hp
        clear hp
        go_wp2_with fail
        with_reducible refine (HK.out _ hbl).mono ?_
        rintro e w2 ⟨rfl, hb2⟩
        go_wp2_with fail
        go_roundw
        case rel => exact ⟨(by repeat (first | exact Below.refl _ _ | assumption | apply Below.drew | apply below_drewN | apply Bel.alloc | (refine Bel.setCell_ ?_ ?_; rotate_left; omega) | (refine Bel.step ?_ (by assumption)))), k + 1, by omega, by go_num, fun j hj => by
          rcases Nat.lt_or_ge j k with h1 | h1
          · exact HJ.out j h1
          · obtain rfl : j = k := by omega
            exact HP.out⟩
        case measure => simp [intOf]; omega
      · rw [hp] at HK
        have HP := Lib.hid (idxP_hit hlt HJ.out hp)
        clear hp
        go_wp2_with fail
        with_reducible refine (HK.out _ hbl).mono ?_
        rintro e w2 ⟨rfl, hb2⟩
        go_wp2_with fail
        go_ret
        exact ⟨ret_int HP.out.symm, (by repeat (first | exact Below.refl _ _ | assumption | apply Below.drew | apply below_drewN | apply Bel.alloc | (refine Bel.setCell_ ?_ ?_; rotate_left; omega) | (refine Bel.step ?_ (by assumption))))⟩
    · obtain rfl : k = n := by omega
      have HP := Lib.hid (idxP_miss HJ.out)
      go_wp2_with fail
      go_ret
      exact ⟨ret_int HP.out.symm, (by repeat (first | exact Below.refl _ _ | assumption | apply Below.drew | apply below_drewN | apply Bel.alloc | (refine Bel.setCell_ ?_ ?_; rotate_left; omega) | (refine Bel.step ?_ (by assumption))))⟩
end Go.Proofs.YtjphjbchhhembaaGreatDoor
