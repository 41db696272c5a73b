/- slices.Clone: of ints, of int64s, of vertices, of arcs. -/
import Derived.Test.YtgkeolddpielpaaGreatNt9
import Derived.Lib.SliceRun
namespace Go.Proofs.YtgkeolddpielpaaGreat
open Go.RowKit

attribute [local go_sem ↓] Go.wp_at_zero Go.wp_at_succ

theorem infoClI : (Tryz.prog.info? 3).map (fun i => (i.zero, i.size, i.bytes)) = some (some (.int .i64 0), 1, 8) := by kernel_rfl
set_option maxHeartbeats 1000000 in
theorem cloneI_any (A : Option Addr) (n c : Nat) (xs : List Value) (w : World) (h : Rds w 1 A n xs) (h1 : ∀ u ∈ xs, u.oneCell' = true) (hn : n ≤ 1000000000) :
    Calls Tryz.prog 104 #[.slice A n c] w fun e w' => ∃ A' c', e = .returned (.slice A' n c') ∧ Own w' w.heap.size 3 1 A' n c' xs ∧ Below w.heap.size w w' := by
  have q22 : ∀ (w : World) (a : Option Addr) (n c n' c' : Nat), (binOp .eql 36 (.slice a n c) (.slice none n' c')).run Tryz.prog w = .ok (.bool a.isNone) w := fun w a n c n' c' => Lib.run_eql_slice_nil w _ _ a n c n' c' Tryz.underlying36
  cases A with
  | none =>
    have hl : xs = [] := by
      cases hl : xs with
      | nil => rfl
      | cons p t =>
        obtain ⟨b, o, e, _⟩ := h.2 0 p (by rw [hl]; rfl)
        cases e
    subst hl
    have h0 : n = 0 := by have := h.1; simp at this; omega
    subst h0
    go_enter Tryz.func104, Tryz.ntmps104
    go_wp2
    go_ret
    exact ⟨none, 0, rfl, Own.nil _ _ _ _, (by repeat (first | exact Below.refl _ _ | assumption | apply Below.drew | apply below_drewN | apply Bel.alloc | (refine Bel.setCell_ ?_ ?_; rotate_left; omega) | (refine Bel.step ?_ (by assumption))))⟩
  | some a =>
    have hb1 : ∀ o, Below w.heap.size w (w.alloc o) := fun o => (Below.refl _ _).alloc (Nat.le_refl _) o
    have hown0 : Own (w.alloc (.cells #[] 3)) w.heap.size 3 1 (some ⟨w.heap.size, 0, none⟩) 0 0 [] := Own.lit w #[] 0 (Nat.le_refl _) (by omega) rfl
    go_enter Tryz.func104, Tryz.ntmps104
    go_wp2_with (at_builtin; with_reducible refine wpList_app rfl (.tmp 5) (.tmp 6) 36 rfl 3 _ 1 8 infoClI Tryz.underlying36 rfl (by omega) (B := w.heap.size) rfl rfl hown0 (h.below (hb1 _)) h1 (by omega) (by omega) (by simp) ?_)
    intro A' c' w' hown hg _
    have hb2 : Below w.heap.size w w' := Bel.grownOwn (hb1 _) hg hown0 (by simp)
    try simp only [Nat.zero_add, List.nil_append] at hown
    have HO := Lib.hid hown
    clear hown hg
    go_wp2
    go_ret
    exact ⟨_, _, rfl, HO.out, hb2⟩
theorem infoClL : (Tryz.prog.info? 2).map (fun i => (i.zero, i.size, i.bytes)) = some (some (.int .i64 0), 1, 8) := by kernel_rfl
set_option maxHeartbeats 1000000 in
theorem cloneL_any (A : Option Addr) (n c : Nat) (xs : List Value) (w : World) (h : Rds w 1 A n xs) (h1 : ∀ u ∈ xs, u.oneCell' = true) (hn : n ≤ 1000000000) :
    Calls Tryz.prog 125 #[.slice A n c] w fun e w' => ∃ A' c', e = .returned (.slice A' n c') ∧ Own w' w.heap.size 2 1 A' n c' xs ∧ Below w.heap.size w w' := by
  have q22 : ∀ (w : World) (a : Option Addr) (n c n' c' : Nat), (binOp .eql 44 (.slice a n c) (.slice none n' c')).run Tryz.prog w = .ok (.bool a.isNone) w := fun w a n c n' c' => Lib.run_eql_slice_nil w _ _ a n c n' c' Tryz.underlying44
  cases A with
  | none =>
    have hl : xs = [] := by
      cases hl : xs with
      | nil => rfl
      | cons p t =>
        obtain ⟨b, o, e, _⟩ := h.2 0 p (by rw [hl]; rfl)
        cases e
    subst hl
    have h0 : n = 0 := by have := h.1; simp at this; omega
    subst h0
    go_enter Tryz.func125, Tryz.ntmps125
    go_wp2
    go_ret
    exact ⟨none, 0, rfl, Own.nil _ _ _ _, (by repeat (first | exact Below.refl _ _ | assumption | apply Below.drew | apply below_drewN | apply Bel.alloc | (refine Bel.setCell_ ?_ ?_; rotate_left; omega) | (refine Bel.step ?_ (by assumption))))⟩
  | some a =>
    have hb1 : ∀ o, Below w.heap.size w (w.alloc o) := fun o => (Below.refl _ _).alloc (Nat.le_refl _) o
    have hown0 : Own (w.alloc (.cells #[] 2)) w.heap.size 2 1 (some ⟨w.heap.size, 0, none⟩) 0 0 [] := Own.lit w #[] 0 (Nat.le_refl _) (by omega) rfl
    go_enter Tryz.func125, Tryz.ntmps125
    go_wp2_with (at_builtin; with_reducible refine wpList_app rfl (.tmp 5) (.tmp 6) 44 rfl 2 _ 1 8 infoClL Tryz.underlying44 rfl (by omega) (B := w.heap.size) rfl rfl hown0 (h.below (hb1 _)) h1 (by omega) (by omega) (by simp) ?_)
    intro A' c' w' hown hg _
    have hb2 : Below w.heap.size w w' := Bel.grownOwn (hb1 _) hg hown0 (by simp)
    try simp only [Nat.zero_add, List.nil_append] at hown
    have HO := Lib.hid hown
    clear hown hg
    go_wp2
    go_ret
    exact ⟨_, _, rfl, HO.out, hb2⟩
theorem infoClV : (Tryz.prog.info? 148).map (fun i => (i.zero, i.size, i.bytes)) = some (some (.agg #[.int .i64 0, .int .i64 0, .int .i64 0]), 3, 24) := by kernel_rfl
set_option maxHeartbeats 1000000 in
theorem cloneV_any (A : Option Addr) (n c : Nat) (xs : List Value) (w : World) (h : Rds w 3 A n xs) (h1 : ∀ u ∈ xs, u.oneCell' = true) (hn : n ≤ 1000000000) :
    Calls Tryz.prog 126 #[.slice A n c] w fun e w' => ∃ A' c', e = .returned (.slice A' n c') ∧ Own w' w.heap.size 148 3 A' n c' xs ∧ Below w.heap.size w w' := by
  have q22 : ∀ (w : World) (a : Option Addr) (n c n' c' : Nat), (binOp .eql 91 (.slice a n c) (.slice none n' c')).run Tryz.prog w = .ok (.bool a.isNone) w := fun w a n c n' c' => Lib.run_eql_slice_nil w _ _ a n c n' c' Tryz.underlying91
  cases A with
  | none =>
    have hl : xs = [] := by
      cases hl : xs with
      | nil => rfl
      | cons p t =>
        obtain ⟨b, o, e, _⟩ := h.2 0 p (by rw [hl]; rfl)
        cases e
    subst hl
    have h0 : n = 0 := by have := h.1; simp at this; omega
    subst h0
    go_enter Tryz.func126, Tryz.ntmps126
    go_wp2
    go_ret
    exact ⟨none, 0, rfl, Own.nil _ _ _ _, (by repeat (first | exact Below.refl _ _ | assumption | apply Below.drew | apply below_drewN | apply Bel.alloc | (refine Bel.setCell_ ?_ ?_; rotate_left; omega) | (refine Bel.step ?_ (by assumption))))⟩
  | some a =>
    have hb1 : ∀ o, Below w.heap.size w (w.alloc o) := fun o => (Below.refl _ _).alloc (Nat.le_refl _) o
    have hown0 : Own (w.alloc (.cells #[] 148)) w.heap.size 148 3 (some ⟨w.heap.size, 0, none⟩) 0 0 [] := Own.lit w #[] 0 (Nat.le_refl _) (by omega) rfl
    go_enter Tryz.func126, Tryz.ntmps126
    go_wp2_with (at_builtin; with_reducible refine wpList_app rfl (.tmp 5) (.tmp 6) 91 rfl 148 _ 3 24 infoClV Tryz.underlying91 rfl (by omega) (B := w.heap.size) rfl rfl hown0 (h.below (hb1 _)) h1 (by omega) (by omega) (by simp) ?_)
    intro A' c' w' hown hg _
    have hb2 : Below w.heap.size w w' := Bel.grownOwn (hb1 _) hg hown0 (by simp)
    try simp only [Nat.zero_add, List.nil_append] at hown
    have HO := Lib.hid hown
    clear hown hg
    go_wp2
    go_ret
    exact ⟨_, _, rfl, HO.out, hb2⟩
theorem infoClA : (Tryz.prog.info? 111).map (fun i => (i.zero, i.size, i.bytes)) = some (some (.agg #[.int .i64 0, .int .i64 0, .int .i64 0]), 3, 24) := by kernel_rfl
set_option maxHeartbeats 1000000 in
theorem cloneA_any (A : Option Addr) (n c : Nat) (xs : List Value) (w : World) (h : Rds w 3 A n xs) (h1 : ∀ u ∈ xs, u.oneCell' = true) (hn : n ≤ 1000000000) :
    Calls Tryz.prog 127 #[.slice A n c] w fun e w' => ∃ A' c', e = .returned (.slice A' n c') ∧ Own w' w.heap.size 111 3 A' n c' xs ∧ Below w.heap.size w w' := by
  have q22 : ∀ (w : World) (a : Option Addr) (n c n' c' : Nat), (binOp .eql 92 (.slice a n c) (.slice none n' c')).run Tryz.prog w = .ok (.bool a.isNone) w := fun w a n c n' c' => Lib.run_eql_slice_nil w _ _ a n c n' c' Tryz.underlying92
  cases A with
  | none =>
    have hl : xs = [] := by
      cases hl : xs with
      | nil => rfl
      | cons p t =>
        obtain ⟨b, o, e, _⟩ := h.2 0 p (by rw [hl]; rfl)
        cases e
    subst hl
    have h0 : n = 0 := by have := h.1; simp at this; omega
    subst h0
    go_enter Tryz.func127, Tryz.ntmps127
    go_wp2
    go_ret
    exact ⟨none, 0, rfl, Own.nil _ _ _ _, (by repeat (first | exact Below.refl _ _ | assumption | apply Below.drew | apply below_drewN | apply Bel.alloc | (refine Bel.setCell_ ?_ ?_; rotate_left; omega) | (refine Bel.step ?_ (by assumption))))⟩
  | some a =>
    have hb1 : ∀ o, Below w.heap.size w (w.alloc o) := fun o => (Below.refl _ _).alloc (Nat.le_refl _) o
    have hown0 : Own (w.alloc (.cells #[] 111)) w.heap.size 111 3 (some ⟨w.heap.size, 0, none⟩) 0 0 [] := Own.lit w #[] 0 (Nat.le_refl _) (by omega) rfl
    go_enter Tryz.func127, Tryz.ntmps127
    go_wp2_with (at_builtin; with_reducible refine wpList_app rfl (.tmp 5) (.tmp 6) 92 rfl 111 _ 3 24 infoClA Tryz.underlying92 rfl (by omega) (B := w.heap.size) rfl rfl hown0 (h.below (hb1 _)) h1 (by omega) (by omega) (by simp) ?_)
    intro A' c' w' hown hg _
    have hb2 : Below w.heap.size w w' := Bel.grownOwn (hb1 _) hg hown0 (by simp)
    try simp only [Nat.zero_add, List.nil_append] at hown
    have HO := Lib.hid hown
    clear hown hg
    go_wp2
    go_ret
    exact ⟨_, _, rfl, HO.out, hb2⟩
end Go.Proofs.YtgkeolddpielpaaGreat
