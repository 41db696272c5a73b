/- save.List: the savings of a table, sorted. -/
import Derived.Test.YtjphjbchhhembaaGreatDoorSort
import Derived.Lib.SliceRun
namespace Go.Proofs.YtjphjbchhhembaaGreatDoor
open Go.RowKit

attribute [local go_sem ↓] Go.wp_at_zero Go.wp_at_succ

theorem infoSv : (Tryz.prog.info? 50).map (fun i => (i.zero, i.size, i.bytes)) = some (some (.agg #[.int .i64 0, .int .i64 0, .int .i64 0]), 3, 24) := by kernel_rfl

theorem scells_at : ∀ {l : List Sv} {j : Nat} {u : Value}, (scells l)[j]? = some u → ∃ p, l[j / 3]? = some p ∧ ((j % 3 = 0 ∧ u = .int .i64 p.1) ∨ (j % 3 = 1 ∧ u = .int .i64 p.2.1) ∨ (j % 3 = 2 ∧ u = .int .i64 p.2.2))
  | [], j, u, h => by simp [scells] at h
  | q :: t, 0, u, h => by simp [scells] at h; exact ⟨q, by simp, .inl ⟨rfl, h.symm⟩⟩
  | q :: t, 1, u, h => by simp [scells] at h; exact ⟨q, by simp, .inr (.inl ⟨rfl, h.symm⟩)⟩
  | q :: t, 2, u, h => by simp [scells] at h; exact ⟨q, by simp, .inr (.inr ⟨rfl, h.symm⟩)⟩
  | q :: t, j + 3, u, h => by
    obtain ⟨p, h1, h2⟩ := scells_at (l := t) (j := j) (u := u) (by simpa [scells] using h)
    refine ⟨p, ?_, ?_⟩
    · rw [show (j + 3) / 3 = j / 3 + 1 by omega]; simpa using h1
    · rw [show (j + 3) % 3 = j % 3 by omega]; exact h2
theorem RdS.rds {w : World} {n : Nat} {A : Option Addr} {l : List Sv} (h : RdS w A n l) : Rds w 3 A n (scells l) :=
  ⟨by rw [scells_len, h.1], fun j u hu => by
    obtain ⟨p, hp, hu'⟩ := scells_at hu
    obtain ⟨b, o, e, h1, h2, h3⟩ := h.2 _ p hp
    refine ⟨b, o, e, ?_⟩
    rcases hu' with ⟨hm, rfl⟩ | ⟨hm, rfl⟩ | ⟨hm, rfl⟩
    · rw [show o + j = o + j / 3 * 3 by omega]; exact h1
    · rw [show o + j = o + j / 3 * 3 + 1 by omega]; exact h2
    · rw [show o + j = o + j / 3 * 3 + 2 by omega]; exact h3⟩

set_option maxHeartbeats 1000000 in
theorem cloneSv_any (A : Option Addr) (n c : Nat) (l : List Sv) (w : World) (h : RdS w A n l) (hn : n ≤ 1000000000) :
    Calls Tryz.prog 39 #[.slice A n c] w fun e w' => ∃ A' c', e = .returned (.slice A' n c') ∧ RdS w' A' n l ∧ (∀ g, g < w.heap.size → blkOf A' ≠ some g) ∧ Below w.heap.size w w' := by
  have q22 : ∀ (w : World) (a : Option Addr) (n c n' c' : Nat), (binOp .eql 47 (.slice a n c) (.slice none n' c')).run Tryz.prog w = .ok (.bool a.isNone) w := fun w a n c n' c' => Lib.run_eql_slice_nil w _ _ a n c n' c' Tryz.underlying47
  cases A with
  | none =>
    have hl : l = [] := by
      cases hl : l with
      | nil => rfl
      | cons p t =>
        obtain ⟨b, o, e, _⟩ := h.2 0 p (by rw [hl]; rfl)
        cases e
    subst hl
    have h0 : n = 0 := by have := h.1; simpa using this.symm
    subst h0
    have H := Lib.hid h
    clear h
    go_enter Tryz.func39, Tryz.ntmps39
    go_wp2
    go_ret
    exact ⟨none, 0, rfl, H.out, (fun g _ e => by cases e), (by repeat (first | exact Below.refl _ _ | assumption | apply Below.drew | apply below_drewN | apply Bel.alloc | (refine Bel.setCell_ ?_ ?_; rotate_left; omega) | (refine Bel.step ?_ (by assumption))))⟩
  | some a =>
    have hb1 : ∀ o, Below w.heap.size w (w.alloc o) := fun o => (Below.refl _ _).alloc (Nat.le_refl _) o
    have hown0 : Own (w.alloc (.cells #[] 50)) w.heap.size 50 3 (some ⟨w.heap.size, 0, none⟩) 0 0 [] := Own.lit w #[] 0 (Nat.le_refl _) (by omega) rfl
    go_enter Tryz.func39, Tryz.ntmps39
    go_wp2_with (at_builtin; with_reducible refine wpList_app rfl (.tmp 5) (.tmp 6) 47 rfl 50 _ 3 24 infoSv Tryz.underlying47 rfl (by omega) (B := w.heap.size) rfl rfl hown0 (h.below (hb1 _)).rds (scells_one _) (by omega) (by omega) (by simp) ?_)
    intro A' c' w' hown hg _
    have hb2 : Below w.heap.size w w' := Bel.grownOwn (hb1 _) hg hown0 (by simp)
    go_wp2
    go_ret
    exact ⟨_, _, rfl, (by simpa using hown.rds : Rds w' 3 A' n (scells l)).rdS, (fun g hg2 e => by have := (hown.lt g e).1; omega), hb2⟩

/-- What is saved where stop b + 1 is come to from stop a + 1. -/
def svOf (ls : List (List Int)) (a b : Nat) : List Sv :=
  if a = b ∨ stepC ls (a + 1) 0 ≥ INF ∨ stepC ls 0 (b + 1) ≥ INF ∨ stepC ls (a + 1) (b + 1) ≥ INF ∨ stepC ls (a + 1) 0 + stepC ls 0 (b + 1) - stepC ls (a + 1) (b + 1) ≤ 0 then []
  else [((a : Int) + 1, (b : Int) + 1, stepC ls (a + 1) 0 + stepC ls 0 (b + 1) - stepC ls (a + 1) (b + 1))]
def rowSv (ls : List (List Int)) (a m : Nat) : List Sv := (List.range m).flatMap (svOf ls a)
def rawSv (ls : List (List Int)) (N k : Nat) : List Sv := (List.range k).flatMap (fun a => rowSv ls a N)
theorem rowSv_next (ls : List (List Int)) (a m : Nat) : rowSv ls a (m + 1) = rowSv ls a m ++ svOf ls a m := by
  unfold rowSv
  rw [List.range_succ, List.flatMap_append]
  simp
theorem rawSv_next (ls : List (List Int)) (N k : Nat) : rawSv ls N (k + 1) = rawSv ls N k ++ rowSv ls k N := by
  unfold rawSv
  rw [List.range_succ, List.flatMap_append]
  simp
theorem svOf_len (ls : List (List Int)) (a b : Nat) : (svOf ls a b).length ≤ 1 := by unfold svOf; split <;> simp
theorem rowSv_len (ls : List (List Int)) (a : Nat) : ∀ m, (rowSv ls a m).length ≤ m
  | 0 => by simp [rowSv]
  | m + 1 => by
    rw [rowSv_next, List.length_append]
    have := rowSv_len ls a m
    have := svOf_len ls a m
    omega
theorem rawSv_len (ls : List (List Int)) (N : Nat) : ∀ k, (rawSv ls N k).length ≤ k * N
  | 0 => by simp [rawSv]
  | k + 1 => by
    rw [rawSv_next, List.length_append, Nat.add_mul]
    have := rawSv_len ls N k
    have := rowSv_len ls k N
    omega

theorem svOf_mem {ls : List (List Int)} {a b : Nat} {x : Sv} (h : x ∈ svOf ls a b) : x.1 = (a : Int) + 1 ∧ x.2.1 = (b : Int) + 1 := by
  unfold svOf at h
  split at h
  · cases h
  · simp only [List.mem_singleton] at h
    subst h
    exact ⟨rfl, rfl⟩
theorem rowSv_mem {ls : List (List Int)} {a m : Nat} {x : Sv} (h : x ∈ rowSv ls a m) : ∃ b, b < m ∧ x ∈ svOf ls a b := by
  unfold rowSv at h
  simpa using h
theorem rawSv_mem {ls : List (List Int)} {N k : Nat} {x : Sv} (h : x ∈ rawSv ls N k) : ∃ a b, a < k ∧ b < N ∧ x ∈ svOf ls a b := by
  unfold rawSv at h
  obtain ⟨a, ha, hx⟩ := List.mem_flatMap.1 h
  obtain ⟨b, hb, hx⟩ := rowSv_mem hx
  exact ⟨a, b, by simpa using ha, hb, hx⟩
theorem rowSv_nodup (ls : List (List Int)) (a : Nat) : ∀ m, (rowSv ls a m).Nodup
  | 0 => by simp [rowSv]
  | m + 1 => by
    rw [rowSv_next, List.nodup_append]
    refine ⟨rowSv_nodup ls a m, ?_, fun x hx y hy e => ?_⟩
    · unfold svOf; split <;> simp
    · obtain ⟨b, hb, hx⟩ := rowSv_mem hx
      have h1 := (svOf_mem hx).2
      have h2 := (svOf_mem hy).2
      rw [e] at h1
      omega
theorem rawSv_nodup (ls : List (List Int)) (N : Nat) : ∀ k, (rawSv ls N k).Nodup
  | 0 => by simp [rawSv]
  | k + 1 => by
    rw [rawSv_next, List.nodup_append]
    refine ⟨rawSv_nodup ls N k, rowSv_nodup ls k N, fun x hx y hy e => ?_⟩
    obtain ⟨a, b, ha, hb, hx⟩ := rawSv_mem hx
    obtain ⟨b', hb', hy⟩ := rowSv_mem hy
    have h1 := (svOf_mem hx).1
    have h2 := (svOf_mem hy).1
    rw [e] at h1
    omega
end Go.Proofs.YtjphjbchhhembaaGreatDoor
