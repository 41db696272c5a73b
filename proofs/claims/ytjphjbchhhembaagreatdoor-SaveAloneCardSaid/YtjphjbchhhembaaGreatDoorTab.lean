/- Tables of costs (and rows of routes): readings; Square of roundsmanref28 and of job. -/
import Derived.Test.YtjphjbchhhembaaGreatDoorTells
namespace Go.Proofs.YtjphjbchhhembaaGreatDoor
open Go.RowKit

/-- A slice of slices of ints reads as ls. -/
def RdT (w : World) (A : Option Addr) (n : Nat) (ls : List (List Int)) : Prop :=
  ls.length = n ∧ ∀ i l, ls[i]? = some l → ∃ b o A' n' c', A = some ⟨b, o, none⟩ ∧ w.cell? ⟨b, o + i, none⟩ = some (.slice A' n' c') ∧ RdI w A' n' l ∧ n' ≤ c' ∧ c' ≤ 9223372036854775807
theorem RdT.at_ {w : World} {A : Option Addr} {n i : Nat} {ls : List (List Int)} (h : RdT w A n ls) (hi : i < n) :
    ∃ b o A' n' c' l, A = some ⟨b, o, none⟩ ∧ ls[i]? = some l ∧ w.cell? ⟨b, o + i, none⟩ = some (.slice A' n' c') ∧ RdI w A' n' l ∧ n' ≤ c' ∧ c' ≤ 9223372036854775807 := by
  have hl : i < ls.length := by rw [h.1]; exact hi
  obtain ⟨b, o, A', n', c', h1, h2, h3, h4, h5⟩ := h.2 i _ (List.getElem?_eq_getElem hl)
  exact ⟨b, o, A', n', c', _, h1, List.getElem?_eq_getElem hl, h2, h3, h4, h5⟩
theorem RdT.below {w w' : World} {A : Option Addr} {n : Nat} {ls : List (List Int)} (h : RdT w A n ls) (hb : Below w.heap.size w w') : RdT w' A n ls :=
  ⟨h.1, fun i l hl => by
    obtain ⟨b, o, A', n', c', h1, h2, h3, h4, h5⟩ := h.2 i l hl
    exact ⟨b, o, A', n', c', h1, Below.cellOf hb (Nat.le_refl _) h2, h3.below hb, h4, h5⟩⟩

def costB (c : Int) : Bool := decide (0 ≤ c) && decide (c ≤ INF)
def rowB (n : Nat) (l : List Int) : Bool := l.length == n && l.all costB
def sqB (n : Nat) (ls : List (List Int)) : Bool := ls.length == n && ls.all (rowB n)
theorem sqB_len {n : Nat} {ls : List (List Int)} (h : ls.length ≠ n) : sqB n ls = false := by simp [sqB, h]
theorem sqB_row {n i : Nat} {ls : List (List Int)} {l : List Int} (hl : ls[i]? = some l) (h : rowB n l = false) : sqB n ls = false := by
  unfold sqB
  rw [Bool.and_eq_false_iff]
  right
  rw [List.all_eq_false]
  exact ⟨l, List.mem_of_getElem? hl, by simp [h]⟩
theorem rowB_len {n : Nat} {l : List Int} (h : l.length ≠ n) : rowB n l = false := by simp [rowB, h]
theorem rowB_cost {n i : Nat} {l : List Int} {x : Int} (hl : l[i]? = some x) (h : x < 0 ∨ x > 1152921504606846976) : rowB n l = false := by
  unfold rowB
  rw [Bool.and_eq_false_iff]
  right
  rw [List.all_eq_false]
  exact ⟨x, List.mem_of_getElem? hl, by unfold costB INF; simp; omega⟩
theorem rowB_all {n : Nat} {l : List Int} (hn : l.length = n) (h : ∀ (i : Nat) x, l[i]? = some x → 0 ≤ x ∧ x ≤ 1152921504606846976) : rowB n l = true := by
  unfold rowB
  simp only [hn, beq_self_eq_true, Bool.true_and, List.all_eq_true]
  intro x hx
  obtain ⟨i, hi, e⟩ := List.getElem_of_mem hx
  have := h i x (by rw [List.getElem?_eq_getElem hi, e])
  unfold costB INF
  simp; omega
theorem sqB_all {n : Nat} {ls : List (List Int)} (hn : ls.length = n) (h : ∀ (i : Nat) l, ls[i]? = some l → rowB n l = true) : sqB n ls = true := by
  unfold sqB
  simp only [hn, beq_self_eq_true, Bool.true_and, List.all_eq_true]
  intro x hx
  obtain ⟨i, hi, e⟩ := List.getElem_of_mem hx
  exact h i x (by rw [List.getElem?_eq_getElem hi, e])
theorem sqB_get {n i : Nat} {ls : List (List Int)} {l : List Int} (h : sqB n ls = true) (hl : ls[i]? = some l) : l.length = n ∧ ∀ x ∈ l, 0 ≤ x ∧ x ≤ INF := by
  unfold sqB at h
  simp only [Bool.and_eq_true, List.all_eq_true] at h
  have := h.2 l (List.mem_of_getElem? hl)
  unfold rowB at this
  simp only [Bool.and_eq_true, List.all_eq_true, beq_iff_eq] at this
  exact ⟨this.1, fun x hx => by have := this.2 x hx; unfold costB at this; simpa using this⟩
theorem sqB_size {n : Nat} {ls : List (List Int)} (h : sqB n ls = true) : ls.length = n := by
  unfold sqB at h
  simp only [Bool.and_eq_true, beq_iff_eq] at h
  exact h.1

/-- A Wrong that is OK just where ok. -/
def WOk (ok : Bool) (v : Value) : Prop := ∃ A n m c, v = .agg #[.slice A n m, .int .i64 c] ∧ (c = 0 ↔ ok = true)

theorem Blk.two {w : World} {g : Nat} {t : TypeId} {a b : Value} (h : Blk w g t #[a, b]) :
    w.cell? ⟨g, 0, none⟩ = some a ∧ w.cell? ⟨g, 1, none⟩ = some b ∧ w.frozen? ⟨g, 0, none⟩ = false ∧ w.frozen? ⟨g, 1, none⟩ = false :=
  ⟨by rw [h.cell]; rfl, by rw [h.cell]; rfl, h.frozen 0, h.frozen 1⟩

end Go.Proofs.YtjphjbchhhembaaGreatDoor
