/- Tables in a row of the call's own. -/
import Derived.Test.YtgkeolddpielpaaGreatNt8
namespace Go.Proofs.YtgkeolddpielpaaGreat
open Go.RowKit

/-- Tables in a row of the call's own; their costs lie elsewhere. -/
def YwO (W : World) (B : Nat) (A : Option Addr) (n c : Nat) (xs : List Value) (ls : List TabD) : Prop :=
  Own W B 149 3 A n c xs ∧ ls.length = n ∧ ∀ j t, ls[j]? = some t → ∃ A2 n2 c2, xs[j * 3]? = some (.int .i64 t.ins) ∧ xs[j * 3 + 1]? = some (.int .i64 t.outs) ∧ xs[j * 3 + 2]? = some (.slice A2 n2 c2) ∧ RdI W A2 n2 t.costs ∧ (∀ g, blkOf A2 = some g → B ≤ g ∧ g < W.heap.size ∧ blkOf A ≠ some g) ∧ n2 ≤ c2 ∧ c2 ≤ 9223372036854775807
theorem YwO.nil (W : World) (B : Nat) : YwO W B none 0 0 [] [] := ⟨Own.nil _ _ _ _, rfl, fun j l h => by simp at h⟩
theorem YwO.rdY {W : World} {B n c : Nat} {A : Option Addr} {xs : List Value} {ls : List TabD} (h : YwO W B A n c xs ls) : RdY W A n ls :=
  ⟨h.2.1, fun i t ht => by
    obtain ⟨A2, n2, c2, h1, h2, h3, h4, _, h5, h6⟩ := h.2.2 i t ht
    obtain ⟨b, o, e, k1⟩ := h.1.rds.2 _ _ h1
    obtain ⟨b', o', e', k2⟩ := h.1.rds.2 _ _ h2
    rw [e] at e'; cases e'
    obtain ⟨b', o', e', k3⟩ := h.1.rds.2 _ _ h3
    rw [e] at e'; cases e'
    exact ⟨b, o, e, k1, by rw [Nat.add_assoc]; exact k2, A2, n2, c2, by rw [Nat.add_assoc]; exact k3, h4, h5, h6⟩⟩
theorem YwO.push {W w' : World} {B n c c' m d : Nat} {A A' R : Option Addr} {xs : List Value} {ls : List TabD} {t : TabD} (h : YwO W B A n c xs ls)
    (hown : Own w' B 149 3 A' (n + 1) c' (xs ++ [.int .i64 t.ins, .int .i64 t.outs, .slice R m d])) (hg : W.grownBy w' (blkOf A)) (hat : blkOf A' = blkOf A ∨ blkOf A' = some W.heap.size)
    (hr : RdI W R m t.costs) (hne : ∀ g, blkOf R = some g → B ≤ g ∧ g < W.heap.size ∧ blkOf A ≠ some g) (h4 : m ≤ d) (h5 : d ≤ 9223372036854775807) : YwO w' B A' (n + 1) c' (xs ++ [.int .i64 t.ins, .int .i64 t.outs, .slice R m d]) (ls ++ [t]) := by
  have hxl : xs.length = ls.length * 3 := by rw [h.1.1, h.2.1]
  have new : ∀ Y : Option Addr, (∀ g, blkOf Y = some g → B ≤ g ∧ g < W.heap.size ∧ blkOf A ≠ some g) → ∀ g, blkOf Y = some g → B ≤ g ∧ g < w'.heap.size ∧ blkOf A' ≠ some g := fun Y hY g e => by
    obtain ⟨k0, k1, k2⟩ := hY g e
    refine ⟨k0, Nat.lt_of_lt_of_le k1 hg.size, fun e2 => ?_⟩
    rcases hat with hat | hat
    · exact k2 (by rw [← hat]; exact e2)
    · rw [hat] at e2
      injection e2 with e2
      omega
  refine ⟨hown, by simp [h.2.1], fun j t' hl => ?_⟩
  rcases Nat.lt_trichotomy j ls.length with hj | hj | hj
  · rw [List.getElem?_append_left hj] at hl
    obtain ⟨A2, n2, c2, p1, p2, p3, k2, k3, k4, k5⟩ := h.2.2 j t' hl
    exact ⟨A2, n2, c2, by rw [List.getElem?_append_left (by omega)]; exact p1, by rw [List.getElem?_append_left (by omega)]; exact p2, by rw [List.getElem?_append_left (by omega)]; exact p3, k2.grownN hg (fun g e => (k3 g e).2.2), new A2 k3, k4, k5⟩
  · subst hj
    rw [List.getElem?_append_right (Nat.le_refl _), Nat.sub_self] at hl
    cases hl
    refine ⟨R, m, d, ?_, ?_, ?_, hr.grownN hg (fun g e => (hne g e).2.2), new R hne, h4, h5⟩
    · rw [← hxl, List.getElem?_append_right (Nat.le_refl _), Nat.sub_self]; rfl
    · rw [← hxl, List.getElem?_append_right (by omega), Nat.add_sub_cancel_left]; rfl
    · rw [← hxl, List.getElem?_append_right (by omega), Nat.add_sub_cancel_left]; rfl
  · rw [List.getElem?_eq_none (by simp; omega)] at hl
    cases hl
theorem YwO.below {W W' : World} {B n c : Nat} {A : Option Addr} {xs : List Value} {ls : List TabD} (h : YwO W B A n c xs ls) (hb : Below W.heap.size W W') : YwO W' B A n c xs ls :=
  ⟨h.1.below hb, h.2.1, fun i l hl => by
    obtain ⟨A', n', c', p1, p2, p3, h2, h3, h4, h5⟩ := h.2.2 i l hl
    exact ⟨A', n', c', p1, p2, p3, h2.below hb, fun g hg => ⟨(h3 g hg).1, Nat.lt_of_lt_of_le (h3 g hg).2.1 hb.size, (h3 g hg).2.2⟩, h4, h5⟩⟩
theorem YwO.far {W W' : World} {B n c : Nat} {A : Option Addr} {xs : List Value} {ls : List TabD} (h : YwO W B A n c xs ls) {g : Nat} (hg : W.grownBy W' (some g)) (hB : g < B) : YwO W' B A n c xs ls :=
  ⟨h.1.far hg (.inr (fun e => by have := (h.1.lt g e).1; omega)), h.2.1, fun i l hl => by
    obtain ⟨A', n', c', p1, p2, p3, h2, h3, h4, h5⟩ := h.2.2 i l hl
    refine ⟨A', n', c', p1, p2, p3, h2.grownN hg (fun k hk e => ?_), fun k hk => ⟨(h3 k hk).1, Nat.lt_of_lt_of_le (h3 k hk).2.1 hg.size, (h3 k hk).2.2⟩, h4, h5⟩
    cases e
    have := (h3 g hk).1
    omega⟩
end Go.Proofs.YtgkeolddpielpaaGreat
