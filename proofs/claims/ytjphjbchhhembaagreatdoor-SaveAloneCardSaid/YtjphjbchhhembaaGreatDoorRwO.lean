/- Rows of ints in a row of the call's own. -/
import Derived.Test.YtjphjbchhhembaaGreatDoorTo
namespace Go.Proofs.YtjphjbchhhembaaGreatDoor
open Go.RowKit

/-- A row of the call's own, of rows that lie elsewhere. -/
def RwO (W : World) (B : Nat) (t : TypeId) (A : Option Addr) (n c : Nat) (xs : List Value) (ls : List (List Int)) : Prop :=
  Own W B t 1 A n c xs ∧ ls.length = n ∧ ∀ (j : Nat) (l : List Int), ls[j]? = some l → ∃ A' n' c', xs[j]? = some (.slice A' n' c') ∧ RdI W A' n' l ∧ (∀ g, blkOf A' = some g → g < W.heap.size ∧ blkOf A ≠ some g) ∧ n' ≤ c' ∧ c' ≤ 9223372036854775807
theorem RwO.nil (W : World) (B : Nat) (t : TypeId) : RwO W B t none 0 0 [] [] := ⟨Own.nil _ _ _ _, rfl, fun j l h => by simp at h⟩
theorem RwO.rdT {W : World} {B n c : Nat} {t : TypeId} {A : Option Addr} {xs : List Value} {ls : List (List Int)} (h : RwO W B t A n c xs ls) : RdT W A n ls :=
  ⟨h.2.1, fun i l hl => by
    obtain ⟨A', n', c', h1, h2, _, h4, h5⟩ := h.2.2 i l hl
    obtain ⟨b, o, e, hc⟩ := h.1.rds.2 i _ h1
    exact ⟨b, o, A', n', c', e, hc, h2, h4, h5⟩⟩
theorem RwO.below {W W' : World} {B n c : Nat} {t : TypeId} {A : Option Addr} {xs : List Value} {ls : List (List Int)} (h : RwO W B t A n c xs ls) (hb : Below W.heap.size W W') : RwO W' B t A n c xs ls :=
  ⟨h.1.below hb, h.2.1, fun i l hl => by
    obtain ⟨A', n', c', h1, h2, h3, h4, h5⟩ := h.2.2 i l hl
    exact ⟨A', n', c', h1, h2.below hb, fun g hg => ⟨Nat.lt_of_lt_of_le (h3 g hg).1 hb.size, (h3 g hg).2⟩, h4, h5⟩⟩
theorem RdK.grownN {k : IntKind} {w w' : World} {A : Option Addr} {n : Nat} {r : Option Nat} {l : List Int} (h : RdK k w A n l) (hg : w.grownBy w' r) (hne : ∀ g, blkOf A = some g → r ≠ some g) : RdK k w' A n l :=
  ⟨h.1, fun i x hx => by
    obtain ⟨b, o, e, hc⟩ := h.2 i x hx
    subst e
    refine ⟨b, o, rfl, ?_⟩
    have hb := lt_of_cell hc
    have := hg.block b hb (fun e => hne b rfl e.symm)
    unfold World.cell? at hc ⊢
    rw [this]
    exact hc⟩
/-- One row more. -/
theorem RwO.push {W w' : World} {B n c c' m d : Nat} {t : TypeId} {A A' R : Option Addr} {xs : List Value} {ls : List (List Int)} {l : List Int} (h : RwO W B t A n c xs ls)
    (hown : Own w' B t 1 A' (n + 1) c' (xs ++ [.slice R m d])) (hg : W.grownBy w' (blkOf A)) (hat : blkOf A' = blkOf A ∨ blkOf A' = some W.heap.size)
    (hr : RdI W R m l) (hne : ∀ g, blkOf R = some g → g < W.heap.size ∧ blkOf A ≠ some g) (h4 : m ≤ d) (h5 : d ≤ 9223372036854775807) : RwO w' B t A' (n + 1) c' (xs ++ [.slice R m d]) (ls ++ [l]) := by
  have hxl : xs.length = ls.length := by rw [h.1.1, h.2.1]; omega
  have new : ∀ Y : Option Addr, (∀ g, blkOf Y = some g → g < W.heap.size ∧ blkOf A ≠ some g) → ∀ g, blkOf Y = some g → g < w'.heap.size ∧ blkOf A' ≠ some g := fun Y hY g e => by
    obtain ⟨k1, k2⟩ := hY g e
    refine ⟨Nat.lt_of_lt_of_le k1 hg.size, fun e2 => ?_⟩
    rcases hat with hat | hat
    · exact k2 (by rw [← hat]; exact e2)
    · rw [hat] at e2
      injection e2 with e2
      omega
  refine ⟨hown, by simp [h.2.1], fun j l' hl => ?_⟩
  rcases Nat.lt_trichotomy j ls.length with hj | hj | hj
  · rw [List.getElem?_append_left hj] at hl
    obtain ⟨A2, n2, c2, k1, k2, k3, k4, k5⟩ := h.2.2 j l' hl
    exact ⟨A2, n2, c2, by rw [List.getElem?_append_left (by omega)]; exact k1, k2.grownN hg (fun g e => (k3 g e).2), new A2 k3, k4, k5⟩
  · subst hj
    rw [List.getElem?_append_right (Nat.le_refl _), Nat.sub_self] at hl
    cases hl
    exact ⟨R, m, d, by rw [← hxl, List.getElem?_append_right (Nat.le_refl _), Nat.sub_self]; rfl, hr.grownN hg (fun g e => (hne g e).2), new R hne, h4, h5⟩
  · rw [List.getElem?_eq_none (by simp; omega)] at hl
    cases hl
theorem slice_one (R : Option Addr) (m d : Nat) : ∀ u ∈ [Value.slice R m d], u.oneCell' = true := by
  intro u hu
  simp at hu
  rw [hu]
  rfl
end Go.Proofs.YtjphjbchhhembaaGreatDoor
