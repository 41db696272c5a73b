/- Tables of the call's own: each row in a block of its own; stops of the call's own. -/
import Derived.Test.YtjphjbchhhembaaGreatDoorRwO
namespace Go.Proofs.YtjphjbchhhembaaGreatDoor
open Go.RowKit

/-- Row i of a table: its block, its cells. -/
def MatR (W : World) (A : Option Addr) (m i g : Nat) (l : List Int) : Prop :=
  ∃ b o c' cs, A = some ⟨b, o, none⟩ ∧ W.cell? ⟨b, o + i, none⟩ = some (.slice (some ⟨g, 0, none⟩) m c') ∧ Blk W g 2 cs ∧ l.length = m ∧ (∀ (j : Nat) (x : Int), l[j]? = some x → cs[j]? = some (.int .i64 x)) ∧ m ≤ c' ∧ c' ≤ 9223372036854775807
def Mat (W : World) (A : Option Addr) (n m : Nat) (gs : List Nat) (ls : List (List Int)) : Prop :=
  ls.length = n ∧ gs.length = n ∧ gs.Nodup ∧ (∀ g ∈ gs, blkOf A ≠ some g) ∧ ∀ (i : Nat) (l : List Int) (g : Nat), ls[i]? = some l → gs[i]? = some g → MatR W A m i g l
theorem MatR.below {W W' : World} {A : Option Addr} {m i g : Nat} {l : List Int} (h : MatR W A m i g l) (hb : Below W.heap.size W W') : MatR W' A m i g l := by
  obtain ⟨b, o, c', cs, h1, h2, h3, h4, h5, h6, h7⟩ := h
  exact ⟨b, o, c', cs, h1, Below.cellOf hb (Nat.le_refl _) h2, h3.below hb h3.lt, h4, h5, h6, h7⟩
theorem Mat.below {W W' : World} {A : Option Addr} {n m : Nat} {gs : List Nat} {ls : List (List Int)} (h : Mat W A n m gs ls) (hb : Below W.heap.size W W') : Mat W' A n m gs ls :=
  ⟨h.1, h.2.1, h.2.2.1, h.2.2.2.1, fun i l g hl hg => (h.2.2.2.2 i l g hl hg).below hb⟩
theorem Mat.row {W : World} {A : Option Addr} {n m i : Nat} {gs : List Nat} {ls : List (List Int)} (h : Mat W A n m gs ls) (hi : i < n) : ∃ l g, ls[i]? = some l ∧ gs[i]? = some g ∧ MatR W A m i g l := by
  have h1 : i < ls.length := by rw [h.1]; exact hi
  have h2 : i < gs.length := by rw [h.2.1]; exact hi
  exact ⟨_, _, List.getElem?_eq_getElem h1, List.getElem?_eq_getElem h2, h.2.2.2.2 i _ _ (List.getElem?_eq_getElem h1) (List.getElem?_eq_getElem h2)⟩
theorem Mat.rdT {W : World} {A : Option Addr} {n m : Nat} {gs : List Nat} {ls : List (List Int)} (h : Mat W A n m gs ls) : RdT W A n ls :=
  ⟨h.1, fun i l hl => by
    have hi : i < n := by rw [← h.1]; exact (List.getElem?_eq_some_iff.1 hl).1
    obtain ⟨l', g, hl', hg, b, o, c', cs, h1, h2, h3, h4, h5, h6, h7⟩ := h.row hi
    rw [hl] at hl'
    cases hl'
    exact ⟨b, o, _, m, c', h1, h2, ⟨h4, fun j x hx => ⟨g, 0, rfl, by rw [Nat.zero_add, h3.cell]; exact h5 j x hx⟩⟩, h6, h7⟩⟩
/-- One cost of a table is another. -/
theorem Mat.set {W : World} {A : Option Addr} {n m i j g : Nat} {gs : List Nat} {ls : List (List Int)} {l : List Int} {v : Int} (h : Mat W A n m gs ls) (hl : ls[i]? = some l) (hg : gs[i]? = some g) (hj : j < m) : Mat (W.setCell ⟨g, j, none⟩ (.int .i64 v)) A n m gs (ls.set i (l.set j v)) := by
  obtain ⟨h1, h2, h3, h4, h5⟩ := h
  have hi := (List.getElem?_eq_some_iff.1 hl).1
  refine ⟨by rw [List.length_set]; exact h1, h2, h3, h4, fun i' l' g' hl' hg' => ?_⟩
  have hne : blkOf A ≠ some g := h4 g (List.mem_of_getElem? hg)
  by_cases e : i = i'
  · subst e
    rw [hg] at hg'
    cases hg'
    rw [List.getElem?_set_self hi] at hl'
    cases hl'
    obtain ⟨b, o, c', cs, k1, k2, k3, k4, k5, k6, k7⟩ := h5 i l g hl hg
    have hb : b ≠ g := fun e => hne (by rw [k1, e]; rfl)
    refine ⟨b, o, c', _, k1, ?_, k3.set_ j _, by rw [List.length_set]; exact k4, fun j' x hx => ?_, k6, k7⟩
    · rw [World.cell?_setCell_other _ _ _ _ (fun e => hb (by injection e with e1; exact e1.symm))]
      exact k2
    · by_cases ej : j = j'
      · subst ej
        rw [List.getElem?_set_self (by omega)] at hx
        cases hx
        obtain ⟨y, hy⟩ : ∃ y, l[j]? = some y := ⟨_, List.getElem?_eq_getElem (by omega)⟩
        have hlt := (Array.getElem?_eq_some_iff.1 (k5 j y hy)).1
        rw [Array.getElem?_setIfInBounds_self_of_lt hlt]
      · rw [List.getElem?_set_ne ej] at hx
        rw [Array.getElem?_setIfInBounds_ne ej]
        exact k5 j' x hx
  · rw [List.getElem?_set_ne e] at hl'
    obtain ⟨b, o, c', cs, k1, k2, k3, k4, k5, k6, k7⟩ := h5 i' l' g' hl' hg'
    have hb : b ≠ g := fun e => hne (by rw [k1, e]; rfl)
    have hgg : g' ≠ g := fun e2 => e (by
      subst e2
      have l1 := (List.getElem?_eq_some_iff.1 hg).1
      have l2 := (List.getElem?_eq_some_iff.1 hg').1
      exact (List.getElem?_inj l1 h3).1 (hg.trans hg'.symm))
    refine ⟨b, o, c', cs, k1, ?_, k3.far_ hgg _, k4, k5, k6, k7⟩
    rw [World.cell?_setCell_other _ _ _ _ (fun e => hb (by injection e with e1; exact e1.symm))]
    exact k2

theorem pcells_set : ∀ {l : List (Int × Int)} {k : Nat} {p : Int × Int} (y : Int), l[k]? = some p → (pcells l).set (k * 2 + 1) (.int .i64 y) = pcells (l.set k (p.1, y))
  | [], k, p, y, h => by simp at h
  | q :: t, 0, p, y, h => by
    simp at h
    subst h
    simp [pcells]
  | q :: t, k + 1, p, y, h => by
    have := pcells_set (l := t) (k := k) (p := p) y (by simpa using h)
    rw [show (k + 1) * 2 + 1 = k * 2 + 1 + 1 + 1 by omega]
    simp only [pcells, List.set_cons_succ, this]
/-- One load of stops of the call's own is another. -/
theorem Own.setP {W : World} {B n c k g o : Nat} {e : TypeId} {l : List (Int × Int)} {p : Int × Int} {y : Int} (h : Own W B e 2 (some ⟨g, o, none⟩) n c (pcells l)) (hp : l[k]? = some p) : Own (W.setCell ⟨g, o + k * 2 + 1, none⟩ (.int .i64 y)) B e 2 (some ⟨g, o, none⟩) n c (pcells (l.set k (p.1, y))) := by
  have hln := h.1
  rw [pcells_len] at hln
  have hk := (List.getElem?_eq_some_iff.1 hp).1
  refine ⟨by rw [pcells_len, List.length_set]; omega, ?_⟩
  rcases h.2 with ⟨h', _⟩ | ⟨g', cap', cur, h1, h2, h3, h4, h5, h6, h7⟩
  · cases h'
  · cases h1
    refine Or.inr ⟨g, c, cur.setIfInBounds (0 + k * 2 + 1) (.int .i64 y), rfl, h2, (show Blk W g e cur from h3).set_ (0 + k * 2 + 1) _, h4, h5, by simpa using h6, ?_⟩
    rw [Array.toList_setIfInBounds, List.take_set, h7, Nat.zero_add, pcells_set y hp]
end Go.Proofs.YtjphjbchhhembaaGreatDoor
