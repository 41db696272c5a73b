/- Splits: readings. -/
import Derived.Test.YtjphjbchhhembaaDoorCuQ
import Derived.Test.YtjphjbchhhembaaDoorKit
namespace Go.Proofs.YtjphjbchhhembaaDoor
open Go.RowKit

/-- A slice of splits reads as L. -/
def RdS (w : World) (A : Option Addr) (m : Nat) (L : List Spl) : Prop :=
  L.length = m ∧ ∀ i s, L[i]? = some s → ∃ b o A' n' c', A = some ⟨b, o, none⟩ ∧ w.cell? ⟨b, o + i * 4, none⟩ = some (.slice A' n' c') ∧ w.cell? ⟨b, o + i * 4 + 1, none⟩ = some (.int .i64 s.cross) ∧ w.cell? ⟨b, o + i * 4 + 2, none⟩ = some (.int .i64 s.dir) ∧ w.cell? ⟨b, o + i * 4 + 3, none⟩ = some (.int .i64 s.kind) ∧ RdB w A' n' s.side ∧ n' ≤ c'
theorem RdS.below {w w' : World} {A : Option Addr} {m : Nat} {L : List Spl} (h : RdS w A m L) (hb : Below w.heap.size w w') : RdS w' A m L :=
  ⟨h.1, fun i x hx => by
    obtain ⟨b, o, A', n', c', e, h1, h2, h3, h4, h5, h6⟩ := h.2 i x hx
    exact ⟨b, o, A', n', c', e, Below.cellOf hb (Nat.le_refl _) h1, Below.cellOf hb (Nat.le_refl _) h2, Below.cellOf hb (Nat.le_refl _) h3, Below.cellOf hb (Nat.le_refl _) h4, h5.below hb, h6⟩⟩
theorem RdS.at_ {w : World} {A : Option Addr} {m i : Nat} {L : List Spl} (h : RdS w A m L) (hi : i < m) :
    ∃ b o A' n' c' s, A = some ⟨b, o, none⟩ ∧ L[i]? = some s ∧ w.cell? ⟨b, o + i * 4, none⟩ = some (.slice A' n' c') ∧ w.cell? ⟨b, o + i * 4 + 1, none⟩ = some (.int .i64 s.cross) ∧ w.cell? ⟨b, o + i * 4 + 2, none⟩ = some (.int .i64 s.dir) ∧ w.cell? ⟨b, o + i * 4 + 3, none⟩ = some (.int .i64 s.kind) ∧ RdB w A' n' s.side ∧ n' ≤ c' := by
  have hl : i < L.length := by rw [h.1]; exact hi
  obtain ⟨b, o, A', n', c', h1, h2⟩ := h.2 i _ (List.getElem?_eq_getElem hl)
  exact ⟨b, o, A', n', c', _, h1, List.getElem?_eq_getElem hl, h2⟩
theorem RdB.grownN {w w' : World} {A : Option Addr} {n : Nat} {r : Option Nat} {l : List Bool} (h : RdB w A n l) (hg : w.grownBy w' r) (hne : ∀ g, blkOf A = some g → r ≠ some g) : RdB w' A n l :=
  ⟨h.1, fun i x hx => by
    obtain ⟨b, o, e, hc⟩ := h.2 i x hx
    subst e
    refine ⟨b, o, rfl, ?_⟩
    have hb := lt_of_cell hc
    have := hg.block b hb (fun e => hne b rfl e.symm)
    unfold World.cell? at hc ⊢
    rw [this]
    exact hc⟩

/-- splits as cells: of each the slice of its side -/
def scells : List (Value × Spl) → List Value
  | [] => []
  | p :: t => p.1 :: .int .i64 p.2.cross :: .int .i64 p.2.dir :: .int .i64 p.2.kind :: scells t
theorem scells_len : ∀ l : List (Value × Spl), (scells l).length = l.length * 4
  | [] => rfl
  | _ :: t => by simp [scells, scells_len t]; omega
theorem scells_app : ∀ l m : List (Value × Spl), scells (l ++ m) = scells l ++ scells m
  | [], _ => rfl
  | p :: t, m => by simp [scells, scells_app t m]
theorem scells_get : ∀ {l : List (Value × Spl)} {i : Nat} {p : Value × Spl}, l[i]? = some p → (scells l)[i * 4]? = some p.1 ∧ (scells l)[i * 4 + 1]? = some (.int .i64 p.2.cross) ∧ (scells l)[i * 4 + 2]? = some (.int .i64 p.2.dir) ∧ (scells l)[i * 4 + 3]? = some (.int .i64 p.2.kind)
  | [], i, p, h => by simp at h
  | q :: t, 0, p, h => by simp at h; subst h; simp [scells]
  | q :: t, i + 1, p, h => by
    have := scells_get (l := t) (i := i) (p := p) (by simpa using h)
    rw [show (i + 1) * 4 = i * 4 + 1 + 1 + 1 + 1 by omega, show i * 4 + 1 + 1 + 1 + 1 + 1 = (i * 4 + 1) + 1 + 1 + 1 + 1 by omega, show i * 4 + 1 + 1 + 1 + 1 + 2 = (i * 4 + 2) + 1 + 1 + 1 + 1 by omega, show i * 4 + 1 + 1 + 1 + 1 + 3 = (i * 4 + 3) + 1 + 1 + 1 + 1 by omega]
    simpa [scells] using this
/-- The slice lies, and reads as the split's side. -/
def SideAt (W : World) (A : Option Addr) (p : Value × Spl) : Prop := ∃ A' n' c', p.1 = .slice A' n' c' ∧ RdB W A' n' p.2.side ∧ n' ≤ c' ∧ ∀ g, blkOf A' = some g → g < W.heap.size ∧ blkOf A ≠ some g
theorem SideAt.below {W W' : World} {A : Option Addr} {p : Value × Spl} (h : SideAt W A p) (hb : Below W.heap.size W W') : SideAt W' A p := by
  obtain ⟨A', n', c', h1, h2, h3, h4⟩ := h
  exact ⟨A', n', c', h1, h2.below hb, h3, fun g hg => ⟨Nat.lt_of_lt_of_le (h4 g hg).1 hb.size, (h4 g hg).2⟩⟩
theorem SideAt.next {W w' : World} {A A' : Option Addr} {p : Value × Spl} (h : SideAt W A p) (hg : W.grownBy w' (blkOf A)) (hat : blkOf A' = blkOf A ∨ blkOf A' = some W.heap.size) : SideAt w' A' p := by
  obtain ⟨R, n', c', h1, h2, h3, h4⟩ := h
  refine ⟨R, n', c', h1, h2.grownN hg (fun g e => (h4 g e).2), h3, fun g e => ?_⟩
  obtain ⟨k1, k2⟩ := h4 g e
  refine ⟨Nat.lt_of_lt_of_le k1 hg.size, fun e2 => ?_⟩
  rcases hat with hat | hat
  · exact k2 (by rw [← hat]; exact e2)
  · rw [hat] at e2
    injection e2 with e2
    omega
/-- A row of splits of the call's own, the sides lie elsewhere. -/
def SpO (W : World) (B : Nat) (t : TypeId) (A : Option Addr) (n c : Nat) (L : List (Value × Spl)) : Prop :=
  Own W B t 4 A n c (scells L) ∧ L.length = n ∧ ∀ p ∈ L, SideAt W A p
theorem SpO.nil (W : World) (B : Nat) (t : TypeId) : SpO W B t none 0 0 [] := ⟨Own.nil _ _ _ _, rfl, fun p h => by cases h⟩
theorem SpO.below {W W' : World} {B n c : Nat} {t : TypeId} {A : Option Addr} {L : List (Value × Spl)} (h : SpO W B t A n c L) (hb : Below W.heap.size W W') : SpO W' B t A n c L :=
  ⟨h.1.below hb, h.2.1, fun p hp => (h.2.2 p hp).below hb⟩
theorem SpO.rdS {W : World} {B n c : Nat} {t : TypeId} {A : Option Addr} {L : List (Value × Spl)} (h : SpO W B t A n c L) : RdS W A n (L.map (·.2)) :=
  ⟨by rw [List.length_map]; exact h.2.1, fun i s hs => by
    rw [List.getElem?_map] at hs
    cases e : L[i]? with
    | none => rw [e] at hs; cases hs
    | some p =>
      rw [e] at hs
      cases hs
      obtain ⟨A', n', c', h1, h2, h3, _⟩ := h.2.2 p (List.mem_of_getElem? e)
      obtain ⟨g1, g2, g3, g4⟩ := scells_get e
      rw [h1] at g1
      obtain ⟨b, o, ea, k1⟩ := h.1.rds.2 _ _ g1
      obtain ⟨b', o', ea', k2⟩ := h.1.rds.2 _ _ g2
      rw [ea] at ea'; cases ea'
      obtain ⟨b', o', ea', k3⟩ := h.1.rds.2 _ _ g3
      rw [ea] at ea'; cases ea'
      obtain ⟨b', o', ea', k4⟩ := h.1.rds.2 _ _ g4
      rw [ea] at ea'; cases ea'
      exact ⟨b, o, A', n', c', ea, k1, by rw [Nat.add_assoc]; exact k2, by rw [Nat.add_assoc]; exact k3, by rw [Nat.add_assoc]; exact k4, h2, h3⟩⟩
theorem SpO.push {W w' : World} {B n c c' m : Nat} {t : TypeId} {A A' : Option Addr} {L M : List (Value × Spl)} (h : SpO W B t A n c L)
    (hown : Own w' B t 4 A' (n + m) c' (scells L ++ scells M)) (hg : W.grownBy w' (blkOf A)) (hat : blkOf A' = blkOf A ∨ blkOf A' = some W.heap.size)
    (hm : M.length = m) (hM : ∀ p ∈ M, SideAt W A p) : SpO w' B t A' (n + m) c' (L ++ M) :=
  ⟨by rw [scells_app]; exact hown, by rw [List.length_append, h.2.1, hm], fun p hp => by
    rcases List.mem_append.1 hp with hp | hp
    · exact (h.2.2 p hp).next hg hat
    · exact (hM p hp).next hg hat⟩
theorem scells_one {W : World} {A : Option Addr} : ∀ {L : List (Value × Spl)}, (∀ p ∈ L, SideAt W A p) → ∀ u ∈ scells L, u.oneCell' = true
  | [], _ => fun u hu => by cases hu
  | p :: t, h => by
    intro u hu
    obtain ⟨A', n', c', h1, _⟩ := h p (List.mem_cons_self ..)
    simp only [scells, List.mem_cons] at hu
    rcases hu with rfl | rfl | rfl | rfl | hu
    · rw [h1]; rfl
    · rfl
    · rfl
    · rfl
    · exact scells_one (fun q hq => h q (List.mem_cons_of_mem _ hq)) u hu
end Go.Proofs.YtjphjbchhhembaaDoor
