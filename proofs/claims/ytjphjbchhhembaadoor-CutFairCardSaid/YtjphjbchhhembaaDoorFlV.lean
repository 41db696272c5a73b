/- Links: an edge seen from one of its ends; readings. -/
import Derived.Test.YtjphjbchhhembaaDoorKit
import Derived.Test.YtjphjbchhhembaaDoorFlP
namespace Go.Proofs.YtjphjbchhhembaaDoor
open Go.RowKit

/-- edge, from, to, way -/
structure Lnk where
  e : Nat
  u : Nat
  v : Nat
  y : Int
def lcells : List Lnk → List Value
  | [] => []
  | k :: t => .int .i64 k.e :: .int .i64 k.u :: .int .i64 k.v :: .int .i64 k.y :: lcells t
theorem lcells_len : ∀ l : List Lnk, (lcells l).length = l.length * 4
  | [] => rfl
  | _ :: t => by simp [lcells, lcells_len t]; omega
theorem lcells_app : ∀ l m : List Lnk, lcells (l ++ m) = lcells l ++ lcells m
  | [], _ => rfl
  | p :: t, m => by simp [lcells, lcells_app t m]
theorem lcells_get : ∀ {l : List Lnk} {i : Nat} {p : Lnk}, l[i]? = some p → (lcells l)[i * 4]? = some (.int .i64 p.e) ∧ (lcells l)[i * 4 + 1]? = some (.int .i64 p.u) ∧ (lcells l)[i * 4 + 2]? = some (.int .i64 p.v) ∧ (lcells l)[i * 4 + 3]? = some (.int .i64 p.y)
  | [], i, p, h => by simp at h
  | q :: t, 0, p, h => by simp at h; subst h; simp [lcells]
  | q :: t, i + 1, p, h => by
    have := lcells_get (l := t) (i := i) (p := p) (by simpa using h)
    rw [show (i + 1) * 4 = i * 4 + 1 + 1 + 1 + 1 by omega, show i * 4 + 1 + 1 + 1 + 1 + 1 = (i * 4 + 1) + 1 + 1 + 1 + 1 by omega, show i * 4 + 1 + 1 + 1 + 1 + 2 = (i * 4 + 2) + 1 + 1 + 1 + 1 by omega, show i * 4 + 1 + 1 + 1 + 1 + 3 = (i * 4 + 3) + 1 + 1 + 1 + 1 by omega]
    simpa [lcells] using this
theorem lcells_one (l : List Lnk) : ∀ u ∈ lcells l, u.oneCell' = true := by
  induction l with
  | nil => intro u hu; cases hu
  | cons k t ih =>
    intro u hu
    simp only [lcells, List.mem_cons] at hu
    rcases hu with rfl | rfl | rfl | rfl | hu
    · rfl
    · rfl
    · rfl
    · rfl
    · exact ih u hu
/-- A slice of links reads as l. -/
def RdL (w : World) (A : Option Addr) (n : Nat) (l : List Lnk) : Prop :=
  l.length = n ∧ ∀ i x, l[i]? = some x → ∃ b o, A = some ⟨b, o, none⟩ ∧ w.cell? ⟨b, o + i * 4, none⟩ = some (.int .i64 x.e) ∧ w.cell? ⟨b, o + i * 4 + 1, none⟩ = some (.int .i64 x.u) ∧ w.cell? ⟨b, o + i * 4 + 2, none⟩ = some (.int .i64 x.v) ∧ w.cell? ⟨b, o + i * 4 + 3, none⟩ = some (.int .i64 x.y)
theorem RdL.at_ {w : World} {A : Option Addr} {n i : Nat} {l : List Lnk} (h : RdL w A n l) (hi : i < n) :
    ∃ b o x, A = some ⟨b, o, none⟩ ∧ l[i]? = some x ∧ w.cell? ⟨b, o + i * 4, none⟩ = some (.int .i64 x.e) ∧ w.cell? ⟨b, o + i * 4 + 1, none⟩ = some (.int .i64 x.u) ∧ w.cell? ⟨b, o + i * 4 + 2, none⟩ = some (.int .i64 x.v) ∧ w.cell? ⟨b, o + i * 4 + 3, none⟩ = some (.int .i64 x.y) := by
  have hl : i < l.length := by rw [h.1]; exact hi
  obtain ⟨b, o, e, hc⟩ := h.2 i _ (List.getElem?_eq_getElem hl)
  exact ⟨b, o, _, e, List.getElem?_eq_getElem hl, hc⟩
theorem RdL.below {w w' : World} {A : Option Addr} {n : Nat} {l : List Lnk} (h : RdL w A n l) (hb : Below w.heap.size w w') : RdL w' A n l :=
  ⟨h.1, fun i x hx => by
    obtain ⟨b, o, e, h1, h2, h3, h4⟩ := h.2 i x hx
    exact ⟨b, o, e, Below.cellOf hb (Nat.le_refl _) h1, Below.cellOf hb (Nat.le_refl _) h2, Below.cellOf hb (Nat.le_refl _) h3, Below.cellOf hb (Nat.le_refl _) h4⟩⟩
theorem Rds.rdL {w : World} {n : Nat} {A : Option Addr} {l : List Lnk} (h : Rds w 4 A n (lcells l)) : RdL w A n l :=
  ⟨by have := h.1; rw [lcells_len] at this; omega, fun i p hp => by
    obtain ⟨h1, h2, h3, h4⟩ := lcells_get hp
    obtain ⟨b, o, e, c1⟩ := h.2 _ _ h1
    obtain ⟨b', o', e', c2⟩ := h.2 _ _ h2
    rw [e] at e'; cases e'
    obtain ⟨b', o', e', c3⟩ := h.2 _ _ h3
    rw [e] at e'; cases e'
    obtain ⟨b', o', e', c4⟩ := h.2 _ _ h4
    rw [e] at e'; cases e'
    exact ⟨b, o, e, c1, by rw [Nat.add_assoc]; exact c2, by rw [Nat.add_assoc]; exact c3, by rw [Nat.add_assoc]; exact c4⟩⟩
/-- Of each vertex its links. -/
def RdN (w : World) (A : Option Addr) (n : Nat) (ls : List (List Lnk)) : Prop :=
  ls.length = n ∧ ∀ i l, ls[i]? = some l → ∃ b o A' c', A = some ⟨b, o, none⟩ ∧ w.cell? ⟨b, o + i, none⟩ = some (.slice A' l.length c') ∧ RdL w A' l.length l ∧ l.length ≤ c' ∧ c' ≤ 9223372036854775807
theorem RdN.at_ {w : World} {A : Option Addr} {n i : Nat} {ls : List (List Lnk)} (h : RdN w A n ls) (hi : i < n) :
    ∃ b o A' c' l, A = some ⟨b, o, none⟩ ∧ ls[i]? = some l ∧ w.cell? ⟨b, o + i, none⟩ = some (.slice A' l.length c') ∧ RdL w A' l.length l ∧ l.length ≤ c' ∧ c' ≤ 9223372036854775807 := by
  have hl : i < ls.length := by rw [h.1]; exact hi
  obtain ⟨b, o, A', c', h1, h2, h3, h4, h5⟩ := h.2 i _ (List.getElem?_eq_getElem hl)
  exact ⟨b, o, A', c', _, h1, List.getElem?_eq_getElem hl, h2, h3, h4, h5⟩
theorem RdN.below {w w' : World} {A : Option Addr} {n : Nat} {ls : List (List Lnk)} (h : RdN w A n ls) (hb : Below w.heap.size w w') : RdN w' A n ls :=
  ⟨h.1, fun i l hl => by
    obtain ⟨b, o, A', c', h1, h2, h3, h4, h5⟩ := h.2 i l hl
    exact ⟨b, o, A', c', h1, Below.cellOf hb (Nat.le_refl _) h2, h3.below hb, h4, h5⟩⟩

/-- ls are the links of the edges E between n vertices. -/
structure LinksOf (n : Nat) (E : List Edg) (ls : List (List Lnk)) : Prop where
  len : ls.length = n
  sound : ∀ (a : Nat) (l : List Lnk) (k : Lnk), ls[a]? = some l → k ∈ l → k.u = a ∧ k.v < n ∧ k.u ≠ k.v ∧ ((k.y = 1 ∧ E[k.e]? = some ((k.u : Int), (k.v : Int))) ∨ (k.y = -1 ∧ E[k.e]? = some ((k.v : Int), (k.u : Int))))
  full : ∀ (i : Nat) (a b : Nat), E[i]? = some ((a : Int), (b : Int)) → a ≠ b → a < n → b < n → (∃ l, ls[a]? = some l ∧ (⟨i, a, b, 1⟩ : Lnk) ∈ l) ∧ ∃ l, ls[b]? = some l ∧ (⟨i, b, a, -1⟩ : Lnk) ∈ l
/-- The links, as they come. -/
def addLink (ls : List (List Lnk)) (k : Lnk) : List (List Lnk) := ls.set k.u (ls.getD k.u [] ++ [k])
def addEdge (ls : List (List Lnk)) (i a b : Nat) : List (List Lnk) := if a = b then ls else addLink (addLink ls ⟨i, a, b, 1⟩) ⟨i, b, a, -1⟩
theorem addLink_len (ls : List (List Lnk)) (k : Lnk) : (addLink ls k).length = ls.length := by simp [addLink]
theorem addLink_get {ls : List (List Lnk)} {k : Lnk} (hk : k.u < ls.length) (a : Nat) (l : List Lnk) : (addLink ls k)[a]? = some l ↔ (a = k.u ∧ ∃ l', ls[k.u]? = some l' ∧ l = l' ++ [k]) ∨ (a ≠ k.u ∧ ls[a]? = some l) := by
  unfold addLink
  by_cases h : k.u = a
  · subst h
    rw [List.getElem?_set_self hk, List.getD_eq_getElem?_getD, List.getElem?_eq_getElem hk]
    simp [eq_comm]
  · rw [List.getElem?_set_ne h]
    simp [Ne.symm h]
/-- Links of some edges are links of more. -/
def LkS (n : Nat) (E : List Edg) (ls : List (List Lnk)) : Prop :=
  ls.length = n ∧ ∀ (a : Nat) (l : List Lnk) (k : Lnk), ls[a]? = some l → k ∈ l → k.u = a ∧ k.v < n ∧ k.u ≠ k.v ∧ ((k.y = 1 ∧ E[k.e]? = some ((k.u : Int), (k.v : Int))) ∨ (k.y = -1 ∧ E[k.e]? = some ((k.v : Int), (k.u : Int))))
theorem LkS.add {n : Nat} {E : List Edg} {ls : List (List Lnk)} {k : Lnk} (h : LkS n E ls) (hu : k.u < n) (hv : k.v < n) (hne : k.u ≠ k.v) (he : (k.y = 1 ∧ E[k.e]? = some ((k.u : Int), (k.v : Int))) ∨ (k.y = -1 ∧ E[k.e]? = some ((k.v : Int), (k.u : Int)))) : LkS n E (addLink ls k) := by
  refine ⟨by rw [addLink_len]; exact h.1, fun a l k' hl hk' => ?_⟩
  rcases (addLink_get (by rw [h.1]; exact hu) a l).1 hl with ⟨rfl, l', hl', rfl⟩ | ⟨_, hl'⟩
  · rcases List.mem_append.1 hk' with h1 | h1
    · exact h.2 _ l' k' hl' h1
    · rw [List.mem_singleton.1 h1]
      exact ⟨rfl, hv, hne, he⟩
  · exact h.2 a l k' hl' hk'
theorem mem_addLink {ls : List (List Lnk)} {k k' : Lnk} {a : Nat} (hk : k.u < ls.length) (h : ∃ l, ls[a]? = some l ∧ k' ∈ l) : ∃ l, (addLink ls k)[a]? = some l ∧ k' ∈ l := by
  obtain ⟨l, hl, hm⟩ := h
  by_cases e : a = k.u
  · subst e
    exact ⟨l ++ [k], (addLink_get hk _ _).2 (.inl ⟨rfl, l, hl, rfl⟩), List.mem_append_left _ hm⟩
  · exact ⟨l, (addLink_get hk _ _).2 (.inr ⟨e, hl⟩), hm⟩
theorem mem_addLink_new {ls : List (List Lnk)} {k : Lnk} (hk : k.u < ls.length) : ∃ l, (addLink ls k)[k.u]? = some l ∧ k ∈ l :=
  ⟨_, (addLink_get hk _ _).2 (.inl ⟨rfl, _, List.getElem?_eq_getElem hk, rfl⟩), by simp⟩
/-- What is laid of the first i edges. -/
def LkP (n : Nat) (E : List Edg) (i : Nat) (ls : List (List Lnk)) : Prop :=
  LkS n E ls ∧ ∀ (j a b : Nat), j < i → E[j]? = some ((a : Int), (b : Int)) → a ≠ b → a < n → b < n → (∃ l, ls[a]? = some l ∧ (⟨j, a, b, 1⟩ : Lnk) ∈ l) ∧ ∃ l, ls[b]? = some l ∧ (⟨j, b, a, -1⟩ : Lnk) ∈ l
theorem LkP.start (n : Nat) (E : List Edg) : LkP n E 0 (List.replicate n []) := ⟨⟨by simp, fun a l k hl hk => by
    have := (List.mem_replicate.1 (List.mem_of_getElem? hl)).2
    subst this
    cases hk⟩, fun _ _ _ h => absurd h (by omega)⟩
theorem LkP.next {n : Nat} {E : List Edg} {i a b : Nat} {ls : List (List Lnk)} (h : LkP n E i ls) (he : E[i]? = some ((a : Int), (b : Int))) (ha : a < n) (hb : b < n) : LkP n E (i + 1) (addEdge ls i a b) := by
  unfold addEdge
  have hl := h.1.1
  by_cases hab : a = b
  · rw [if_pos hab]
    refine ⟨h.1, fun j a' b' hj hE hne h1 h2 => ?_⟩
    rcases Nat.lt_or_ge j i with h3 | h3
    · exact h.2 j a' b' h3 hE hne h1 h2
    · obtain rfl : j = i := by omega
      rw [he] at hE
      simp at hE
      omega
  · rw [if_neg hab]
    have k1 : (⟨i, a, b, 1⟩ : Lnk).u < ls.length := by rw [hl]; exact ha
    have k2 : (⟨i, b, a, -1⟩ : Lnk).u < (addLink ls ⟨i, a, b, 1⟩).length := by rw [addLink_len, hl]; exact hb
    refine ⟨(h.1.add (k := ⟨i, a, b, 1⟩) ha hb hab (.inl ⟨rfl, he⟩)).add (k := ⟨i, b, a, -1⟩) hb ha (Ne.symm hab) (.inr ⟨rfl, he⟩), fun j a' b' hj hE hne h1 h2 => ?_⟩
    rcases Nat.lt_or_ge j i with h3 | h3
    · obtain ⟨g1, g2⟩ := h.2 j a' b' h3 hE hne h1 h2
      exact ⟨mem_addLink k2 (mem_addLink k1 g1), mem_addLink k2 (mem_addLink k1 g2)⟩
    · obtain rfl : j = i := by omega
      rw [he] at hE
      simp at hE
      obtain ⟨rfl, rfl⟩ : a = a' ∧ b = b' := by omega
      exact ⟨mem_addLink k2 (mem_addLink_new k1), mem_addLink_new k2⟩
theorem LkP.all {n : Nat} {E : List Edg} {ls : List (List Lnk)} (h : LkP n E E.length ls) : LinksOf n E ls :=
  ⟨h.1.1, h.1.2, fun i a b he hne ha hb => h.2 i a b (List.getElem?_eq_some_iff.1 he).1 he hne ha hb⟩
end Go.Proofs.YtjphjbchhhembaaDoor
