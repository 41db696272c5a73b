/- Nets: readings (rows of threes, tables), and what a net that may be is; plain. -/
import Derived.Test.YtgkeolddpielpaaGreatBas
namespace Go.Proofs.YtgkeolddpielpaaGreat
open Go.RowKit

abbrev Tri := Int × Int × Int
/-- threes as cells -/
def tcells : List Tri → List Value
  | [] => []
  | p :: t => .int .i64 p.1 :: .int .i64 p.2.1 :: .int .i64 p.2.2 :: tcells t
theorem tcells_len : ∀ l : List Tri, (tcells l).length = l.length * 3
  | [] => rfl
  | _ :: t => by simp [tcells, tcells_len t]; omega
theorem tcells_app : ∀ l m : List Tri, tcells (l ++ m) = tcells l ++ tcells m
  | [], _ => rfl
  | p :: t, m => by simp [tcells, tcells_app t m]
theorem tcells_get : ∀ {l : List Tri} {i : Nat} {p : Tri}, l[i]? = some p → (tcells l)[i * 3]? = some (.int .i64 p.1) ∧ (tcells l)[i * 3 + 1]? = some (.int .i64 p.2.1) ∧ (tcells l)[i * 3 + 2]? = some (.int .i64 p.2.2)
  | [], i, p, h => by simp at h
  | q :: t, 0, p, h => by simp at h; subst h; simp [tcells]
  | q :: t, i + 1, p, h => by
    have := tcells_get (l := t) (i := i) (p := p) (by simpa using h)
    rw [show (i + 1) * 3 = i * 3 + 1 + 1 + 1 by omega, show i * 3 + 1 + 1 + 1 + 1 = (i * 3 + 1) + 1 + 1 + 1 by omega, show i * 3 + 1 + 1 + 1 + 2 = (i * 3 + 2) + 1 + 1 + 1 by omega]
    simpa [tcells] using this
theorem tcells_one (l : List Tri) : ∀ u ∈ tcells l, u.oneCell' = true := by
  induction l with
  | nil => intro u hu; cases hu
  | cons p t ih =>
    intro u hu
    simp only [tcells, List.mem_cons] at hu
    rcases hu with rfl | rfl | rfl | hu
    · rfl
    · rfl
    · rfl
    · exact ih u hu
/-- A slice of threes of ints reads as l. -/
def Rd3 (w : World) (A : Option Addr) (n : Nat) (l : List Tri) : Prop :=
  l.length = n ∧ ∀ i x, l[i]? = some x → ∃ b o, A = some ⟨b, o, none⟩ ∧ w.cell? ⟨b, o + i * 3, none⟩ = some (.int .i64 x.1) ∧ w.cell? ⟨b, o + i * 3 + 1, none⟩ = some (.int .i64 x.2.1) ∧ w.cell? ⟨b, o + i * 3 + 2, none⟩ = some (.int .i64 x.2.2)
theorem Rd3.at_ {w : World} {A : Option Addr} {n i : Nat} {l : List Tri} (h : Rd3 w A n l) (hi : i < n) :
    ∃ b o x y z, A = some ⟨b, o, none⟩ ∧ l[i]? = some (x, y, z) ∧ w.cell? ⟨b, o + i * 3, none⟩ = some (.int .i64 x) ∧ w.cell? ⟨b, o + i * 3 + 1, none⟩ = some (.int .i64 y) ∧ w.cell? ⟨b, o + i * 3 + 2, none⟩ = some (.int .i64 z) := by
  have hl : i < l.length := by rw [h.1]; exact hi
  obtain ⟨b, o, e, hc⟩ := h.2 i _ (List.getElem?_eq_getElem hl)
  exact ⟨b, o, _, _, _, e, List.getElem?_eq_getElem hl, hc⟩
theorem Rd3.below {w w' : World} {A : Option Addr} {n : Nat} {l : List Tri} (h : Rd3 w A n l) (hb : Below w.heap.size w w') : Rd3 w' A n l :=
  ⟨h.1, fun i x hx => by
    obtain ⟨b, o, e, h1, h2, h3⟩ := h.2 i x hx
    exact ⟨b, o, e, Below.cellOf hb (Nat.le_refl _) h1, Below.cellOf hb (Nat.le_refl _) h2, Below.cellOf hb (Nat.le_refl _) h3⟩⟩
theorem Rds.rd3 {w : World} {n : Nat} {A : Option Addr} {l : List Tri} (h : Rds w 3 A n (tcells l)) : Rd3 w A n l :=
  ⟨by have := h.1; rw [tcells_len] at this; omega, fun i p hp => by
    obtain ⟨h1, h2, h3⟩ := tcells_get hp
    obtain ⟨b, o, e, c1⟩ := h.2 _ _ h1
    obtain ⟨b', o', e', c2⟩ := h.2 _ _ h2
    rw [e] at e'; cases e'
    obtain ⟨b', o', e', c3⟩ := h.2 _ _ h3
    rw [e] at e'; cases e'
    exact ⟨b, o, e, c1, by rw [Nat.add_assoc]; exact c2, by rw [Nat.add_assoc]; exact c3⟩⟩
theorem tcells_at : ∀ {l : List Tri} {j : Nat} {u : Value}, (tcells l)[j]? = some u → ∃ p, l[j / 3]? = some p ∧ ((j % 3 = 0 ∧ u = .int .i64 p.1) ∨ (j % 3 = 1 ∧ u = .int .i64 p.2.1) ∨ (j % 3 = 2 ∧ u = .int .i64 p.2.2))
  | [], j, u, h => by simp [tcells] at h
  | q :: t, 0, u, h => by simp [tcells] at h; exact ⟨q, by simp, .inl ⟨rfl, h.symm⟩⟩
  | q :: t, 1, u, h => by simp [tcells] at h; exact ⟨q, by simp, .inr (.inl ⟨rfl, h.symm⟩)⟩
  | q :: t, 2, u, h => by simp [tcells] at h; exact ⟨q, by simp, .inr (.inr ⟨rfl, h.symm⟩)⟩
  | q :: t, j + 3, u, h => by
    obtain ⟨p, h1, h2⟩ := tcells_at (l := t) (j := j) (u := u) (by simpa [tcells] using h)
    refine ⟨p, ?_, ?_⟩
    · rw [show (j + 3) / 3 = j / 3 + 1 by omega]; simpa using h1
    · rw [show (j + 3) % 3 = j % 3 by omega]; exact h2
theorem Rd3.rds {w : World} {n : Nat} {A : Option Addr} {l : List Tri} (h : Rd3 w A n l) : Rds w 3 A n (tcells l) :=
  ⟨by rw [tcells_len, h.1], fun j u hu => by
    obtain ⟨p, hp, hu'⟩ := tcells_at hu
    obtain ⟨b, o, e, h1, h2, h3⟩ := h.2 _ p hp
    refine ⟨b, o, e, ?_⟩
    rcases hu' with ⟨hm, rfl⟩ | ⟨hm, rfl⟩ | ⟨hm, rfl⟩
    · rw [show o + j = o + j / 3 * 3 by omega]; exact h1
    · rw [show o + j = o + j / 3 * 3 + 1 by omega]; exact h2
    · rw [show o + j = o + j / 3 * 3 + 2 by omega]; exact h3⟩

/-- A table of turns. -/
structure TabD where
  ins : Int
  outs : Int
  costs : List Int
/-- The cells of a table: its numbers, its costs. -/
def TabAt (w : World) (b o : Nat) (t : TabD) : Prop := w.cell? ⟨b, o, none⟩ = some (.int .i64 t.ins) ∧ w.cell? ⟨b, o + 1, none⟩ = some (.int .i64 t.outs) ∧ ∃ (A : Option Addr) (n c : Nat), w.cell? ⟨b, o + 2, none⟩ = some (.slice A n c) ∧ RdI w A n t.costs ∧ n ≤ c ∧ c ≤ 9223372036854775807
theorem TabAt.below {w w' : World} {b o : Nat} {t : TabD} (h : TabAt w b o t) (hb : Below w.heap.size w w') : TabAt w' b o t := by
  obtain ⟨h1, h2, A, n, c, h3, h4, h5⟩ := h
  exact ⟨Below.cellOf hb (Nat.le_refl _) h1, Below.cellOf hb (Nat.le_refl _) h2, A, n, c, Below.cellOf hb (Nat.le_refl _) h3, h4.below hb, h5⟩
/-- A slice of tables reads as l. -/
def RdY (w : World) (A : Option Addr) (n : Nat) (l : List TabD) : Prop := l.length = n ∧ ∀ i t, l[i]? = some t → ∃ b o, A = some ⟨b, o, none⟩ ∧ TabAt w b (o + i * 3) t
theorem RdY.at_ {w : World} {A : Option Addr} {n i : Nat} {l : List TabD} (h : RdY w A n l) (hi : i < n) : ∃ b o t, A = some ⟨b, o, none⟩ ∧ l[i]? = some t ∧ TabAt w b (o + i * 3) t := by
  have hl : i < l.length := by rw [h.1]; exact hi
  obtain ⟨b, o, e, hc⟩ := h.2 i _ (List.getElem?_eq_getElem hl)
  exact ⟨b, o, _, e, List.getElem?_eq_getElem hl, hc⟩
theorem RdY.below {w w' : World} {A : Option Addr} {n : Nat} {l : List TabD} (h : RdY w A n l) (hb : Below w.heap.size w w') : RdY w' A n l :=
  ⟨h.1, fun i t ht => by obtain ⟨b, o, e, hc⟩ := h.2 i t ht; exact ⟨b, o, e, hc.below hb⟩⟩

/-- A net: vertices (x, y, type), arcs (from, to, weight), tables. -/
structure NetD where
  vs : List Tri
  ar : List Tri
  ts : List TabD
def RdNet (w : World) (A B C : Option Addr) (n m k : Nat) (N : NetD) : Prop := Rd3 w A n N.vs ∧ Rd3 w B m N.ar ∧ RdY w C k N.ts
theorem RdNet.below {w w' : World} {A B C : Option Addr} {n m k : Nat} {N : NetD} (h : RdNet w A B C n m k N) (hb : Below w.heap.size w w') : RdNet w' A B C n m k N := ⟨h.1.below hb, h.2.1.below hb, h.2.2.below hb⟩

def wOk (a : Int) : Bool := (decide (0 ≤ a) && decide (a ≤ 2147483648)) || decide (a = 1152921504606846976)
def coordB (x : Int) : Bool := decide (-1048576 ≤ x) && decide (x ≤ 1048576)
structure TabOk (t : TabD) : Prop where
  i0 : 0 ≤ t.ins
  i16 : t.ins ≤ 16
  o0 : 0 ≤ t.outs
  o16 : t.outs ≤ 16
  len : (t.costs.length : Int) = t.ins * t.outs
  ok : ∀ c ∈ t.costs, wOk c = true
/-- How many arcs end at a vertex, begin at it. -/
def cntTo (l : List Tri) (v : Nat) : Nat := l.countP (fun a => a.2.1 == (v : Int))
def cntFr (l : List Tri) (v : Nat) : Nat := l.countP (fun a => a.1 == (v : Int))
structure VertOk (k : Nat) (v : Tri) : Prop where
  x : coordB v.1 = true
  y : coordB v.2.1 = true
  t0 : 0 ≤ v.2.2
  t1 : v.2.2 < k
structure ArcOk (n : Nat) (a : Tri) : Prop where
  f0 : 0 ≤ a.1
  f1 : a.1 < n
  g0 : 0 ≤ a.2.1
  g1 : a.2.1 < n
  w : wOk a.2.2 = true
structure NetOk (N : NetD) : Prop where
  lv : N.vs.length ≤ 4096
  la : N.ar.length ≤ 16384
  lt : N.ts.length ≤ 256
  tabs : ∀ t ∈ N.ts, TabOk t
  verts : ∀ v ∈ N.vs, VertOk N.ts.length v
  arcs : ∀ a ∈ N.ar, ArcOk N.vs.length a
  meet : ∀ (i : Nat) v t, N.vs[i]? = some v → N.ts[v.2.2.toNat]? = some t → (cntTo N.ar i : Int) = t.ins ∧ (cntFr N.ar i : Int) = t.outs
end Go.Proofs.YtgkeolddpielpaaGreat
