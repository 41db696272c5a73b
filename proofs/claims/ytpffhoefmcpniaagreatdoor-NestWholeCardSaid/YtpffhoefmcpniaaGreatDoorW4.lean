/- Parts of the proof: Nv, QCo1. -/
import Derived.Test.YtpffhoefmcpniaaGreatDoorW1
import Derived.Test.YtpffhoefmcpniaaGreatDoorW3
import Derived.Deep.QuietTactic
import Derived.BigQuiet
import Derived.Laws.CopyOwn
import Derived.Deep.RegionHeld3
import Derived.Deep.DrawnRows
/- Nets: readings (rows of threes, tables), and what a net that may be is; plain. -/
namespace Go.Proofs.YtpffhoefmcpniaaGreatDoor
open Go.RowKit

abbrev Tri := Int × Int × Int
/-- threes as cells -/
def tcells : List Tri → List Value
  | [] => []
  | p :: t => .int .i64 p.1 :: .int .i64 p.2.1 :: .int .i64 p.2.2 :: tcells t
theorem tcells_len : ∀ l : List Tri, (tcells l).length = l.length * 3
  | [] => rfl
  | _ :: t => by simp [tcells, tcells_len t]; omega
theorem tcells_app : ∀ l m : List Tri, tcells (l ++ m) = tcells l ++ tcells m
  | [], _ => rfl
  | p :: t, m => by simp [tcells, tcells_app t m]
theorem tcells_get : ∀ {l : List Tri} {i : Nat} {p : Tri}, l[i]? = some p → (tcells l)[i * 3]? = some (.int .i64 p.1) ∧ (tcells l)[i * 3 + 1]? = some (.int .i64 p.2.1) ∧ (tcells l)[i * 3 + 2]? = some (.int .i64 p.2.2)
  | [], i, p, h => by simp at h
  | q :: t, 0, p, h => by simp at h; subst h; simp [tcells]
  | q :: t, i + 1, p, h => by
    have := tcells_get (l := t) (i := i) (p := p) (by simpa using h)
    rw [show (i + 1) * 3 = i * 3 + 1 + 1 + 1 by omega, show i * 3 + 1 + 1 + 1 + 1 = (i * 3 + 1) + 1 + 1 + 1 by omega, show i * 3 + 1 + 1 + 1 + 2 = (i * 3 + 2) + 1 + 1 + 1 by omega]
    simpa [tcells] using this
theorem tcells_one (l : List Tri) : ∀ u ∈ tcells l, u.oneCell' = true := by
  induction l with
  | nil => intro u hu; cases hu
  | cons p t ih =>
    intro u hu
    simp only [tcells, List.mem_cons] at hu
    rcases hu with rfl | rfl | rfl | hu
    · rfl
    · rfl
    · rfl
    · exact ih u hu
/-- A slice of threes of ints reads as l. -/
def Rd3 (w : World) (A : Option Addr) (n : Nat) (l : List Tri) : Prop :=
  l.length = n ∧ ∀ i x, l[i]? = some x → ∃ b o, A = some ⟨b, o, none⟩ ∧ w.cell? ⟨b, o + i * 3, none⟩ = some (.int .i64 x.1) ∧ w.cell? ⟨b, o + i * 3 + 1, none⟩ = some (.int .i64 x.2.1) ∧ w.cell? ⟨b, o + i * 3 + 2, none⟩ = some (.int .i64 x.2.2)
theorem Rd3.at_ {w : World} {A : Option Addr} {n i : Nat} {l : List Tri} (h : Rd3 w A n l) (hi : i < n) :
    ∃ b o x y z, A = some ⟨b, o, none⟩ ∧ l[i]? = some (x, y, z) ∧ w.cell? ⟨b, o + i * 3, none⟩ = some (.int .i64 x) ∧ w.cell? ⟨b, o + i * 3 + 1, none⟩ = some (.int .i64 y) ∧ w.cell? ⟨b, o + i * 3 + 2, none⟩ = some (.int .i64 z) := by
  have hl : i < l.length := by rw [h.1]; exact hi
  obtain ⟨b, o, e, hc⟩ := h.2 i _ (List.getElem?_eq_getElem hl)
  exact ⟨b, o, _, _, _, e, List.getElem?_eq_getElem hl, hc⟩
theorem Rd3.below {w w' : World} {A : Option Addr} {n : Nat} {l : List Tri} (h : Rd3 w A n l) (hb : Below w.heap.size w w') : Rd3 w' A n l :=
  ⟨h.1, fun i x hx => by
    obtain ⟨b, o, e, h1, h2, h3⟩ := h.2 i x hx
    exact ⟨b, o, e, Below.cellOf hb (Nat.le_refl _) h1, Below.cellOf hb (Nat.le_refl _) h2, Below.cellOf hb (Nat.le_refl _) h3⟩⟩
theorem Rds.rd3 {w : World} {n : Nat} {A : Option Addr} {l : List Tri} (h : Rds w 3 A n (tcells l)) : Rd3 w A n l :=
  ⟨by have := h.1; rw [tcells_len] at this; omega, fun i p hp => by
    obtain ⟨h1, h2, h3⟩ := tcells_get hp
    obtain ⟨b, o, e, c1⟩ := h.2 _ _ h1
    obtain ⟨b', o', e', c2⟩ := h.2 _ _ h2
    rw [e] at e'; cases e'
    obtain ⟨b', o', e', c3⟩ := h.2 _ _ h3
    rw [e] at e'; cases e'
    exact ⟨b, o, e, c1, by rw [Nat.add_assoc]; exact c2, by rw [Nat.add_assoc]; exact c3⟩⟩
theorem tcells_at : ∀ {l : List Tri} {j : Nat} {u : Value}, (tcells l)[j]? = some u → ∃ p, l[j / 3]? = some p ∧ ((j % 3 = 0 ∧ u = .int .i64 p.1) ∨ (j % 3 = 1 ∧ u = .int .i64 p.2.1) ∨ (j % 3 = 2 ∧ u = .int .i64 p.2.2))
  | [], j, u, h => by simp [tcells] at h
  | q :: t, 0, u, h => by simp [tcells] at h; exact ⟨q, by simp, .inl ⟨rfl, h.symm⟩⟩
  | q :: t, 1, u, h => by simp [tcells] at h; exact ⟨q, by simp, .inr (.inl ⟨rfl, h.symm⟩)⟩
  | q :: t, 2, u, h => by simp [tcells] at h; exact ⟨q, by simp, .inr (.inr ⟨rfl, h.symm⟩)⟩
  | q :: t, j + 3, u, h => by
    obtain ⟨p, h1, h2⟩ := tcells_at (l := t) (j := j) (u := u) (by simpa [tcells] using h)
    refine ⟨p, ?_, ?_⟩
    · rw [show (j + 3) / 3 = j / 3 + 1 by omega]; simpa using h1
    · rw [show (j + 3) % 3 = j % 3 by omega]; exact h2
theorem Rd3.rds {w : World} {n : Nat} {A : Option Addr} {l : List Tri} (h : Rd3 w A n l) : Rds w 3 A n (tcells l) :=
  ⟨by rw [tcells_len, h.1], fun j u hu => by
    obtain ⟨p, hp, hu'⟩ := tcells_at hu
    obtain ⟨b, o, e, h1, h2, h3⟩ := h.2 _ p hp
    refine ⟨b, o, e, ?_⟩
    rcases hu' with ⟨hm, rfl⟩ | ⟨hm, rfl⟩ | ⟨hm, rfl⟩
    · rw [show o + j = o + j / 3 * 3 by omega]; exact h1
    · rw [show o + j = o + j / 3 * 3 + 1 by omega]; exact h2
    · rw [show o + j = o + j / 3 * 3 + 2 by omega]; exact h3⟩

/-- A table of turns. -/
structure TabD where
  ins : Int
  outs : Int
  costs : List Int
/-- The cells of a table: its numbers, its costs. -/
def TabAt (w : World) (b o : Nat) (t : TabD) : Prop := w.cell? ⟨b, o, none⟩ = some (.int .i64 t.ins) ∧ w.cell? ⟨b, o + 1, none⟩ = some (.int .i64 t.outs) ∧ ∃ (A : Option Addr) (n c : Nat), w.cell? ⟨b, o + 2, none⟩ = some (.slice A n c) ∧ RdI w A n t.costs ∧ n ≤ c ∧ c ≤ 9223372036854775807
theorem TabAt.below {w w' : World} {b o : Nat} {t : TabD} (h : TabAt w b o t) (hb : Below w.heap.size w w') : TabAt w' b o t := by
  obtain ⟨h1, h2, A, n, c, h3, h4, h5⟩ := h
  exact ⟨Below.cellOf hb (Nat.le_refl _) h1, Below.cellOf hb (Nat.le_refl _) h2, A, n, c, Below.cellOf hb (Nat.le_refl _) h3, h4.below hb, h5⟩
/-- A slice of tables reads as l. -/
def RdY (w : World) (A : Option Addr) (n : Nat) (l : List TabD) : Prop := l.length = n ∧ ∀ i t, l[i]? = some t → ∃ b o, A = some ⟨b, o, none⟩ ∧ TabAt w b (o + i * 3) t
theorem RdY.at_ {w : World} {A : Option Addr} {n i : Nat} {l : List TabD} (h : RdY w A n l) (hi : i < n) : ∃ b o t, A = some ⟨b, o, none⟩ ∧ l[i]? = some t ∧ TabAt w b (o + i * 3) t := by
  have hl : i < l.length := by rw [h.1]; exact hi
  obtain ⟨b, o, e, hc⟩ := h.2 i _ (List.getElem?_eq_getElem hl)
  exact ⟨b, o, _, e, List.getElem?_eq_getElem hl, hc⟩
theorem RdY.below {w w' : World} {A : Option Addr} {n : Nat} {l : List TabD} (h : RdY w A n l) (hb : Below w.heap.size w w') : RdY w' A n l :=
  ⟨h.1, fun i t ht => by obtain ⟨b, o, e, hc⟩ := h.2 i t ht; exact ⟨b, o, e, hc.below hb⟩⟩

/-- A net: vertices (x, y, type), arcs (from, to, weight), tables. -/
structure NetD where
  vs : List Tri
  ar : List Tri
  ts : List TabD
def RdNet (w : World) (A B C : Option Addr) (n m k : Nat) (N : NetD) : Prop := Rd3 w A n N.vs ∧ Rd3 w B m N.ar ∧ RdY w C k N.ts
theorem RdNet.below {w w' : World} {A B C : Option Addr} {n m k : Nat} {N : NetD} (h : RdNet w A B C n m k N) (hb : Below w.heap.size w w') : RdNet w' A B C n m k N := ⟨h.1.below hb, h.2.1.below hb, h.2.2.below hb⟩

def wOk (a : Int) : Bool := (decide (0 ≤ a) && decide (a ≤ 2147483648)) || decide (a = 1152921504606846976)
def coordB (x : Int) : Bool := decide (-1048576 ≤ x) && decide (x ≤ 1048576)
structure TabOk (t : TabD) : Prop where
  i0 : 0 ≤ t.ins
  i16 : t.ins ≤ 16
  o0 : 0 ≤ t.outs
  o16 : t.outs ≤ 16
  len : (t.costs.length : Int) = t.ins * t.outs
  ok : ∀ c ∈ t.costs, wOk c = true
/-- How many arcs end at a vertex, begin at it. -/
def cntTo (l : List Tri) (v : Nat) : Nat := l.countP (fun a => a.2.1 == (v : Int))
def cntFr (l : List Tri) (v : Nat) : Nat := l.countP (fun a => a.1 == (v : Int))
structure VertOk (k : Nat) (v : Tri) : Prop where
  x : coordB v.1 = true
  y : coordB v.2.1 = true
  t0 : 0 ≤ v.2.2
  t1 : v.2.2 < k
structure ArcOk (n : Nat) (a : Tri) : Prop where
  f0 : 0 ≤ a.1
  f1 : a.1 < n
  g0 : 0 ≤ a.2.1
  g1 : a.2.1 < n
  w : wOk a.2.2 = true
structure NetOk (N : NetD) : Prop where
  lv : N.vs.length ≤ 4096
  la : N.ar.length ≤ 16384
  lt : N.ts.length ≤ 256
  tabs : ∀ t ∈ N.ts, TabOk t
  verts : ∀ v ∈ N.vs, VertOk N.ts.length v
  arcs : ∀ a ∈ N.ar, ArcOk N.vs.length a
  meet : ∀ (i : Nat) v t, N.vs[i]? = some v → N.ts[v.2.2.toNat]? = some t → (cntTo N.ar i : Int) = t.ins ∧ (cntFr N.ar i : Int) = t.outs
end Go.Proofs.YtpffhoefmcpniaaGreatDoor

/- Walks over points: Near, Key, ends, fresh, Ends, Half, Fair, the closure of Order (out of XA1 .. XA4, for the cut of the cards) -/
namespace Go.Proofs.YtpffhoefmcpniaaGreatDoor
open Go.RowKit


theorem ne_of_at {l m : List Int} {k : Nat} {x y : Int} (hx : l[k]? = some x) (hy : m[k]? = some y) (h : x ≠ y) : (l == m) = false := by
  simp only [beq_eq_false_iff_ne]
  rintro rfl
  rw [hx] at hy; cases hy; exact h rfl

theorem eq_of_all {l m : List Int} (h : l.length = m.length) (ha : ∀ j, j < l.length → l[j]? = m[j]?) : l = m := by
  apply List.ext_getElem?
  intro j
  rcases Nat.lt_or_ge j l.length with h1 | h1
  · exact ha j h1
  · rw [List.getElem?_eq_none h1, List.getElem?_eq_none (by omega)]


def near1 (p : Int × Int) : Bool := coordB p.1 && coordB p.2
/-- Where a point stands in a direction. -/
def key (p : Int × Int) (d : Int) : Int := if d = 0 then p.1 else if d = 1 then p.2 else if d = 2 then p.1 + p.2 else if d = 3 then p.1 - p.2 else 0

theorem key_any (x y d : Int) (w : World) (hx : -1000000000000 ≤ x) (hx' : x ≤ 1000000000000) (hy : -1000000000000 ≤ y) (hy' : y ≤ 1000000000000) (hd : 0 ≤ d) (hd' : d ≤ 3) :
    Calls Tryz.prog 115 #[.agg #[.int .i64 x, .int .i64 y], .int .i64 d] w fun e w' => e = .returned (.int .i64 (key (x, y) d)) ∧ ∃ q, w' = (w.alloc (.cells #[.int .i64 x, .int .i64 y] 127)).drewN q := by
  rcases (show d = 0 ∨ d = 1 ∨ d = 2 ∨ d = 3 by omega) with rfl | rfl | rfl | rfl
  all_goals
    go_enter Tryz.func115, Tryz.ntmps115
    go_wp2
    go_quiet (fail)
    go_wp2
    go_ret
    exact ⟨ret_int (by simp [key] <;> omega), _, rfl⟩

def endsN (n : Nat) : Nat := if n < 2 then 0 else (n + 3) / 4
theorem ends_any (n : Nat) (w : World) (hn : n ≤ 4000000000000000000) :
    Calls Tryz.prog 119 #[.int .i64 n] w fun e w' => e = .returned (.int .i64 (endsN n)) ∧ w = w' := by
  by_cases h : n < 2
  all_goals
    go_enter Tryz.func119, Tryz.ntmps119
    go_wp2
    go_ret
    exact ⟨ret_int (by simp [endsN, h]), rfl⟩

theorem Tryz.info3 : (Tryz.prog.info? 3).map (fun i => (i.zero, i.size, i.bytes)) = some (some (.int .i64 0), 1, 8) := by kernel_rfl


theorem splice_all {α : Type} (L cs : List α) (h : L.length = cs.length) : splice L 0 cs = cs := by
  simp [splice, ← h]

/-- The built-in copy of a whole slice of ints into a row of the call's own of that length. -/
theorem wpList_copy_ints {P : Program} {w : World} {ops : Array Oper} {rest : List Oper} {o : Oper} {a : Act} {Q : Exit → Act → World → Prop} (hgd : o.guard = none) (d s : Operand) (dT : TypeId)
    (ho : o.op = .call { callee := .builtin .copy, args := #[d, s], argTypes := #[dT, dT] }) (elem : TypeId) (hu : P.underlying dT = some (.slice elem)) (hsz : (P.info? elem).map (·.size) = some 1)
    (A : Option Addr) (g n dCap c : Nat) (hd : a.eval d = .slice (some ⟨g, 0, none⟩) n dCap) (hs : a.eval s = .slice A n c)
    (m l : List Int) (hm : m.length = n) (hg : Blk w g elem (ints m)) (hr : RdI w A n l) (B : Nat) (w0 : World) (hb : Below B w0 w) (hBg : B ≤ g)
    (h : ∀ w', Blk w' g elem (ints l) → Below B w0 w' → wpList P ops Q rest (a.put o.dst (goInt n)) w') :
    wpList P ops Q (o :: rest) a w := by
  have hl : l.length = n := hr.1
  refine wpList_copy_splice hgd d s dT dT ho elem hu hsz (some ⟨g, 0, none⟩) A n dCap n c hd hs g 0 (m.map (.int .i64)) elem hg (l.map (.int .i64)) (by simp [hl]) ?_ (by simp [hl, hm]) ?_ B w0 hb hBg ?_
  · intro h0
    rw [List.length_map, hl] at h0
    obtain ⟨b, o, x, rfl, _, _⟩ := hr.at_ h0
    refine ⟨rfl, _, rfl, fun j v hj => ?_⟩
    rw [List.getElem?_map] at hj
    cases hx : l[j]? with
    | none => rw [hx] at hj; cases hj
    | some x =>
      rw [hx] at hj
      cases hj
      obtain ⟨b', o', e, hc⟩ := hr.2 j x hx
      cases e
      cases j with
      | zero => simpa [Addr.add] using hc
      | succ j => simpa [Addr.add] using hc
  · intro v hv
    obtain ⟨x, _, rfl⟩ := List.mem_map.1 hv
    rfl
  · intro w' hg' hb'
    have hg2 : Blk w' g elem (ints l) := by
      have := hg'.out
      rw [splice_all _ _ (by simp [hl, hm])] at this
      exact this
    rw [show ((l.map (Value.int .i64)).length) = n by simp [hl]]
    exact h w' hg2 hb'

set_option maxHeartbeats 400000 in
theorem lnFresh_any (A : Option Addr) (n c : Nat) (l : List Int) (w : World) (h : RdI w A n l) (hn : n ≤ 1000000000000) :
    Calls Tryz.prog 120 #[.slice A n c] w fun e w' => ∃ A', e = .returned (.slice A' n n) ∧ RdI w' A' n l ∧ Below w.heap.size w w' := by
  by_cases h0 : n = 0
  · subst h0
    have hl : l = [] := List.eq_nil_of_length_eq_zero h.1
    go_enter Tryz.func120, Tryz.ntmps120
    go_wp2
    go_ret
    exact ⟨none, rfl, ⟨h.1, fun i x hx => by rw [hl] at hx; simp at hx⟩, Below.refl _ _⟩
  · have hne : ((n : Int) == 0) = false := by simp; omega
    have hmk := fun W => run_make1 (P := Tryz.prog) 27 3 (.int .i64 0) 8 Tryz.info3 Tryz.underlying27 rfl n (by omega) (by omega) .i64 .i64 W
    have hsz : (Tryz.prog.info? 3).map (·.size) = some 1 := by kernel_rfl
    have hl : l.length = n := h.1
    have hb : Below w.heap.size w (w.alloc (.cells (zeros (.int .i64 0) n) 3)) := (Below.refl _ _).alloc (Nat.le_refl _) _
    have hrd := h.below hb
    have hg : Blk (w.alloc (.cells (zeros (.int .i64 0) n) 3)) w.heap.size 3 (ints (List.replicate n 0)) := by rw [← zeros_int]; exact Blk.new w _ _
    have HL := Lib.hid hl; clear hl
    clear h0
    go_enter Tryz.func120, Tryz.ntmps120
    go_wp2_with (with_reducible refine wpList_copy_ints rfl (.tmp 10) (.tmp 11) 27 rfl 3 Tryz.underlying27 hsz A w.heap.size n n c rfl rfl _ l (List.length_replicate ..) hg hrd w.heap.size w hb (Nat.le_refl _) ?_)
    intro w' hg' hb'
    go_wp2
    go_ret
    exact ⟨_, rfl, hg'.rdI HL.out, hb'⟩

set_option maxHeartbeats 400000 in
theorem half_any (A : Option Addr) (n c : Nat) (l : List Int) (w : World) (h : RdI w A n l) (hn : n ≤ 1000000000000) (hc : n ≤ c) :
    Calls Tryz.prog 107 #[.slice A n c] w fun e w' => ∃ A', e = .returned (.slice A' ((n + 1) / 2) ((n + 1) / 2)) ∧ RdI w' A' ((n + 1) / 2) (l.take ((n + 1) / 2)) ∧ Below w.heap.size w w' := by
  have hh : (n + 1) / 2 ≤ n := by omega
  have H := h.take hh
  have e1 : ((n : Int) + 1) / 2 = (((n + 1) / 2 : Nat) : Int) := by omega
  have i1 : (0 : Int) ≤ ((n : Int) + 1) / 2 := by omega
  have i2 : ((n : Int) + 1) / 2 ≤ (n : Int) := by omega
  have i3 : ((n : Int) + 1) / 2 ≤ (c : Int) := by omega
  have E1 := Lib.hid e1; clear e1
  go_enter Tryz.func107, Tryz.ntmps107
  go_wp2_with (go_at_call 120; refine (lnFresh_any _ _ _ _ _ H (by omega)).mono ?_; rintro e w' ⟨A', rfl, hr, hb⟩)
  go_ret
  exact ⟨_, rfl, hr, hb⟩

attribute [local go_sem ↓] Go.wp_at_zero Go.wp_at_succ
set_option maxHeartbeats 400000 in
theorem ends2_any (A : Option Addr) (n c : Nat) (l : List Int) (w : World) (h : RdI w A n l) (hn : n ≤ 1000000000000) (hc : n ≤ c) :
    Calls Tryz.prog 105 #[.slice A n c] w fun e w' => ∃ A1 A2, e = .returned (.tuple #[.slice A1 (endsN n) (endsN n), .slice A2 (endsN n) (endsN n)]) ∧ RdI w' A1 (endsN n) (l.take (endsN n)) ∧ RdI w' A2 (endsN n) (l.drop (n - endsN n)) ∧ Below w.heap.size w w' := by
  have hh : endsN n ≤ n := by unfold endsN; split <;> omega
  have i1 : (0 : Int) ≤ (endsN n : Int) := by omega
  have i2 : (endsN n : Int) ≤ (n : Int) := by omega
  have i3 : (endsN n : Int) ≤ (c : Int) := by omega
  have i4 : (n : Int) ≤ (c : Int) := by omega
  have i5 : (0 : Int) ≤ (n : Int) - (endsN n : Int) := by omega
  have i6 : (n : Int) - (endsN n : Int) ≤ (n : Int) := by omega
  have i7 : (n : Int) - (endsN n : Int) ≤ (c : Int) := by omega
  have i8 : IntKind.i64.wrap ((n : Int) - (endsN n : Int)) = (n : Int) - (endsN n : Int) := IntWalk.i64_in _ (by omega)
  have i9 : ((n : Int) - (endsN n : Int)).toNat = n - endsN n := by omega
  have H1 := Lib.hid (h.take hh)
  have H2 := Lib.hid (h.cut (m := n - endsN n) (r := endsN n) (by omega) (by omega) hc)
  have hsl := fun W => run_cut_l (P := Tryz.prog) 27 3 1 Tryz.underlying27 (by kernel_rfl) (by kernel_rfl) A n c (n - endsN n) (endsN n) (by omega) (by omega) .i64 ((n : Int) - (endsN n : Int)) (by omega) W
  go_enter Tryz.func105, Tryz.ntmps105
  go_wp2_with (go_at_call 119; refine (ends_any _ _ (by omega)).mono ?_; rintro e w' ⟨rfl, rfl⟩)
  go_region_held3 (fun _ => True) (trivial) (first
    | (go_at_call 120; (with_reducible refine (lnFresh_any _ _ _ _ _ (H1.out.below bELt) (by omega)).mono ?_); rintro e w1 ⟨A1, rfl, hr1, hb1⟩)
    | (go_at_call 120; (with_reducible refine (lnFresh_any _ _ _ _ _ (H2.out.below bELt) (by omega)).mono ?_); rintro e w2 ⟨A2, rfl, hr2, hb2⟩))
  go_wp2
  go_ret2
  exact ⟨_, _, rfl, hr1.below hb2, hr2, bELt⟩

def cnt (l : List Bool) : Nat := l.count true
def fairB (l : List Bool) : Bool := decide (2 ≤ l.length) && (decide (endsN l.length ≤ cnt l) && decide (endsN l.length ≤ l.length - cnt l))
theorem cnt_take {l : List Bool} {k : Nat} {b : Bool} (h : l[k]? = some b) : cnt (l.take (k + 1)) = cnt (l.take k) + if b then 1 else 0 := by
  unfold cnt
  rw [List.take_add_one, h]
  cases b <;> simp
theorem cnt_le (l : List Bool) (k : Nat) : cnt (l.take k) ≤ k := by
  unfold cnt
  exact Nat.le_trans List.count_le_length (List.length_take_le _ _)

def cmpI (a b : Int) : Int := if a < b then -1 else if b < a then 1 else 0
theorem isNaN_any (a : Int) (w : World) : Calls Tryz.prog 95 #[.int .i64 a] w fun e w' => e = .returned (.bool false) ∧ w = w' := by
  go_enter Tryz.func95, Tryz.ntmps95
  go_wp2
  go_ret
  exact ⟨ret_bool (by simp), rfl⟩
theorem compare_any (a b : Int) (w : World) : Calls Tryz.prog 118 #[.int .i64 a, .int .i64 b] w fun e w' => e = .returned (.int .i64 (cmpI a b)) ∧ w = w' := by
  by_cases h1 : a < b
  · go_enter Tryz.func118, Tryz.ntmps118
    go_wp2_with (go_at_call 95; (with_reducible refine (isNaN_any _ _).mono ?_); rintro e w' ⟨rfl, rfl⟩)
    go_ret
    exact ⟨ret_int (by simp [cmpI, h1]), rfl⟩
  · by_cases h2 : b < a
    all_goals
      go_enter Tryz.func118, Tryz.ntmps118
      go_wp2_with (go_at_call 95; (with_reducible refine (isNaN_any _ _).mono ?_); rintro e w' ⟨rfl, rfl⟩)
      go_ret
      exact ⟨ret_int (by unfold cmpI; rw [if_neg (by omega)]; first | rw [if_pos h2] | rw [if_neg (by omega)]), rfl⟩
theorem cmpI_neg (a b : Int) : cmpI a b < 0 ↔ a < b := by
  unfold cmpI
  split
  · simp [*]
  · split <;> omega
theorem cmpI_zero (a b : Int) : cmpI a b = 0 ↔ a = b := by
  unfold cmpI
  split
  · constructor <;> intro <;> omega
  · split <;> constructor <;> intro <;> omega

/-- The closure of line.Order: by the keys, then by the places. -/
def cmpK (ks : List Int) (a b : Int) : Int :=
  if cmpI (ks.getD a.toNat 0) (ks.getD b.toNat 0) = 0 then cmpI a b else cmpI (ks.getD a.toNat 0) (ks.getD b.toNat 0)

theorem cmpK_neg (ks : List Int) (a b : Int) : cmpK ks a b < 0 ↔ ks.getD a.toNat 0 < ks.getD b.toNat 0 ∨ (ks.getD a.toNat 0 = ks.getD b.toNat 0 ∧ a < b) := by
  unfold cmpK
  by_cases h : cmpI (ks.getD a.toNat 0) (ks.getD b.toNat 0) = 0
  · rw [if_pos h, cmpI_neg]
    rw [cmpI_zero] at h
    omega
  · rw [if_neg h, cmpI_neg]
    rw [cmpI_zero] at h
    omega

set_option maxHeartbeats 400000 in
theorem order1_any (g ga n c : Nat) (ks : List Int) (a b : Nat) (ha : a < n) (hb : b < n) (hl : ks.length = n) (w : World)
    (hc : w.cell? ⟨g, 0, none⟩ = some (.slice (some ⟨ga, 0, none⟩) n c)) (hr : RdI w (some ⟨ga, 0, none⟩) n ks) :
    Calls Tryz.prog 117 #[.int .i64 a, .int .i64 b, .pointer (some ⟨g, 0, none⟩)] w fun e w' => e = .returned (.int .i64 (cmpK ks a b)) ∧ ∃ q, w' = w.drewN q := by
  obtain ⟨_, _, x, e1, hx, hcx⟩ := hr.at_ ha
  cases e1
  obtain ⟨_, _, y, e2, hy, hcy⟩ := hr.at_ hb
  cases e2
  rw [Nat.zero_add] at hcx hcy
  have hk : cmpK ks a b = if cmpI x y = 0 then cmpI a b else cmpI x y := by
    unfold cmpK
    simp only [Int.toNat_natCast, List.getD_eq_getElem?_getD, hx, hy, Option.getD_some]
  have HK := Lib.hid hk
  clear hk hx hy hr
  have i1 : (0 : Int) ≤ (a : Int) := by omega
  have i2 : (a : Int) < (n : Int) := by omega
  have i3 : (0 : Int) ≤ (b : Int) := by omega
  have i4 : (b : Int) < (n : Int) := by omega
  obtain ⟨r, hr⟩ : ∃ r, r = cmpI x y := ⟨_, rfl⟩
  obtain ⟨r2, hr2⟩ : ∃ r, r = cmpI (a : Int) (b : Int) := ⟨_, rfl⟩
  have hC : ∀ W, Calls Tryz.prog 118 #[.int .i64 x, .int .i64 y] W fun e w' => e = .returned (.int .i64 r) ∧ W = w' := fun W => by rw [hr]; exact compare_any x y W
  have hD : ∀ W, Calls Tryz.prog 118 #[.int .i64 a, .int .i64 b] W fun e w' => e = .returned (.int .i64 r2) ∧ W = w' := fun W => by rw [hr2]; exact compare_any a b W
  have HC := Lib.hid hC; clear hC
  have HD := Lib.hid hD; clear hD
  rw [← hr, ← hr2] at HK
  clear hr hr2
  by_cases h0 : r = 0
  · have hz : (r != 0) = false := by simp [h0]
    have HZ := Lib.hid h0; clear h0
    go_enter Tryz.func117, Tryz.ntmps117
    go_wp2
    go_quiet ((go_at_call 118; exact quiet_left (HC.out _)))
    go_wp2_with (go_at_call 118; (with_reducible refine (HD.out _).mono ?_); rintro e w' ⟨rfl, rfl⟩)
    go_ret
    exact ⟨ret_int (by rw [HK.out, if_pos HZ.out]), _, rfl⟩
  · have hz : (r != 0) = true := by simp [h0]
    have HZ := Lib.hid h0; clear h0
    go_enter Tryz.func117, Tryz.ntmps117
    go_wp2
    go_quiet ((go_at_call 118; exact quiet_left (HC.out _)))
    go_wp2
    go_ret
    exact ⟨ret_int (by rw [HK.out, if_neg HZ.out]), _, rfl⟩

end Go.Proofs.YtpffhoefmcpniaaGreatDoor
