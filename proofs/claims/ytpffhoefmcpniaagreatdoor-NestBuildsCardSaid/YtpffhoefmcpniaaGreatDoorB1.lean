/- Parts of the proof: Voc, App. -/
import Derived.Test.YtpffhoefmcpniaaGreatDoorProg
import Derived.WalkKit
import Derived.Lib.Hide
import Derived.Deep.AppendLies
import Derived.Deep.Draws
import Derived.Laws.OwnMore
import Derived.Maps.AppendAt
import Derived.RegionTactic
import Derived.OwnWalk
namespace Go.Proofs.YtpffhoefmcpniaaGreatDoor
open Go.RowKit

theorem lt_of_cell {w : World} {a : Addr} {v : Value} (h : w.cell? a = some v) : a.block < w.heap.size := by
 rcases Nat.lt_or_ge a.block w.heap.size with hlt | hge
 · exact hlt
 · unfold World.cell? at h; rw [Array.getElem?_eq_none hge] at h; cases h
theorem below_drewN {B : Nat} {a w : World} (h : Below B a w) (n : Nat) : Below B a (w.drewN n) := ⟨h.os, h.tape, h.output, h.size, h.block⟩
theorem Below.cellOf {B : Nat} {w w' : World} (h : Below B w w') {a : Addr} {v : Value} (hB : w.heap.size ≤ B) (hc : w.cell? a = some v) : w'.cell? a = some v :=
 (h.cell (by have := lt_of_cell hc; omega)).trans hc

theorem Bel.step {w p q : World} (h : Below w.heap.size w p) (g : Below p.heap.size p q) : Below w.heap.size w q := h.trans (g.mono h.size)
theorem Bel.alloc {w p : World} {o : Obj} (h : Below w.heap.size w p) : Below w.heap.size w (p.alloc o) := Below.alloc h h.size o

def RdK (k : IntKind) (w : World) (A : Option Addr) (n : Nat) (l : List Int) : Prop :=
 l.length = n ∧ ∀ i x, l[i]? = some x → ∃ b o, A = some ⟨b, o, none⟩ ∧ w.cell? ⟨b, o + i, none⟩ = some (.int k x)
abbrev RdI := RdK .i64
theorem RdK.at_ {k : IntKind} {w : World} {A : Option Addr} {n i : Nat} {l : List Int} (h : RdK k w A n l) (hi : i < n) :
 ∃ b o x, A = some ⟨b, o, none⟩ ∧ l[i]? = some x ∧ w.cell? ⟨b, o + i, none⟩ = some (.int k x) := by
 have hl : i < l.length := by rw [h.1]; exact hi
 obtain ⟨b, o, e, hc⟩ := h.2 i _ (List.getElem?_eq_getElem hl)
 exact ⟨b, o, _, e, List.getElem?_eq_getElem hl, hc⟩
theorem RdK.below {k : IntKind} {w w' : World} {A : Option Addr} {n : Nat} {l : List Int} (h : RdK k w A n l) (hb : Below w.heap.size w w') : RdK k w' A n l :=
 ⟨h.1, fun i x hx => by obtain ⟨b, o, e, hc⟩ := h.2 i x hx; exact ⟨b, o, e, Below.cellOf hb (Nat.le_refl _) hc⟩⟩
def RdB (w : World) (A : Option Addr) (n : Nat) (l : List Bool) : Prop :=
 l.length = n ∧ ∀ i x, l[i]? = some x → ∃ b o, A = some ⟨b, o, none⟩ ∧ w.cell? ⟨b, o + i, none⟩ = some (.bool x)
theorem RdB.at_ {w : World} {A : Option Addr} {n i : Nat} {l : List Bool} (h : RdB w A n l) (hi : i < n) :
 ∃ b o x, A = some ⟨b, o, none⟩ ∧ l[i]? = some x ∧ w.cell? ⟨b, o + i, none⟩ = some (.bool x) := by
 have hl : i < l.length := by rw [h.1]; exact hi
 obtain ⟨b, o, e, hc⟩ := h.2 i _ (List.getElem?_eq_getElem hl)
 exact ⟨b, o, _, e, List.getElem?_eq_getElem hl, hc⟩
theorem RdB.below {w w' : World} {A : Option Addr} {n : Nat} {l : List Bool} (h : RdB w A n l) (hb : Below w.heap.size w w') : RdB w' A n l :=
 ⟨h.1, fun i x hx => by obtain ⟨b, o, e, hc⟩ := h.2 i x hx; exact ⟨b, o, e, Below.cellOf hb (Nat.le_refl _) hc⟩⟩

def RdP (w : World) (A : Option Addr) (n : Nat) (l : List (Int × Int)) : Prop :=
 l.length = n ∧ ∀ i x, l[i]? = some x → ∃ b o, A = some ⟨b, o, none⟩ ∧ w.cell? ⟨b, o + i * 2, none⟩ = some (.int .i64 x.1) ∧ w.cell? ⟨b, o + i * 2 + 1, none⟩ = some (.int .i64 x.2)
theorem RdP.at_ {w : World} {A : Option Addr} {n i : Nat} {l : List (Int × Int)} (h : RdP w A n l) (hi : i < n) :
 ∃ b o x y, A = some ⟨b, o, none⟩ ∧ l[i]? = some (x, y) ∧ w.cell? ⟨b, o + i * 2, none⟩ = some (.int .i64 x) ∧ w.cell? ⟨b, o + i * 2 + 1, none⟩ = some (.int .i64 y) := by
 have hl : i < l.length := by rw [h.1]; exact hi
 obtain ⟨b, o, e, hc⟩ := h.2 i _ (List.getElem?_eq_getElem hl)
 exact ⟨b, o, _, _, e, List.getElem?_eq_getElem hl, hc.1, hc.2⟩
theorem RdP.below {w w' : World} {A : Option Addr} {n : Nat} {l : List (Int × Int)} (h : RdP w A n l) (hb : Below w.heap.size w w') : RdP w' A n l :=
 ⟨h.1, fun i x hx => by obtain ⟨b, o, e, hc, hd⟩ := h.2 i x hx; exact ⟨b, o, e, Below.cellOf hb (Nat.le_refl _) hc, Below.cellOf hb (Nat.le_refl _) hd⟩⟩

def Blk (w : World) (g : Nat) (t : TypeId) (cs : Array Value) : Prop := w.heap[g]? = some (.cells cs t (0, 0))
section
variable {w w' : World} {g : Nat} {t : TypeId} {cs : Array Value}
theorem Blk.lt (h : Blk w g t cs) : g < w.heap.size := by
 rcases Nat.lt_or_ge g w.heap.size with hlt | hge
 · exact hlt
 · unfold Blk at h; rw [Array.getElem?_eq_none hge] at h; cases h
theorem Blk.cell (h : Blk w g t cs) (i : Nat) : w.cell? ⟨g, i, none⟩ = cs[i]? := cell_of_row w g i cs t (0, 0) h
theorem Blk.frozen (h : Blk w g t cs) (i : Nat) : w.frozen? ⟨g, i, none⟩ = false := by
 unfold Blk at h
 simp [World.frozen?, h]
theorem Blk.new (w : World) (t : TypeId) (cs : Array Value) : Blk (w.alloc (.cells cs t)) w.heap.size t cs := heap_alloc_new w _
theorem Blk.new' (w : World) (t : TypeId) (cs : Array Value) {g : Nat} (h : g = w.heap.size) : Blk (w.alloc (.cells cs t)) g t cs := by subst h; exact Blk.new w t cs
theorem Blk.drewN (h : Blk w g t cs) (n : Nat) : Blk (w.drewN n) g t cs := h
theorem Blk.drew (h : Blk w g t cs) : Blk w.drew g t cs := h
theorem Blk.alloc (h : Blk w g t cs) (o : Obj) : Blk (w.alloc o) g t cs := (Below.heap_alloc w o g h.lt).trans h
theorem Blk.set_ (h : Blk w g t cs) (i : Nat) (u : Value) : Blk (w.setCell ⟨g, i, none⟩ u) g t (cs.setIfInBounds i u) := by
 unfold Blk at h ⊢
 simp [World.setCell, Array.getElem?_modify, h]
theorem Blk.far (h : Blk w g t cs) {p : Addr} (hp : g ≠ p.block) (u : Value) : Blk (w.setCell p u) g t cs := (Below.heap_setCell w p u g hp).trans h
theorem Blk.below {B : Nat} (h : Blk w g t cs) (hb : Below B w w') (hg : g < B) : Blk w' g t cs := (hb.block g hg).trans h
end

def zeros (z : Value) (n : Nat) : Array Value := (List.replicate n z).toArray
def ints (l : List Int) : Array Value := (l.map (Value.int .i64)).toArray
def bools (l : List Bool) : Array Value := (l.map Value.bool).toArray
theorem zeros_int (n : Nat) : zeros (.int .i64 0) n = ints (List.replicate n 0) := by simp [zeros, ints]
theorem ints_get (l : List Int) (i : Nat) : (ints l)[i]? = (l[i]?).map (Value.int .i64) := by simp [ints]
theorem bools_get (l : List Bool) (i : Nat) : (bools l)[i]? = (l[i]?).map Value.bool := by simp [bools]
theorem ints_set (l : List Int) (i : Nat) (x : Int) : (ints l).setIfInBounds i (.int .i64 x) = ints (l.set i x) := by simp [ints, List.map_set]
theorem bools_set (l : List Bool) (i : Nat) (x : Bool) : (bools l).setIfInBounds i (.bool x) = bools (l.set i x) := by simp [bools, List.map_set]
theorem Blk.rdI {w : World} {g : Nat} {t : TypeId} {l : List Int} (h : Blk w g t (ints l)) {n : Nat} (hn : l.length = n) : RdI w (some ⟨g, 0, none⟩) n l :=
 ⟨hn, fun i x hx => ⟨g, 0, rfl, by rw [Nat.zero_add, h.cell, ints_get, hx]; rfl⟩⟩
theorem Blk.rdB {w : World} {g : Nat} {t : TypeId} {l : List Bool} (h : Blk w g t (bools l)) {n : Nat} (hn : l.length = n) : RdB w (some ⟨g, 0, none⟩) n l :=
 ⟨hn, fun i x hx => ⟨g, 0, rfl, by rw [Nat.zero_add, h.cell, bools_get, hx]; rfl⟩⟩
theorem Blk.cellI {w : World} {g i : Nat} {t : TypeId} {l : List Int} {x : Int} (h : Blk w g t (ints l)) (hx : l[i]? = some x) : w.cell? ⟨g, i, none⟩ = some (.int .i64 x) := by
 rw [h.cell, ints_get, hx]; rfl
theorem Blk.cellB {w : World} {g i : Nat} {t : TypeId} {l : List Bool} {x : Bool} (h : Blk w g t (bools l)) (hx : l[i]? = some x) : w.cell? ⟨g, i, none⟩ = some (.bool x) := by
 rw [h.cell, bools_get, hx]; rfl

theorem run_make1 {P : Program} (t e : TypeId) (z : Value) (by_ : Nat) (hinfo : (P.info? e).map (fun i => (i.zero, i.size, i.bytes)) = some (some z, 1, by_)) (ht : P.underlying t = some (.slice e)) (hz1 : z.cells = #[z])
 (n : Nat) (hb : by_ * n ≤ 281474976710656) (h63 : n ≤ 9223372036854775807) (kl kc : IntKind) (w : World) :
 (Instr.makeSlice t (.int kl (n : Int)) (.int kc (n : Int))).run P w = .ok (.slice (some ⟨w.heap.size, 0, none⟩) n n) (w.alloc (.cells (zeros z n) e)) := by
 obtain ⟨i, hi, hz, hs, hbb⟩ := info_parts hinfo
 have hb' : (i.bytes : Int) * (n : Int) ≤ 281474976710656 := by
  rw [hbb]
  have h : ((by_ * n : Nat) : Int) ≤ 281474976710656 := by omega
  rwa [Int.natCast_mul] at h
 have hr := run_make (P := P) w t e i z ht hi hz kl kc n n (by omega) (by omega) hb' (by omega)
 simp only [Int.toNat_natCast] at hr
 have hm : madeCells z.cells (n * i.size) = zeros z n := by
  rw [hs, Nat.mul_one, hz1]
  apply Array.ext'
  rw [toList_madeCells_one]
  simp [zeros]
 rw [hm] at hr
 exact hr

def cutA (s : Nat) (A : Option Addr) (m c : Nat) : Option Addr := if c = m then A else A.map (·.add (m * s))
theorem run_cut_l {P : Program} (t e : TypeId) (s : Nat) (ht : P.underlying t = some (.slice e)) (he : P.elem t = e) (hs : (P.info? e).map (·.size) = some s) (A : Option Addr) (n c m r : Nat) (hm : m ≤ n) (hr : n - m = r) (k : IntKind) (x : Int) (hx : x = m) (w : World) :
 (Instr.slice t (.slice A n c) (some (.int k x)) none none).run P w = .ok (.slice (cutA s A m c) r (c - m)) w := by
 subst hx; subst hr
 rw [run_slice_l (P := P) w t A n c (by rw [he]; exact ht) k m (by omega) (by omega), he]
 cases hi : P.info? e with
 | none => rw [hi] at hs; cases hs
 | some i =>
  rw [hi] at hs
  simp at hs
  simp [sizeOf, typeInfo, hi, Result.andThen, hs, sliced, cutA]
theorem RdK.cut {k : IntKind} {w : World} {A : Option Addr} {n m c r : Nat} {l : List Int} (h : RdK k w A n l) (hm : m ≤ n) (hr : n - m = r) (hc : n ≤ c) : RdK k w (cutA 1 A m c) r (l.drop m) :=
 ⟨by rw [List.length_drop, h.1, hr], fun i x hx => by
  rw [List.getElem?_drop] at hx
  obtain ⟨b, o, rfl, hcell⟩ := h.2 _ x hx
  have hlt : m + i < l.length := (List.getElem?_eq_some_iff.1 hx).1
  rw [h.1] at hlt
  unfold cutA
  rw [if_neg (by omega)]
  refine ⟨b, o + m, ?_, by rw [Nat.add_assoc]; exact hcell⟩
  simp only [Option.map_some, Addr.add]
  split
  · rename_i h0; rw [show m = 0 by omega]; rfl
  · simp⟩
theorem RdK.take {k : IntKind} {w : World} {A : Option Addr} {n m : Nat} {l : List Int} (h : RdK k w A n l) (hm : m ≤ n) : RdK k w A m (l.take m) :=
 ⟨by rw [List.length_take, h.1]; omega, fun i x hx => h.2 i x (by rw [List.getElem?_take] at hx; split at hx; exact hx; cases hx)⟩

theorem Blk.setI {w : World} {g i : Nat} {t : TypeId} {l l' : List Int} {x : Int} (h : Blk w g t (ints l)) (e : l.set i x = l') : Blk (w.setCell ⟨g, i, none⟩ (.int .i64 x)) g t (ints l') := by
 have := h.set_ i (.int .i64 x)
 rwa [ints_set, e] at this
theorem Blk.setB {w : World} {g i : Nat} {t : TypeId} {l l' : List Bool} {x : Bool} (h : Blk w g t (bools l)) (e : l.set i x = l') : Blk (w.setCell ⟨g, i, none⟩ (.bool x)) g t (bools l') := by
 have := h.set_ i (.bool x)
 rwa [bools_set, e] at this
theorem wp_named {P : Program} {c : Code} {Q : Exit → Act → World → Prop} {a : Act} {w : World} (h : ∀ W, W = w → c.wp P Q a W) : c.wp P Q a w := h w rfl
theorem Bel.setCell_ {w p : World} {b o : Nat} {u : Value} (h : Below w.heap.size w p) (hp : w.heap.size ≤ b) : Below w.heap.size w (p.setCell ⟨b, o, none⟩ u) := Below.setCell h hp u
theorem Blk.far_ {w : World} {g : Nat} {t : TypeId} {cs : Array Value} {b o : Nat} (h : Blk w g t cs) (hp : g ≠ b) (u : Value) : Blk (w.setCell ⟨b, o, none⟩ u) g t cs := h.far hp u

end Go.Proofs.YtpffhoefmcpniaaGreatDoor

namespace Go.Proofs.YtpffhoefmcpniaaGreatDoor
open Go.RowKit

theorem add_mk (b o j : Nat) : (⟨b, o, none⟩ : Addr).add j = ⟨b, o + j, none⟩ := by
 cases j <;> simp [Addr.add]
def Rds (w : World) (s : Nat) (A : Option Addr) (m : Nat) (xs : List Value) : Prop :=
 xs.length = m * s ∧ ∀ j u, xs[j]? = some u → ∃ b o, A = some ⟨b, o, none⟩ ∧ w.cell? ⟨b, o + j, none⟩ = some u
theorem Rds.below {w w' : World} {s m : Nat} {A : Option Addr} {xs : List Value} (h : Rds w s A m xs) (hb : Below w.heap.size w w') : Rds w' s A m xs :=
 ⟨h.1, fun i x hx => by obtain ⟨b, o, e, hc⟩ := h.2 i x hx; exact ⟨b, o, e, Below.cellOf hb (Nat.le_refl _) hc⟩⟩
theorem Blk.rds {w : World} {g s m : Nat} {t : TypeId} {cs : Array Value} (h : Blk w g t cs) (hl : cs.size = m * s) : Rds w s (some ⟨g, 0, none⟩) m cs.toList :=
 ⟨by simpa using hl, fun j u hu => ⟨g, 0, rfl, by rw [Nat.zero_add, h.cell]; simpa using hu⟩⟩
theorem RdK.rds {k : IntKind} {w : World} {n : Nat} {A : Option Addr} {l : List Int} (h : RdK k w A n l) : Rds w 1 A n (l.map (Value.int k)) :=
 ⟨by simp [h.1], fun j u hu => by
  rw [List.getElem?_map] at hu
  cases hx : l[j]? with
  | none => rw [hx] at hu; cases hu
  | some x => rw [hx] at hu; cases hu; exact h.2 j x hx⟩
def pcells : List (Int × Int) → List Value
 | [] => []
 | p :: t => .int .i64 p.1 :: .int .i64 p.2 :: pcells t
theorem pcells_len : ∀ l : List (Int × Int), (pcells l).length = l.length * 2
 | [] => rfl
 | _ :: t => by simp [pcells, pcells_len t]; omega
theorem pcells_app : ∀ l m : List (Int × Int), pcells (l ++ m) = pcells l ++ pcells m
 | [], _ => rfl
 | p :: t, m => by simp [pcells, pcells_app t m]
theorem pcells_fst : ∀ {l : List (Int × Int)} {i : Nat} {p : Int × Int}, l[i]? = some p → (pcells l)[i * 2]? = some (.int .i64 p.1) ∧ (pcells l)[i * 2 + 1]? = some (.int .i64 p.2)
 | [], i, p, h => by simp at h
 | q :: t, 0, p, h => by simp at h; subst h; simp [pcells]
 | q :: t, i + 1, p, h => by
  have := pcells_fst (l := t) (i := i) (p := p) (by simpa using h)
  rw [show (i + 1) * 2 = i * 2 + 1 + 1 by omega]
  simpa [pcells] using this
theorem pcells_at : ∀ {l : List (Int × Int)} {j : Nat} {u : Value}, (pcells l)[j]? = some u → ∃ p, l[j / 2]? = some p ∧ ((j % 2 = 0 ∧ u = .int .i64 p.1) ∨ (j % 2 = 1 ∧ u = .int .i64 p.2))
 | [], j, u, h => by simp [pcells] at h
 | q :: t, 0, u, h => by simp [pcells] at h; exact ⟨q, by simp, .inl ⟨rfl, h.symm⟩⟩
 | q :: t, 1, u, h => by simp [pcells] at h; exact ⟨q, by simp, .inr ⟨rfl, h.symm⟩⟩
 | q :: t, j + 2, u, h => by
  obtain ⟨p, h1, h2⟩ := pcells_at (l := t) (j := j) (u := u) (by simpa [pcells] using h)
  refine ⟨p, ?_, ?_⟩
  · rw [show (j + 2) / 2 = j / 2 + 1 by omega]; simpa using h1
  · rw [show (j + 2) % 2 = j % 2 by omega]; exact h2
theorem Rds.rdP {w : World} {n : Nat} {A : Option Addr} {l : List (Int × Int)} (h : Rds w 2 A n (pcells l)) : RdP w A n l :=
 ⟨by have := h.1; rw [pcells_len] at this; omega, fun i p hp => by
  obtain ⟨h1, h2⟩ := pcells_fst hp
  obtain ⟨b, o, e, c1⟩ := h.2 _ _ h1
  obtain ⟨b', o', e', c2⟩ := h.2 _ _ h2
  rw [e] at e'; cases e'
  exact ⟨b, o, e, c1, by rw [Nat.add_assoc]; exact c2⟩⟩
theorem Rds.rdK {k : IntKind} {w : World} {n : Nat} {A : Option Addr} {l : List Int} (h : Rds w 1 A n (l.map (Value.int k))) : RdK k w A n l :=
 ⟨by have := h.1; simpa using this, fun i x hx => h.2 i _ (by rw [List.getElem?_map, hx]; rfl)⟩
theorem pcells_one (l : List (Int × Int)) : ∀ u ∈ pcells l, u.oneCell' = true := by
 intro u hu
 obtain ⟨j, hj, e⟩ := List.getElem_of_mem hu
 obtain ⟨p, _, h⟩ := pcells_at (l := l) (j := j) (u := u) (by rw [List.getElem?_eq_getElem hj, e])
 rcases h with ⟨_, rfl⟩ | ⟨_, rfl⟩ <;> rfl
theorem ints_one (k : IntKind) (l : List Int) : ∀ u ∈ l.map (Value.int k), u.oneCell' = true := by
 intro u hu; obtain ⟨x, _, rfl⟩ := List.mem_map.1 hu; rfl
def icells (l : List Int) : List Value := l.map (Value.int .i64)
theorem icells_app (l m : List Int) : icells (l ++ m) = icells l ++ icells m := by simp [icells]
theorem Rds.rdI {w : World} {n : Nat} {A : Option Addr} {l : List Int} (h : Rds w 1 A n (icells l)) : RdI w A n l := Rds.rdK h
theorem RdK.rdsI {w : World} {n : Nat} {A : Option Addr} {l : List Int} (h : RdI w A n l) : Rds w 1 A n (icells l) := RdK.rds h
theorem icells_one (l : List Int) : ∀ u ∈ icells l, u.oneCell' = true := ints_one .i64 l
def blkOf (A : Option Addr) : Option Nat := A.map (·.block)
def Own (w : World) (B : Nat) (e : TypeId) (s : Nat) (A : Option Addr) (n c : Nat) (xs : List Value) : Prop := w.ownsRow B e s (.slice A n c) n xs
section
variable {w w' : World} {B s n c : Nat} {e : TypeId} {A : Option Addr} {xs : List Value}
theorem Own.nil (w : World) (B s : Nat) (e : TypeId) : Own w B e s none 0 0 [] := World.ownsRow_nil w B e s
theorem Own.lit (w : World) (cs : Array Value) (n : Nat) (hb : B ≤ w.heap.size) (hm : n ≤ 9223372036854775807) (hs : cs.size = n * s) : Own (w.alloc (.cells cs e)) B e s (some ⟨w.heap.size, 0, none⟩) n n cs.toList :=
 World.ownsRow_lit w cs n hb (by unfold maxLen; omega) hs
theorem Own.drewN (h : Own w B e s A n c xs) (k : Nat) : Own (w.drewN k) B e s A n c xs := h
theorem Own.drew (h : Own w B e s A n c xs) : Own w.drew B e s A n c xs := h
theorem Own.alloc (h : Own w B e s A n c xs) (o : Obj) : Own (w.alloc o) B e s A n c xs := World.ownsRow.alloc h o
theorem Own.lt (h : Own w B e s A n c xs) : ∀ k, blkOf A = some k → B ≤ k ∧ k < w.heap.size := by
 intro k hk
 have := World.ownsRow.lt h k
 cases A with
 | none => cases hk
 | some a => exact this hk
theorem Own.below (h : Own w B e s A n c xs) (hb : Below w.heap.size w w') : Own w' B e s A n c xs := by
 refine World.ownsRow.kept (row := none) h ⟨hb.os, hb.tape, hb.output, hb.size, fun k hk _ => hb.block k hk⟩ ?_
 cases A with
 | none => exact .inl rfl
 | some a => exact .inr (by simp [Value.ownBlock])
theorem Own.far (h : Own w B e s A n c xs) {row : Option Nat} (hg : w.grownBy w' row) (hne : blkOf A = none ∨ blkOf A ≠ row) : Own w' B e s A n c xs := by
 refine World.ownsRow.kept h hg ?_
 cases A with
 | none => exact .inl rfl
 | some a => rcases hne with h | h; cases h; exact .inr h
theorem Own.rds (h : Own w B e s A n c xs) : Rds w s A n xs := by
 refine ⟨h.1, fun j u hu => ?_⟩
 have hc := h
 rcases h.2 with ⟨h', h0⟩ | ⟨g, cap, cur, h', _, _⟩
 · have := h.1
   rw [h0, Nat.zero_mul] at this
   rw [List.eq_nil_of_length_eq_zero this] at hu
   cases hu
 · cases h'
   have := World.ownsRow.cells hc (g := g) rfl j u hu
   rw [add_mk] at this
   exact ⟨g, 0, rfl, this⟩
theorem Own.shape {v : Value} (h : w.ownsRow B e s v n xs) : ∃ A c, v = .slice A n c := by
 rcases h.2 with ⟨rfl, rfl⟩ | ⟨g, cap, cur, rfl, _⟩
 · exact ⟨_, _, rfl⟩
 · exact ⟨_, _, rfl⟩
theorem Own.cap (h : Own w B e s A n c xs) : n ≤ c := by
 rcases h.2 with ⟨h', h0⟩ | ⟨g, cap, cur, h1, _, _, h3, _⟩
 · cases h'; omega
 · cases h1; exact h3
theorem Own.mono (h : Own w B e s A n c xs) {B' : Nat} (hB : B' ≤ B) : Own w B' e s A n c xs := by
 refine ⟨h.1, ?_⟩
 rcases h.2 with h' | ⟨g, cap, cur, h1, h2, h3⟩
 · exact .inl h'
 · exact .inr ⟨g, cap, cur, h1, by omega, h3⟩
end

section
variable {P : Program}
theorem run_app (w : World) (t ty e : TypeId) (z : Value) (s by_ : Nat) (hinfo : (P.info? e).map (fun i => (i.zero, i.size, i.bytes)) = some (some z, s, by_)) (ht : P.underlying t = some (.slice e)) (hzs : z.cells.size = s) (hs0 : 0 < s)
 {B n c m c2 : Nat} {A X : Option Addr} {xs news : List Value} (hown : Own w B e s A n c xs) (hr : Rds w s X m news) (h1 : ∀ u ∈ news, u.oneCell' = true)
 (hn : (n + m) * by_ ≤ 140737488355328) (hnm : n + m ≤ 9223372036854775807) (hB : B ≤ w.heap.size) :
 ∃ A' c' w', (Builtin.append_ #[t, t] ty #[.slice A n c, .slice X m c2]).run P w = .ok (.slice A' (n + m) c') w' ∧ Own w' B e s A' (n + m) c' (xs ++ news) ∧ w.grownBy w' (blkOf A) ∧ (blkOf A' = blkOf A ∨ blkOf A' = some w.heap.size) := by
 obtain ⟨i, hi, hz, hs, hb⟩ := info_parts hinfo
 have hob : ∀ (Y : Option Addr) (k d : Nat), (Value.slice Y k d).ownBlock = blkOf Y := fun Y k d => by cases Y <;> rfl
 cases hm : news with
 | nil =>
  have hm0 : m = 0 := by
   have := hr.1
   rw [hm] at this
   rcases Nat.eq_zero_or_pos m with h0 | h0
   · exact h0
   · have : 0 < m * s := Nat.mul_pos h0 hs0
     simp at *
     omega
  subst hm0
  cases X with
  | none =>
   refine ⟨A, c, w, ?_, by simpa using hown, World.grownBy.refl w _, .inl rfl⟩
   rcases hown.2 with ⟨h', h0⟩ | ⟨g, cap, cur, h', _, _, hnc, _⟩
   · cases h'
     simp [Builtin.append_, run_underlying ht, sizeOf, typeInfo, hi, Builtin.lenOf, Builtin.firstCells]
   · cases h'
     simp [Builtin.append_, run_underlying ht, sizeOf, typeInfo, hi, Builtin.lenOf, Builtin.firstCells, hnc, storeCells]
  | some ad =>
   obtain ⟨v', w', hrun, h2, h3, _, h5⟩ := run_append_own_at (P := P) w B t ty e i z s by_ ht hi hz hs hb hzs hs0 _ n xs hown ad 0 c2 [] (by simp) (fun j u hu => by cases hu) (fun u hu => by cases hu) (by unfold maxLen; omega) hn hB
   obtain ⟨A', c', rfl⟩ := Own.shape h2
   rw [hob, hob] at h5
   rw [hob] at h3
   exact ⟨A', c', w', hrun, h2, h3, h5⟩
 | cons u0 tl =>
  obtain ⟨b, o, rfl, _⟩ := hr.2 0 u0 (by rw [hm]; rfl)
  rw [← hm]
  obtain ⟨v', w', hrun, h2, h3, _, h5⟩ := run_append_own_at (P := P) w B t ty e i z s by_ ht hi hz hs hb hzs hs0 _ n xs hown ⟨b, o, none⟩ m c2 news hr.1
   (fun j u hu => by obtain ⟨b', o', e', hc⟩ := hr.2 j u hu; cases e'; rw [add_mk]; exact hc) h1 (by unfold maxLen; omega) hn hB
  obtain ⟨A', c', rfl⟩ := Own.shape h2
  rw [hob, hob] at h5
  rw [hob] at h3
  exact ⟨A', c', w', hrun, h2, h3, h5⟩

theorem wp_app {w : World} {o : Oper} {a : Act} {K : Act → World → Prop} {Q : Exit → Act → World → Prop} (s x : Operand) (t : TypeId)
 (ho : o.op = .call { callee := .builtin .append, args := #[s, x], argTypes := #[t, t] })
 (e : TypeId) (z : Value) (sz by_ : Nat) (hinfo : (P.info? e).map (fun i => (i.zero, i.size, i.bytes)) = some (some z, sz, by_)) (ht : P.underlying t = some (.slice e)) (hzs : z.cells.size = sz) (hs0 : 0 < sz)
 {B n c m c2 : Nat} {A X : Option Addr} {xs news : List Value} (hs : a.eval s = .slice A n c) (hx : a.eval x = .slice X m c2)
 (hown : Own w B e sz A n c xs) (hr : Rds w sz X m news) (h1 : ∀ u ∈ news, u.oneCell' = true) (hn : (n + m) * by_ ≤ 140737488355328) (hnm : n + m ≤ 9223372036854775807) (hB : B ≤ w.heap.size)
 (h : ∀ A' c' w', Own w' B e sz A' (n + m) c' (xs ++ news) → w.grownBy w' (blkOf A) → (blkOf A' = blkOf A ∨ blkOf A' = some w.heap.size) → K (a.put o.dst (.slice A' (n + m) c')) w') : o.wp P a w K Q := by
 obtain ⟨A', c', w', hrun, h2, h3, h4⟩ := run_app (P := P) w t o.type e z sz by_ hinfo ht hzs hs0 (c2 := c2) hown hr h1 hn hnm hB
 unfold Oper.wp execOp
 simp only [ho, resolve, invoke, builtin, Sem.run_bind, Sem.run_pure, Result.andThen_ok, List.map_toArray, List.map_cons, List.map_nil, hs, hx, hrun]
 exact h A' c' w' h2 h3 h4

theorem wpList_app {w : World} {ops : Array Oper} {rest : List Oper} {o : Oper} {a : Act} {Q : Exit → Act → World → Prop} (hgd : o.guard = none) (s x : Operand) (t : TypeId)
 (ho : o.op = .call { callee := .builtin .append, args := #[s, x], argTypes := #[t, t] })
 (e : TypeId) (z : Value) (sz by_ : Nat) (hinfo : (P.info? e).map (fun i => (i.zero, i.size, i.bytes)) = some (some z, sz, by_)) (ht : P.underlying t = some (.slice e)) (hzs : z.cells.size = sz) (hs0 : 0 < sz)
 {B n c m c2 : Nat} {A X : Option Addr} {xs news : List Value} (hs : a.eval s = .slice A n c) (hx : a.eval x = .slice X m c2)
 (hown : Own w B e sz A n c xs) (hr : Rds w sz X m news) (h1 : ∀ u ∈ news, u.oneCell' = true) (hn : (n + m) * by_ ≤ 140737488355328) (hnm : n + m ≤ 9223372036854775807) (hB : B ≤ w.heap.size)
 (h : ∀ A' c' w', Own w' B e sz A' (n + m) c' (xs ++ news) → w.grownBy w' (blkOf A) → (blkOf A' = blkOf A ∨ blkOf A' = some w.heap.size) → wpList P ops Q rest (a.put o.dst (.slice A' (n + m) c')) w') : wpList P ops Q (o :: rest) a w :=
 wpList_plain hgd fun _ hK => wp_app s x t ho e z sz by_ hinfo ht hzs hs0 hs hx hown hr h1 hn hnm hB fun A' c' w' h2 h3 h4 => hK _ _ (h A' c' w' h2 h3 h4)

theorem step_app {w : World} {ops : Array Oper} {o : Oper} {a : Act} {K : Act → World → Prop} {Q : Exit → Act → World → Prop} {E : Prop} (hgd : o.guard = none) (s x : Operand) (t : TypeId)
 (ho : o.op = .call { callee := .builtin .append, args := #[s, x], argTypes := #[t, t] })
 (e : TypeId) (z : Value) (sz by_ : Nat) (hinfo : (P.info? e).map (fun i => (i.zero, i.size, i.bytes)) = some (some z, sz, by_)) (ht : P.underlying t = some (.slice e)) (hzs : z.cells.size = sz) (hs0 : 0 < sz)
 {B n c m c2 : Nat} {A X : Option Addr} {xs news : List Value} (hs : a.eval s = .slice A n c) (hx : a.eval x = .slice X m c2)
 (hown : Own w B e sz A n c xs) (hr : Rds w sz X m news) (h1 : ∀ u ∈ news, u.oneCell' = true) (hn : (n + m) * by_ ≤ 140737488355328) (hnm : n + m ≤ 9223372036854775807) (hB : B ≤ w.heap.size)
 (h : ∀ A' c' w', Own w' B e sz A' (n + m) c' (xs ++ news) → w.grownBy w' (blkOf A) → (blkOf A' = blkOf A ∨ blkOf A' = some w.heap.size) → K (a.put o.dst (.slice A' (n + m) c')) w') :
 if Region.wanted o (yielded ops a.tmps) = true then Oper.wp P o a w K Q else E := by
 have hw : Region.wanted o (yielded ops a.tmps) = true := by simp [Region.wanted, hgd]
 rw [if_pos hw]
 exact wp_app s x t ho e z sz by_ hinfo ht hzs hs0 hs hx hown hr h1 hn hnm hB h
end

def Dj (A A' : Option Addr) : Prop := blkOf A = none ∨ blkOf A' = none ∨ blkOf A ≠ blkOf A'
theorem Dj.symm {A A' : Option Addr} (h : Dj A A') : Dj A' A := by
 rcases h with h | h | h
 · exact .inr (.inl h)
 · exact .inl h
 · exact .inr (.inr (Ne.symm h))
theorem Dj.far {A A' : Option Addr} (h : Dj A A') : blkOf A' = none ∨ blkOf A' ≠ blkOf A := by
 rcases h with h | h | h
 · cases hA : blkOf A' with
   | none => exact .inl rfl
   | some g => right; rw [h]; exact fun e => by cases e
 · exact .inl h
 · exact .inr (Ne.symm h)
theorem Dj.next {w : World} {B s n c : Nat} {e : TypeId} {A A' A2 : Option Addr} {xs : List Value} (h : Dj A A') (ho : Own w B e s A' n c xs) (hat : blkOf A2 = blkOf A ∨ blkOf A2 = some w.heap.size) : Dj A2 A' := by
 rcases hat with hat | hat
 · unfold Dj; rw [hat]; exact h
 · cases hA : blkOf A' with
   | none => exact .inr (.inl hA)
   | some g =>
    have := (Own.lt ho g hA).2
    exact .inr (.inr (by rw [hat, hA]; intro e; injection e; omega))

theorem Bel.grownOwn {B : Nat} {a w w' : World} {e : TypeId} {s n c : Nat} {A : Option Addr} {xs : List Value} (h : Below B a w) (hg : w.grownBy w' (blkOf A)) (hown : Own w B e s A n c xs) (hB : B ≤ w.heap.size) : Below B a w' :=
 h.grown hg hB fun k hk => (hown.lt k hk).1
end Go.Proofs.YtpffhoefmcpniaaGreatDoor
