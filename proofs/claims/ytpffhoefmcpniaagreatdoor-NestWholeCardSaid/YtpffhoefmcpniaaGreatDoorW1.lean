/- Parts of the proof: Voc. -/
import Derived.Test.YtpffhoefmcpniaaGreatDoorProg
import Derived.WalkKit
import Derived.Lib.Hide
import Derived.Deep.AppendLies
import Derived.Deep.Draws
import Derived.Laws.OwnMore
/- Words for memory: what a slice reads as, what a call leaves as it was. Lemmas alone. -/
namespace Go.Proofs.YtpffhoefmcpniaaGreatDoor
open Go.RowKit

theorem block_of_add (a : Addr) (n : Nat) : (a.add n).block = a.block := by unfold Addr.add; split <;> rfl
theorem add_of_add (a : Addr) (i j : Nat) : (a.add i).add j = a.add (i + j) := by
  unfold Addr.add
  by_cases hi : i = 0 <;> by_cases hj : j = 0 <;> simp [hi, hj, Nat.add_assoc]
theorem lt_of_cell {w : World} {a : Addr} {v : Value} (h : w.cell? a = some v) : a.block < w.heap.size := by
  rcases Nat.lt_or_ge a.block w.heap.size with hlt | hge
  · exact hlt
  · unfold World.cell? at h; rw [Array.getElem?_eq_none hge] at h; cases h
theorem below_drewN {B : Nat} {a w : World} (h : Below B a w) (n : Nat) : Below B a (w.drewN n) := ⟨h.os, h.tape, h.output, h.size, h.block⟩
theorem Below.cellOf {B : Nat} {w w' : World} (h : Below B w w') {a : Addr} {v : Value} (hB : w.heap.size ≤ B) (hc : w.cell? a = some v) : w'.cell? a = some v :=
  (h.cell (by have := lt_of_cell hc; omega)).trans hc

/-- one step more -/
theorem Bel.step {w p q : World} (h : Below w.heap.size w p) (g : Below p.heap.size p q) : Below w.heap.size w q := h.trans (g.mono h.size)
theorem Bel.same {w q : World} (h : Below w.heap.size w q) : Below w.heap.size w q := h
theorem Bel.alloc {w p : World} {o : Obj} (h : Below w.heap.size w p) : Below w.heap.size w (p.alloc o) := Below.alloc h h.size o

/-- A slice of integers of kind k reads as l. -/
def RdK (k : IntKind) (w : World) (A : Option Addr) (n : Nat) (l : List Int) : Prop :=
  l.length = n ∧ ∀ i x, l[i]? = some x → ∃ b o, A = some ⟨b, o, none⟩ ∧ w.cell? ⟨b, o + i, none⟩ = some (.int k x)
abbrev RdI := RdK .i64
theorem RdK.len {k : IntKind} {w : World} {A : Option Addr} {n : Nat} {l : List Int} (h : RdK k w A n l) : l.length = n := h.1
theorem RdK.at_ {k : IntKind} {w : World} {A : Option Addr} {n i : Nat} {l : List Int} (h : RdK k w A n l) (hi : i < n) :
    ∃ b o x, A = some ⟨b, o, none⟩ ∧ l[i]? = some x ∧ w.cell? ⟨b, o + i, none⟩ = some (.int k x) := by
  have hl : i < l.length := by rw [h.1]; exact hi
  obtain ⟨b, o, e, hc⟩ := h.2 i _ (List.getElem?_eq_getElem hl)
  exact ⟨b, o, _, e, List.getElem?_eq_getElem hl, hc⟩
theorem RdK.below {k : IntKind} {w w' : World} {A : Option Addr} {n : Nat} {l : List Int} (h : RdK k w A n l) (hb : Below w.heap.size w w') : RdK k w' A n l :=
  ⟨h.1, fun i x hx => by obtain ⟨b, o, e, hc⟩ := h.2 i x hx; exact ⟨b, o, e, Below.cellOf hb (Nat.le_refl _) hc⟩⟩
theorem RdK.keep {k : IntKind} {w w' : World} {A : Option Addr} {n B : Nat} {l : List Int} (h : RdK k w A n l) (hb : Below B w w') (hB : w.heap.size ≤ B) : RdK k w' A n l :=
  h.below (hb.mono hB)

/-- A slice of truths reads as l. -/
def RdB (w : World) (A : Option Addr) (n : Nat) (l : List Bool) : Prop :=
  l.length = n ∧ ∀ i x, l[i]? = some x → ∃ b o, A = some ⟨b, o, none⟩ ∧ w.cell? ⟨b, o + i, none⟩ = some (.bool x)
theorem RdB.at_ {w : World} {A : Option Addr} {n i : Nat} {l : List Bool} (h : RdB w A n l) (hi : i < n) :
    ∃ b o x, A = some ⟨b, o, none⟩ ∧ l[i]? = some x ∧ w.cell? ⟨b, o + i, none⟩ = some (.bool x) := by
  have hl : i < l.length := by rw [h.1]; exact hi
  obtain ⟨b, o, e, hc⟩ := h.2 i _ (List.getElem?_eq_getElem hl)
  exact ⟨b, o, _, e, List.getElem?_eq_getElem hl, hc⟩
theorem RdB.below {w w' : World} {A : Option Addr} {n : Nat} {l : List Bool} (h : RdB w A n l) (hb : Below w.heap.size w w') : RdB w' A n l :=
  ⟨h.1, fun i x hx => by obtain ⟨b, o, e, hc⟩ := h.2 i x hx; exact ⟨b, o, e, Below.cellOf hb (Nat.le_refl _) hc⟩⟩

/-- A slice of pairs of ints reads as l. -/
def RdP (w : World) (A : Option Addr) (n : Nat) (l : List (Int × Int)) : Prop :=
  l.length = n ∧ ∀ i x, l[i]? = some x → ∃ b o, A = some ⟨b, o, none⟩ ∧ w.cell? ⟨b, o + i * 2, none⟩ = some (.int .i64 x.1) ∧ w.cell? ⟨b, o + i * 2 + 1, none⟩ = some (.int .i64 x.2)
theorem RdP.at_ {w : World} {A : Option Addr} {n i : Nat} {l : List (Int × Int)} (h : RdP w A n l) (hi : i < n) :
    ∃ b o x y, A = some ⟨b, o, none⟩ ∧ l[i]? = some (x, y) ∧ w.cell? ⟨b, o + i * 2, none⟩ = some (.int .i64 x) ∧ w.cell? ⟨b, o + i * 2 + 1, none⟩ = some (.int .i64 y) := by
  have hl : i < l.length := by rw [h.1]; exact hi
  obtain ⟨b, o, e, hc⟩ := h.2 i _ (List.getElem?_eq_getElem hl)
  exact ⟨b, o, _, _, e, List.getElem?_eq_getElem hl, hc.1, hc.2⟩
theorem RdP.below {w w' : World} {A : Option Addr} {n : Nat} {l : List (Int × Int)} (h : RdP w A n l) (hb : Below w.heap.size w w') : RdP w' A n l :=
  ⟨h.1, fun i x hx => by obtain ⟨b, o, e, hc, hd⟩ := h.2 i x hx; exact ⟨b, o, e, Below.cellOf hb (Nat.le_refl _) hc, Below.cellOf hb (Nat.le_refl _) hd⟩⟩

/-- Block g is just the cells cs of element type t, none frozen. -/
def Blk (w : World) (g : Nat) (t : TypeId) (cs : Array Value) : Prop := w.heap[g]? = some (.cells cs t (0, 0))
section
variable {w w' : World} {g : Nat} {t : TypeId} {cs : Array Value}
theorem Blk.lt (h : Blk w g t cs) : g < w.heap.size := by
  rcases Nat.lt_or_ge g w.heap.size with hlt | hge
  · exact hlt
  · unfold Blk at h; rw [Array.getElem?_eq_none hge] at h; cases h
theorem Blk.cell (h : Blk w g t cs) (i : Nat) : w.cell? ⟨g, i, none⟩ = cs[i]? := cell_of_row w g i cs t (0, 0) h
theorem Blk.frozen (h : Blk w g t cs) (i : Nat) : w.frozen? ⟨g, i, none⟩ = false := by
  unfold Blk at h
  simp [World.frozen?, h]
theorem Blk.new (w : World) (t : TypeId) (cs : Array Value) : Blk (w.alloc (.cells cs t)) w.heap.size t cs := heap_alloc_new w _
theorem Blk.new' (w : World) (t : TypeId) (cs : Array Value) {g : Nat} (h : g = w.heap.size) : Blk (w.alloc (.cells cs t)) g t cs := by subst h; exact Blk.new w t cs
theorem Blk.drewN (h : Blk w g t cs) (n : Nat) : Blk (w.drewN n) g t cs := h
theorem Blk.drew (h : Blk w g t cs) : Blk w.drew g t cs := h
theorem Blk.alloc (h : Blk w g t cs) (o : Obj) : Blk (w.alloc o) g t cs := (Below.heap_alloc w o g h.lt).trans h
theorem Blk.set_ (h : Blk w g t cs) (i : Nat) (u : Value) : Blk (w.setCell ⟨g, i, none⟩ u) g t (cs.setIfInBounds i u) := by
  unfold Blk at h ⊢
  simp [World.setCell, Array.getElem?_modify, h]
theorem Blk.far (h : Blk w g t cs) {p : Addr} (hp : g ≠ p.block) (u : Value) : Blk (w.setCell p u) g t cs := (Below.heap_setCell w p u g hp).trans h
theorem Blk.below {B : Nat} (h : Blk w g t cs) (hb : Below B w w') (hg : g < B) : Blk w' g t cs := (hb.block g hg).trans h
end

/-- n times z, as cells; ints, truths as cells. Plain definitions: the walk does not open them. -/
def zeros (z : Value) (n : Nat) : Array Value := (List.replicate n z).toArray
def ints (l : List Int) : Array Value := (l.map (Value.int .i64)).toArray
def bools (l : List Bool) : Array Value := (l.map Value.bool).toArray
theorem zeros_int (n : Nat) : zeros (.int .i64 0) n = ints (List.replicate n 0) := by simp [zeros, ints]
theorem zeros_bool (n : Nat) : zeros (.bool false) n = bools (List.replicate n false) := by simp [zeros, bools]
theorem ints_get (l : List Int) (i : Nat) : (ints l)[i]? = (l[i]?).map (Value.int .i64) := by simp [ints]
theorem bools_get (l : List Bool) (i : Nat) : (bools l)[i]? = (l[i]?).map Value.bool := by simp [bools]
theorem ints_set (l : List Int) (i : Nat) (x : Int) : (ints l).setIfInBounds i (.int .i64 x) = ints (l.set i x) := by simp [ints, List.map_set]
theorem bools_set (l : List Bool) (i : Nat) (x : Bool) : (bools l).setIfInBounds i (.bool x) = bools (l.set i x) := by simp [bools, List.map_set]
theorem Blk.rdI {w : World} {g : Nat} {t : TypeId} {l : List Int} (h : Blk w g t (ints l)) {n : Nat} (hn : l.length = n) : RdI w (some ⟨g, 0, none⟩) n l :=
  ⟨hn, fun i x hx => ⟨g, 0, rfl, by rw [Nat.zero_add, h.cell, ints_get, hx]; rfl⟩⟩
theorem Blk.rdB {w : World} {g : Nat} {t : TypeId} {l : List Bool} (h : Blk w g t (bools l)) {n : Nat} (hn : l.length = n) : RdB w (some ⟨g, 0, none⟩) n l :=
  ⟨hn, fun i x hx => ⟨g, 0, rfl, by rw [Nat.zero_add, h.cell, bools_get, hx]; rfl⟩⟩
theorem Blk.cellI {w : World} {g i : Nat} {t : TypeId} {l : List Int} {x : Int} (h : Blk w g t (ints l)) (hx : l[i]? = some x) : w.cell? ⟨g, i, none⟩ = some (.int .i64 x) := by
  rw [h.cell, ints_get, hx]; rfl
theorem Blk.cellB {w : World} {g i : Nat} {t : TypeId} {l : List Bool} {x : Bool} (h : Blk w g t (bools l)) (hx : l[i]? = some x) : w.cell? ⟨g, i, none⟩ = some (.bool x) := by
  rw [h.cell, bools_get, hx]; rfl

/-- make of n elements of one cell, n a variable: the run, in any world. -/
theorem run_make1 {P : Program} (t e : TypeId) (z : Value) (by_ : Nat) (hinfo : (P.info? e).map (fun i => (i.zero, i.size, i.bytes)) = some (some z, 1, by_)) (ht : P.underlying t = some (.slice e)) (hz1 : z.cells = #[z])
    (n : Nat) (hb : by_ * n ≤ 281474976710656) (h63 : n ≤ 9223372036854775807) (kl kc : IntKind) (w : World) :
    (Instr.makeSlice t (.int kl (n : Int)) (.int kc (n : Int))).run P w = .ok (.slice (some ⟨w.heap.size, 0, none⟩) n n) (w.alloc (.cells (zeros z n) e)) := by
  obtain ⟨i, hi, hz, hs, hbb⟩ := info_parts hinfo
  have hb' : (i.bytes : Int) * (n : Int) ≤ 281474976710656 := by
    rw [hbb]
    have h : ((by_ * n : Nat) : Int) ≤ 281474976710656 := by omega
    rwa [Int.natCast_mul] at h
  have hr := run_make (P := P) w t e i z ht hi hz kl kc n n (by omega) (by omega) hb' (by omega)
  simp only [Int.toNat_natCast] at hr
  have hm : madeCells z.cells (n * i.size) = zeros z n := by
    rw [hs, Nat.mul_one, hz1]
    apply Array.ext'
    rw [toList_madeCells_one]
    simp [zeros]
  rw [hm] at hr
  exact hr

/-- The address of 's[m:]' (elements of s cells): the model keeps the old one at the very end. A plain definition: the walk does not part on it. -/
def cutA (s : Nat) (A : Option Addr) (m c : Nat) : Option Addr := if c = m then A else A.map (·.add (m * s))
theorem run_cut_l {P : Program} (t e : TypeId) (s : Nat) (ht : P.underlying t = some (.slice e)) (he : P.elem t = e) (hs : (P.info? e).map (·.size) = some s) (A : Option Addr) (n c m r : Nat) (hm : m ≤ n) (hr : n - m = r) (k : IntKind) (x : Int) (hx : x = m) (w : World) :
    (Instr.slice t (.slice A n c) (some (.int k x)) none none).run P w = .ok (.slice (cutA s A m c) r (c - m)) w := by
  subst hx; subst hr
  rw [run_slice_l (P := P) w t A n c (by rw [he]; exact ht) k m (by omega) (by omega), he]
  cases hi : P.info? e with
  | none => rw [hi] at hs; cases hs
  | some i =>
    rw [hi] at hs
    simp at hs
    simp [sizeOf, typeInfo, hi, Result.andThen, hs, sliced, cutA]
theorem RdK.cut {k : IntKind} {w : World} {A : Option Addr} {n m c r : Nat} {l : List Int} (h : RdK k w A n l) (hm : m ≤ n) (hr : n - m = r) (hc : n ≤ c) : RdK k w (cutA 1 A m c) r (l.drop m) :=
  ⟨by rw [List.length_drop, h.1, hr], fun i x hx => by
    rw [List.getElem?_drop] at hx
    obtain ⟨b, o, rfl, hcell⟩ := h.2 _ x hx
    have hlt : m + i < l.length := (List.getElem?_eq_some_iff.1 hx).1
    rw [h.1] at hlt
    unfold cutA
    rw [if_neg (by omega)]
    refine ⟨b, o + m, ?_, by rw [Nat.add_assoc]; exact hcell⟩
    simp only [Option.map_some, Addr.add]
    split
    · rename_i h0; rw [show m = 0 by omega]; rfl
    · simp⟩
theorem RdK.take {k : IntKind} {w : World} {A : Option Addr} {n m : Nat} {l : List Int} (h : RdK k w A n l) (hm : m ≤ n) : RdK k w A m (l.take m) :=
  ⟨by rw [List.length_take, h.1]; omega, fun i x hx => h.2 i x (by rw [List.getElem?_take] at hx; split at hx; exact hx; cases hx)⟩

theorem Blk.setI {w : World} {g i : Nat} {t : TypeId} {l l' : List Int} {x : Int} (h : Blk w g t (ints l)) (e : l.set i x = l') : Blk (w.setCell ⟨g, i, none⟩ (.int .i64 x)) g t (ints l') := by
  have := h.set_ i (.int .i64 x)
  rwa [ints_set, e] at this
theorem Blk.setB {w : World} {g i : Nat} {t : TypeId} {l l' : List Bool} {x : Bool} (h : Blk w g t (bools l)) (e : l.set i x = l') : Blk (w.setCell ⟨g, i, none⟩ (.bool x)) g t (bools l') := by
  have := h.set_ i (.bool x)
  rwa [bools_set, e] at this
theorem wp_named {P : Program} {c : Code} {Q : Exit → Act → World → Prop} {a : Act} {w : World} (h : ∀ W, W = w → c.wp P Q a W) : c.wp P Q a w := h w rfl
theorem Bel.setCell {w p : World} {a : Addr} {u : Value} (h : Below w.heap.size w p) (hp : w.heap.size ≤ a.block) : Below w.heap.size w (p.setCell a u) := Below.setCell h hp u

theorem Bel.setCell_ {w p : World} {b o : Nat} {u : Value} (h : Below w.heap.size w p) (hp : w.heap.size ≤ b) : Below w.heap.size w (p.setCell ⟨b, o, none⟩ u) := Below.setCell h hp u
theorem Blk.far_ {w : World} {g : Nat} {t : TypeId} {cs : Array Value} {b o : Nat} (h : Blk w g t cs) (hp : g ≠ b) (u : Value) : Blk (w.setCell ⟨b, o, none⟩ u) g t cs := h.far hp u

end Go.Proofs.YtpffhoefmcpniaaGreatDoor
