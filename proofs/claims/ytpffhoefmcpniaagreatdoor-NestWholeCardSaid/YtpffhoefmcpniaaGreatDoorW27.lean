/- Parts of the proof: G2. -/
import Derived.Test.YtpffhoefmcpniaaGreatDoorW1
import Derived.Test.YtpffhoefmcpniaaGreatDoorW26
/- Two tables of rows that grow side by side; the places of arcs; plain. -/
namespace Go.Proofs.YtpffhoefmcpniaaGreatDoor
open Go.RowKit

theorem IkO.far {W W' : World} {B g n : Nat} {A : Option Addr} {ls : List (List Int)} (h : IkO W B g n ls) (hg : W.grownBy W' (blkOf A)) (hA : blkOf A ≠ some g) (hd : ∀ (v : Nat) X m c, W.cell? ⟨g, v, none⟩ = some (.slice X m c) → Dj A X) : IkO W' B g n ls := by
  obtain ⟨h1, h2, cs, h3, h4, h5, h6⟩ := h
  refine ⟨h1, h2, cs, h3.grown hg hA, h4, fun v l hl => ?_, h6⟩
  obtain ⟨X, c, k1, k2⟩ := h5 v l hl
  exact ⟨X, c, k1, k2.far hg (hd v X _ _ (by rw [h3.cell]; exact k1)).far⟩
/-- Two tables whose rows grow: no row of the one lies where one of the other does. -/
def Ik2 (W : World) (B g1 g2 n : Nat) (l1 l2 : List (List Int)) : Prop :=
  IkO W B g1 n l1 ∧ IkO W B g2 n l2 ∧ g1 ≠ g2 ∧ ∀ (v v' : Nat) A m c A' m' c', W.cell? ⟨g1, v, none⟩ = some (.slice A m c) → W.cell? ⟨g2, v', none⟩ = some (.slice A' m' c') → Dj A A'
theorem Ik2.swap {W : World} {B g1 g2 n : Nat} {l1 l2 : List (List Int)} (h : Ik2 W B g1 g2 n l1 l2) : Ik2 W B g2 g1 n l2 l1 :=
  ⟨h.2.1, h.1, fun e => h.2.2.1 e.symm, fun v v' A m c A' m' c' e1 e2 => (h.2.2.2 v' v A' m' c' A m c e2 e1).symm⟩
theorem Ik2.start {W : World} {B g1 g2 n : Nat} (h1 : g1 < B) (h2 : g2 < B) (hne : g1 ≠ g2) (b1 : Blk W g1 27 (zeros (.slice none 0 0) n)) (b2 : Blk W g2 27 (zeros (.slice none 0 0) n)) : Ik2 W B g1 g2 n (List.replicate n []) (List.replicate n []) := by
  refine ⟨IkO.start h1 b1, IkO.start h2 b2, hne, fun v v' A m c A' m' c' e1 _ => ?_⟩
  rw [b1.cell] at e1
  have e := (Array.getElem?_eq_some_iff.1 e1).2
  simp [zeros] at e
  obtain ⟨rfl, _, _⟩ := e
  exact .inl rfl
theorem Ik2.below {W W' : World} {B g1 g2 n : Nat} {l1 l2 : List (List Int)} (h : Ik2 W B g1 g2 n l1 l2) (hb : Below W.heap.size W W') : Ik2 W' B g1 g2 n l1 l2 := by
  refine ⟨h.1.below hb, h.2.1.below hb, h.2.2.1, fun v v' A m c A' m' c' e1 e2 => ?_⟩
  rw [hb.cell (p := ⟨g1, v, none⟩) h.1.lt] at e1
  rw [hb.cell (p := ⟨g2, v', none⟩) h.2.1.lt] at e2
  exact h.2.2.2 v v' A m c A' m' c' e1 e2
theorem Ik2.set {W : World} {B g1 g2 n b i : Nat} {l1 l2 : List (List Int)} (h : Ik2 W B g1 g2 n l1 l2) (h1 : b ≠ g1) (h2 : b ≠ g2) (hB : b < B) (v : Value) : Ik2 (W.setCell ⟨b, i, none⟩ v) B g1 g2 n l1 l2 := by
  have hg := grownBy_set W b i v
  refine ⟨h.1.grown hg (fun q e => by cases e; exact ⟨h1, hB⟩), h.2.1.grown hg (fun q e => by cases e; exact ⟨h2, hB⟩), h.2.2.1, fun u u' A m c A' m' c' e1 e2 => ?_⟩
  rw [World.cell?_setCell_other _ _ _ _ (fun e => h1 (by injection e))] at e1
  rw [World.cell?_setCell_other _ _ _ _ (fun e => h2 (by injection e))] at e2
  exact h.2.2.2 u u' A m c A' m' c' e1 e2
theorem IkO.rowAt {W : World} {B g n v m c : Nat} {X : Option Addr} {ls : List (List Int)} (h : IkO W B g n ls) (hc : W.cell? ⟨g, v, none⟩ = some (.slice X m c)) : ∃ xs, Own W B 3 1 X m c xs := by
  obtain ⟨h1, h2, cs, h3, h4, h5, h6⟩ := h
  rw [h3.cell] at hc
  have hv := (Array.getElem?_eq_some_iff.1 hc).1
  obtain ⟨A, c', k1, k2⟩ := h5 v _ (List.getElem?_eq_getElem (show v < ls.length by omega))
  rw [hc] at k1
  cases k1
  exact ⟨_, k2⟩
theorem Ik2.push {W w' : World} {B g1 g2 n u c c' : Nat} {A A' : Option Addr} {l1 l2 : List (List Int)} {l : List Int} {k : Int} (h : Ik2 W B g1 g2 n l1 l2) (hl : l1[u]? = some l) (hc : W.cell? ⟨g1, u, none⟩ = some (.slice A l.length c))
    (hown : Own w' B 3 1 A' (l.length + 1) c' (icells l ++ icells [k])) (hg : W.grownBy w' (blkOf A)) (hat : blkOf A' = blkOf A ∨ blkOf A' = some W.heap.size) :
    Ik2 (w'.setCell ⟨g1, u, none⟩ (.slice A' (l.length + 1) c')) B g1 g2 n (l1.set u (l ++ [k])) l2 := by
  obtain ⟨h1, h2, hne, h3⟩ := h
  obtain ⟨xs, hA⟩ := h1.rowAt hc
  have hB1 : g1 < B := h1.2.1
  have hB2 : g2 < B := h2.2.1
  have hA2 : blkOf A ≠ some g2 := hA.ne hB2
  have hA1 : blkOf A ≠ some g1 := hA.ne hB1
  have hd : ∀ (v : Nat) X m d, W.cell? ⟨g2, v, none⟩ = some (.slice X m d) → Dj A X := fun v X m d e => h3 u v _ _ _ _ _ _ hc e
  have hcell2 : ∀ v, w'.cell? ⟨g2, v, none⟩ = W.cell? ⟨g2, v, none⟩ := fun v => World.cell?_of_block (hg.block g2 h2.lt (fun e => hA2 e.symm))
  have hcell1 : ∀ v, w'.cell? ⟨g1, v, none⟩ = W.cell? ⟨g1, v, none⟩ := fun v => World.cell?_of_block (hg.block g1 h1.lt (fun e => hA1 e.symm))
  refine ⟨h1.push hl hc hown hg hat, (h2.far hg hA2 hd).grown (grownBy_set _ _ _ _) (fun q e => by cases e; exact ⟨hne, hB1⟩), hne, fun v v' X m d X' m' d' e1 e2 => ?_⟩
  rw [World.cell?_setCell_other _ _ _ _ (fun e => hne (by injection e)), hcell2] at e2
  by_cases e : u = v
  · subst e
    rw [World.cell?_setCell_same _ _ _ (by rw [hcell1]; exact hc)] at e1
    cases e1
    obtain ⟨ys, hX⟩ := h2.rowAt e2
    exact (hd v' _ _ _ e2).next hX hat
  · rw [World.cell?_setCell_other _ _ _ _ (fun e' => e (by injection e')), hcell1] at e1
    exact h3 v v' _ _ _ _ _ _ e1 e2
/-- The places of the first j arcs are told. -/
def PlO (W : World) (g m : Nat) (ar : List Tri) (j : Nat) : Prop :=
  ∃ cs, Blk W g 156 cs ∧ cs.size = m * 2 ∧ ∀ (i : Nat) (a : Tri), i < j → ar[i]? = some a → cs[i * 2]? = some (.int .i64 (plcOf ar i a).1) ∧ cs[i * 2 + 1]? = some (.int .i64 (plcOf ar i a).2)
theorem PlO.start {W : World} {g m : Nat} {ar : List Tri} {cs : Array Value} (h : Blk W g 156 cs) (hs : cs.size = m * 2) : PlO W g m ar 0 := ⟨cs, h, hs, fun _ _ hi => absurd hi (Nat.not_lt_zero _)⟩
theorem PlO.lt {W : World} {g m j : Nat} {ar : List Tri} (h : PlO W g m ar j) : g < W.heap.size := by
  obtain ⟨cs, h1, _⟩ := h
  exact h1.lt
theorem PlO.grown {W W' : World} {g m j : Nat} {ar : List Tri} {r : Option Nat} (h : PlO W g m ar j) (hg : W.grownBy W' r) (hr : r ≠ some g) : PlO W' g m ar j := by
  obtain ⟨cs, h1, h2⟩ := h
  exact ⟨cs, h1.grown hg hr, h2⟩
theorem PlO.below {W W' : World} {g m j : Nat} {ar : List Tri} (h : PlO W g m ar j) (hb : Below W.heap.size W W') : PlO W' g m ar j := by
  obtain ⟨cs, h1, h2⟩ := h
  exact ⟨cs, h1.below hb h1.lt, h2⟩
theorem PlO.cell {W : World} {g m j i : Nat} {ar : List Tri} (h : PlO W g m ar j) (hi : i < m * 2) : (∃ v, W.cell? ⟨g, i, none⟩ = some v) ∧ W.frozen? ⟨g, i, none⟩ = false := by
  obtain ⟨cs, h1, h2, h3⟩ := h
  exact ⟨⟨_, by rw [h1.cell]; exact Array.getElem?_eq_getElem (by omega)⟩, h1.frozen i⟩
theorem PlO.next {W : World} {g m j : Nat} {ar : List Tri} {a : Tri} (h : PlO W g m ar j) (hj : j < m) (ha : ar[j]? = some a) : PlO ((W.setCell ⟨g, j * 2, none⟩ (.int .i64 (plcOf ar j a).1)).setCell ⟨g, j * 2 + 1, none⟩ (.int .i64 (plcOf ar j a).2)) g m ar (j + 1) := by
  obtain ⟨cs, h1, h2, h3⟩ := h
  refine ⟨_, (h1.set_ _ _).set_ _ _, by simpa using h2, fun i x hi hx => ?_⟩
  by_cases e : i = j
  · subst e
    rw [ha] at hx
    cases hx
    refine ⟨?_, ?_⟩
    · rw [Array.getElem?_setIfInBounds_ne (by omega), Array.getElem?_setIfInBounds_self_of_lt (by omega)]
    · rw [Array.getElem?_setIfInBounds_self_of_lt (by rw [Array.size_setIfInBounds]; omega)]
  · rw [Array.getElem?_setIfInBounds_ne (by omega), Array.getElem?_setIfInBounds_ne (by omega), Array.getElem?_setIfInBounds_ne (by omega), Array.getElem?_setIfInBounds_ne (by omega)]
    exact h3 i x (by omega) hx
theorem PlO.rdP {W : World} {g m : Nat} {ar : List Tri} (h : PlO W g m ar m) (hl : ar.length = m) : RdP W (some ⟨g, 0, none⟩) m (plcs ar) := by
  obtain ⟨cs, h1, h2, h3⟩ := h
  refine ⟨by rw [plcs_len]; exact hl, fun i x hx => ?_⟩
  have hi := (List.getElem?_eq_some_iff.1 hx).1
  rw [plcs_len] at hi
  have ha : ar[i]? = some ar[i] := List.getElem?_eq_getElem hi
  rw [plcs_get ha] at hx
  cases hx
  obtain ⟨k1, k2⟩ := h3 i _ (by omega) ha
  exact ⟨g, 0, rfl, by rw [h1.cell, Nat.zero_add]; exact k1, by rw [h1.cell, Nat.zero_add]; exact k2⟩
theorem infoPl : (Tryz.prog.info? 156).map (fun i => (i.zero, i.size, i.bytes)) = some (some (.agg #[.int .i64 0, .int .i64 0]), 2, 16) := by kernel_rfl
theorem infoRw : (Tryz.prog.info? 27).map (fun i => (i.zero, i.size, i.bytes)) = some (some (.slice none 0 0), 1, 24) := by kernel_rfl
theorem run_makePl (k : Nat) (hk : k ≤ 1000000) : ∃ cs : Array Value, cs.size = k * 2 ∧ ∀ W : World, (Instr.makeSlice 112 (.int .i64 (k : Int)) (.int .i64 (k : Int))).run Tryz.prog W = .ok (.slice (some ⟨W.heap.size, 0, none⟩) k k) (W.alloc (.cells cs 156)) := by
  obtain ⟨i, hi, hz, hs, hbb⟩ := info_parts infoPl
  have hb' : (i.bytes : Int) * (k : Int) ≤ 281474976710656 := by
    rw [hbb]
    omega
  refine ⟨madeCells (Value.agg #[.int .i64 0, .int .i64 0]).cells (k * i.size), by rw [size_madeCells, hs], fun W => ?_⟩
  have hr := run_make (P := Tryz.prog) W 112 156 i _ Tryz.underlying112 hi hz .i64 .i64 k k (by omega) (by omega) hb' (by omega)
  simp only [Int.toNat_natCast] at hr
  exact hr
theorem run_makeRw (n : Nat) (hn : n ≤ 1000000) (W : World) : (Instr.makeSlice 32 (.int .i64 (n : Int)) (.int .i64 (n : Int))).run Tryz.prog W = .ok (.slice (some ⟨W.heap.size, 0, none⟩) n n) (W.alloc (.cells (zeros (.slice none 0 0) n) 27)) :=
  run_make1 (P := Tryz.prog) 32 27 (.slice none 0 0) 24 infoRw Tryz.underlying32 rfl n (by omega) (by omega) .i64 .i64 W
/-- Three blocks, made in any order. -/
structure Got3 (W : World) (n m : Nat) (cs : Array Value) (i o p : Nat) (w' : World) : Prop where
  sz : w'.heap.size = W.heap.size + 3
  io : i ≠ o
  ip : i ≠ p
  op : o ≠ p
  li : W.heap.size ≤ i ∧ i < W.heap.size + 3
  lo : W.heap.size ≤ o ∧ o < W.heap.size + 3
  lp : W.heap.size ≤ p ∧ p < W.heap.size + 3
  bi : Blk w' i 27 (zeros (.slice none 0 0) n)
  bo : Blk w' o 27 (zeros (.slice none 0 0) n)
  bp : Blk w' p 156 cs
  bl : Below W.heap.size W w'
def Got3V (W : World) (n m : Nat) (cs : Array Value) (v1 v2 v3 : Value) (w' : World) : Prop := ∃ i o p : Nat, v1 = .slice (some ⟨i, 0, none⟩) n n ∧ v2 = .slice (some ⟨o, 0, none⟩) n n ∧ v3 = .slice (some ⟨p, 0, none⟩) m m ∧ Got3 W n m cs i o p w'
theorem Got3V.of {W : World} {n m : Nat} {cs : Array Value} {w' : World} (i o p : Nat) (h : Got3 W n m cs i o p w') : Got3V W n m cs (.slice (some ⟨i, 0, none⟩) n n) (.slice (some ⟨o, 0, none⟩) n n) (.slice (some ⟨p, 0, none⟩) m m) w' := ⟨i, o, p, rfl, rfl, rfl, h⟩
end Go.Proofs.YtpffhoefmcpniaaGreatDoor
