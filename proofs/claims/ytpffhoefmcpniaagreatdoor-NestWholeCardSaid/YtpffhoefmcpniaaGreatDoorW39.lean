/- Parts of the proof: Ne5. -/
import Derived.Test.YtpffhoefmcpniaaGreatDoorW1
import Derived.Test.YtpffhoefmcpniaaGreatDoorW31
import Derived.Test.YtpffhoefmcpniaaGreatDoorW38
/- A piece in two: what is read, made; plain. -/
namespace Go.Proofs.YtpffhoefmcpniaaGreatDoor
open Go.RowKit

/-- A way that ends in no panic. -/
def noPan (Q : Exit → Act → World → Prop) : Exit → Act → World → Prop
  | .panic _, _, _ => False
  | e, a, w => Q e a w
theorem noPan_le {Q : Exit → Act → World → Prop} {e : Exit} {a : Act} {w : World} (h : noPan Q e a w) : Q e a w := by
  cases e
  all_goals first | exact h | exact False.elim h
theorem noPan_ret {Q : Exit → Act → World → Prop} {a : Act} {w : World} (h : Q .ret a w) : noPan Q .ret a w := h
theorem run_makePa (k : Nat) (hk : k ≤ 1000000) : ∃ cs : Array Value, cs.size = k * 2 ∧ ∀ W : World, (Instr.makeSlice 123 (.int .i64 (k : Int)) (.int .i64 (k : Int))).run Tryz.prog W = .ok (.slice (some ⟨W.heap.size, 0, none⟩) k k) (W.alloc (.cells cs 127)) := by
  obtain ⟨i, hi, hz, hs, hbb⟩ := info_parts infoPairN
  have hb' : (i.bytes : Int) * (k : Int) ≤ 281474976710656 := by
    rw [hbb]
    omega
  refine ⟨madeCells (Value.agg #[.int .i64 0, .int .i64 0]).cells (k * i.size), by rw [size_madeCells, hs], fun W => ?_⟩
  have hr := run_make (P := Tryz.prog) W 123 127 i _ Tryz.underlying123 hi hz .i64 .i64 k k (by omega) (by omega) hb' (by omega)
  simp only [Int.toNat_natCast] at hr
  exact hr
/-- The first i of k pairs are those of l. -/
def PaTo (W : World) (g k i : Nat) (l : List (Int × Int)) : Prop := l.length = k ∧ ∃ cur : Array Value, Blk W g 127 cur ∧ cur.size = k * 2 ∧ ∀ (j : Nat) p, j < i → l[j]? = some p → cur[j * 2]? = some (.int .i64 p.1) ∧ cur[j * 2 + 1]? = some (.int .i64 p.2)
theorem PaTo.start {W : World} {g k : Nat} {l : List (Int × Int)} {cur : Array Value} (hl : l.length = k) (h : Blk W g 127 cur) (hc : cur.size = k * 2) : PaTo W g k 0 l := ⟨hl, cur, h, hc, fun _ _ h _ => by omega⟩
theorem PaTo.cells {W : World} {g k i j : Nat} {l : List (Int × Int)} (h : PaTo W g k i l) (hj : j < k) : (∃ x, W.cell? ⟨g, j * 2, none⟩ = some x) ∧ (∃ x, W.cell? ⟨g, j * 2 + 1, none⟩ = some x) ∧ W.frozen? ⟨g, j * 2, none⟩ = false ∧ W.frozen? ⟨g, j * 2 + 1, none⟩ = false ∧ g < W.heap.size := by
  obtain ⟨_, cur, h1, h2, _⟩ := h
  refine ⟨⟨cur[j * 2]'(by omega), ?_⟩, ⟨cur[j * 2 + 1]'(by omega), ?_⟩, h1.frozen _, h1.frozen _, h1.lt⟩
  · rw [h1.cell]; exact Array.getElem?_eq_getElem _
  · rw [h1.cell]; exact Array.getElem?_eq_getElem _
theorem PaTo.next {W : World} {g k i : Nat} {l : List (Int × Int)} {x y : Int} (h : PaTo W g k i l) (hp : l[i]? = some (x, y)) : PaTo ((W.setCell ⟨g, i * 2, none⟩ (.int .i64 x)).setCell ⟨g, i * 2 + 1, none⟩ (.int .i64 y)) g k (i + 1) l := by
  obtain ⟨h0, cur, h1, h2, h3⟩ := h
  have hi : i < k := by rw [← h0]; exact (List.getElem?_eq_some_iff.1 hp).1
  refine ⟨h0, _, (h1.set_ (i * 2) (.int .i64 x)).set_ (i * 2 + 1) (.int .i64 y), by simp [h2], fun j q hj hq => ?_⟩
  simp only [Array.getElem?_setIfInBounds, Array.size_setIfInBounds]
  by_cases e : j = i
  · subst e
    rw [hp] at hq
    cases hq
    rw [if_neg (by omega), if_pos rfl, if_pos (by omega), if_pos rfl, if_pos (by omega)]
    exact ⟨rfl, rfl⟩
  · rw [if_neg (by omega), if_neg (by omega), if_neg (by omega), if_neg (by omega)]
    exact h3 j q (by omega) hq
theorem PaTo.done {W : World} {g k : Nat} {l : List (Int × Int)} (h : PaTo W g k k l) : RdP W (some ⟨g, 0, none⟩) k l := by
  obtain ⟨h0, cur, h1, h2, h3⟩ := h
  refine ⟨h0, fun i p hp => ?_⟩
  obtain ⟨k1, k2⟩ := h3 i p (by rw [← h0]; exact (List.getElem?_eq_some_iff.1 hp).1) hp
  exact ⟨g, 0, rfl, by rw [h1.cell, Nat.zero_add]; exact k1, by rw [h1.cell, Nat.zero_add]; exact k2⟩
theorem PaTo.keep {W W' : World} {g k i : Nat} {l : List (Int × Int)} (h : PaTo W g k i l) (hk : g < W.heap.size → W'.heap[g]? = W.heap[g]?) : PaTo W' g k i l := by
  obtain ⟨h0, cur, h1, h2⟩ := h
  exact ⟨h0, cur, (hk h1.lt).trans h1, h2⟩

/-- On which side a vertex of the piece is. -/
def sAt (sd : List Bool) (x : Int) : Bool := sd.getD x.toNat false
/-- Of the first i arcs of a piece those whose both ends are on side c. -/
def aselTo (N : NetD) (vl : List Nat) (sd : List Bool) (c : Bool) (i : Nat) : List Nat := ((arcsN N vl).take i).filter (fun k => sAt sd (edgOf N vl k).1 == c && sAt sd (edgOf N vl k).2 == c)
theorem aselTo_zero (N : NetD) (vl : List Nat) (sd : List Bool) (c : Bool) : aselTo N vl sd c 0 = [] := by simp [aselTo]
theorem aselTo_next {N : NetD} {vl : List Nat} {sd : List Bool} {c : Bool} {i k : Nat} (h : (arcsN N vl)[i]? = some k) : aselTo N vl sd c (i + 1) = aselTo N vl sd c i ++ if (sAt sd (edgOf N vl k).1 == c && sAt sd (edgOf N vl k).2 == c) = true then [k] else [] := by
  obtain ⟨h1, e1⟩ := List.getElem?_eq_some_iff.1 h
  unfold aselTo
  rw [List.take_succ_eq_append_getElem h1, e1, List.filter_append]
  congr 1
  cases h : (sAt sd (edgOf N vl k).1 == c && sAt sd (edgOf N vl k).2 == c) <;> simp [h]
theorem aselTo_len (N : NetD) (vl : List Nat) (sd : List Bool) (c : Bool) (i : Nat) : (aselTo N vl sd c i).length ≤ i := by
  have h := List.length_filter_le (fun k => sAt sd (edgOf N vl k).1 == c && sAt sd (edgOf N vl k).2 == c) ((arcsN N vl).take i)
  have h2 := List.length_take_le i (arcsN N vl)
  unfold aselTo
  omega
theorem sAt_sel {vl : List Nat} {sd : List Bool} (hn : vl.Nodup) (hl : sd.length = vl.length) {u : Nat} (hu : u ∈ vl) (c : Bool) : (sAt sd (vl.idxOf u : Int) == c) = true ↔ u ∈ sel c vl sd := by
  have hi := List.idxOf_lt_length_iff.2 hu
  have hg : vl[vl.idxOf u]? = some u := by rw [List.getElem?_eq_getElem hi, List.getElem_idxOf hi]
  have hs := List.getElem?_eq_getElem (show vl.idxOf u < sd.length by omega)
  unfold sAt
  rw [Int.toNat_natCast, List.getD_eq_getElem?_getD, hs, mem_sel]
  simp only [Option.getD_some, beq_iff_eq]
  constructor
  · intro e
    exact ⟨vl.idxOf u, hg, by rw [hs, e]⟩
  · rintro ⟨i, h1, h2⟩
    have : i = vl.idxOf u := (idxOf_at hn h1).symm
    subst this
    rw [hs] at h2
    exact Option.some.inj h2
theorem aselTo_all {N : NetD} {vl : List Nat} {sd : List Bool} (hn : vl.Nodup) (hl : sd.length = vl.length) (c : Bool) : aselTo N vl sd c (arcsN N vl).length = arcsN N (sel c vl sd) := by
  unfold aselTo
  rw [List.take_length]
  unfold arcsN arcsTo
  rw [List.filter_filter]
  apply List.filter_congr
  intro k hk
  have hk := List.mem_range.1 hk
  have e := List.getElem?_eq_getElem hk
  rw [inA_at e, inA_at e]
  have ee : edgOf N vl k = ((vl.idxOf (N.ar[k]).1.toNat : Int), (vl.idxOf (N.ar[k]).2.1.toNat : Int)) := by unfold edgOf; rw [e]
  rw [ee]
  simp only
  generalize (N.ar[k]).1.toNat = u
  generalize (N.ar[k]).2.1.toNat = v
  rw [Bool.eq_iff_iff]
  simp only [Bool.and_eq_true, decide_eq_true_eq]
  constructor
  · rintro ⟨⟨h1, h2⟩, h3, h4⟩
    exact ⟨(sAt_sel hn hl h3 c).1 h1, (sAt_sel hn hl h4 c).1 h2⟩
  · rintro ⟨h1, h2⟩
    have m1 := (sel_sub c vl sd).subset h1
    have m2 := (sel_sub c vl sd).subset h2
    exact ⟨⟨(sAt_sel hn hl m1 c).2 h1, (sAt_sel hn hl m2 c).2 h2⟩, m1, m2⟩
theorem pts_near {N : NetD} (hN : NetOk N) {vl : List Nat} (h : PcOk N.vs.length vl) : ∀ p ∈ ptsN N vl, near1 p = true := by
  intro p hp
  unfold ptsN at hp
  obtain ⟨v, hv, rfl⟩ := List.mem_map.1 hp
  have e := List.getElem?_eq_getElem (h.2 v hv)
  have ho := hN.verts _ (List.getElem_mem (h.2 v hv))
  unfold ptN near1
  rw [e]
  simp only [ho.x, ho.y, Bool.and_self]
theorem pts_good {N : NetD} (hN : NetOk N) {vl : List Nat} (h : PcOk N.vs.length vl) (h2 : 2 ≤ vl.length) : Good (ptsN N vl) (edgsN N vl) :=
  ⟨by rw [pts_len]; exact h2, pts_near hN h, by rw [pts_len]; exact edgs_ends N vl⟩

/-- What lies ready when a piece is cut: the places (L), the box of the piece, the cells of what comes of it. -/
structure HvW (w W : World) (gc : Nat) (AP AE AL : Option Addr) (cp ce cl : Nat) (cs : List Value) (N : NetD) (A1 A2 : Option Addr) (c1 c2 : Nat) (vl : List Nat) (L : List Int) : Prop where
  gl : w.grownBy W (blkOf AL)
  ct : CtL W gc AP AE AL cp ce cl cs N L
  pc : RdPc N AL W A1 A2 c1 c2 vl
  b3 : Blk W w.heap.size 87 #[.slice A1 vl.length c1, .slice A2 (arcsN N vl).length c2]
  b4 : Blk W (w.heap.size + 1) 87 #[.slice none 0 0, .slice none 0 0]
  b5 : Blk W (w.heap.size + 1 + 1) 87 #[.slice none 0 0, .slice none 0 0]
  l1 : ∀ g, 0 < vl.length → blkOf A1 = some g → g < w.heap.size
  l2 : ∀ g, 0 < (arcsN N vl).length → blkOf A2 = some g → g < w.heap.size
  new : ∀ k, w.heap.size ≤ k → k ≠ gc ∧ blkOf AP ≠ some k ∧ blkOf AE ≠ some k ∧ blkOf AL ≠ some k
section
variable {w W W' : World} {gc cp ce cl c1 c2 : Nat} {AP AE AL A1 A2 : Option Addr} {cs : List Value} {N : NetD} {vl : List Nat} {L L' : List Int}
theorem HvW.below (h : HvW w W gc AP AE AL cp ce cl cs N A1 A2 c1 c2 vl L) (hb : Below W.heap.size W W') : HvW w W' gc AP AE AL cp ce cl cs N A1 A2 c1 c2 vl L :=
  ⟨grown_below h.gl hb, h.ct.below hb, h.pc.below hb, h.b3.below hb h.b3.lt, h.b4.below hb h.b4.lt, h.b5.below hb h.b5.lt, h.l1, h.l2, h.new⟩
theorem HvW.far {r : Option Nat} (h : HvW w W gc AP AE AL cp ce cl cs N A1 A2 c1 c2 vl L) (hg : W.grownBy W' r) (hr : ∀ k, r = some k → w.heap.size + 3 ≤ k) : HvW w W' gc AP AE AL cp ce cl cs N A1 A2 c1 c2 vl L :=
  ⟨grown_farR h.gl hg (fun k e => by have := hr k e; omega), h.ct.grown hg (fun k e => h.new k (by have := hr k e; omega)), h.pc.grown hg (fun g h0 hg e => by have := hr g e; have := h.l1 g h0 hg; omega) (fun g h0 hg e => by have := hr g e; have := h.l2 g h0 hg; omega), h.b3.grown hg (fun e => by have := hr _ e; omega), h.b4.grown hg (fun e => by have := hr _ e; omega), h.b5.grown hg (fun e => by have := hr _ e; omega), h.l1, h.l2, h.new⟩
theorem HvW.place {g v : Nat} {x : Value} (h : HvW w W gc AP AE AL cp ce cl cs N A1 A2 c1 c2 vl L) (hA : AL = some ⟨g, 0, none⟩) (hc : CtL (W.setCell ⟨g, v, none⟩ x) gc AP AE AL cp ce cl cs N L') : HvW w (W.setCell ⟨g, v, none⟩ x) gc AP AE AL cp ce cl cs N A1 A2 c1 c2 vl L' := by
  have hb : blkOf AL = some g := by rw [hA]; rfl
  have hlt : ∀ k, w.heap.size ≤ k → g ≠ k := fun k hk e => (h.new k hk).2.2.2 (by rw [hb, e])
  refine ⟨h.gl.trans (by rw [hb]; exact grownBy_set W g v x), hc, h.pc.grown (grownBy_set W g v x) (fun q h0 hq e => h.pc.n1 q h0 hq (by rw [hb, e])) (fun q h0 hq e => h.pc.n2 q h0 hq (by rw [hb, e])), ?_, ?_, ?_, h.l1, h.l2, h.new⟩
  · exact h.b3.grown (grownBy_set W g v x) (fun e => hlt _ (Nat.le_refl _) (by injection e))
  · exact h.b4.grown (grownBy_set W g v x) (fun e => hlt (w.heap.size + 1) (by omega) (by injection e))
  · exact h.b5.grown (grownBy_set W g v x) (fun e => hlt (w.heap.size + 1 + 1) (by omega) (by injection e))
end
/-- The like, with the split at hand. -/
structure HvX (w W : World) (gc : Nat) (AP AE AL : Option Addr) (cp ce cl : Nat) (cs : List Value) (N : NetD) (A1 A2 : Option Addr) (c1 c2 : Nat) (vl : List Nat) (B8 ge : Nat) (AS : Option Addr) (cS : Nat) (s : Spl) : Prop where
  hv : HvW w W gc AP AE AL cp ce cl cs N A1 A2 c1 c2 vl (plcL N.vs.length vl vl.length)
  re : RdP W (some ⟨ge, 0, none⟩) (arcsN N vl).length (edgsN N vl)
  rs : RdB W AS vl.length s.side
  bs : Blk W B8 162 #[.slice AS vl.length cS, .int .i64 s.cross, .int .i64 s.dir, .int .i64 s.kind]
  lg : w.heap.size + 3 < ge ∧ ge < B8
  ls : ∀ g, blkOf AS = some g → g < B8
section
variable {w W W' : World} {gc cp ce cl c1 c2 B8 ge cS : Nat} {AP AE AL A1 A2 AS : Option Addr} {cs : List Value} {N : NetD} {vl : List Nat} {s : Spl}
theorem HvX.below (h : HvX w W gc AP AE AL cp ce cl cs N A1 A2 c1 c2 vl B8 ge AS cS s) (hb : Below W.heap.size W W') : HvX w W' gc AP AE AL cp ce cl cs N A1 A2 c1 c2 vl B8 ge AS cS s :=
  ⟨h.hv.below hb, h.re.below hb, h.rs.below hb, h.bs.below hb h.bs.lt, h.lg, h.ls⟩
theorem HvX.far {r : Option Nat} (h : HvX w W gc AP AE AL cp ce cl cs N A1 A2 c1 c2 vl B8 ge AS cS s) (hg : W.grownBy W' r) (hr : ∀ k, r = some k → B8 < k) : HvX w W' gc AP AE AL cp ce cl cs N A1 A2 c1 c2 vl B8 ge AS cS s :=
  ⟨h.hv.far hg (fun k e => by have := hr k e; have := h.lg; omega), h.re.grownN hg (fun g e1 e2 => by have e1 : some ge = some g := e1; injection e1 with e1; have := hr g e2; have := h.lg; omega), h.rs.grownN hg (fun g e1 e2 => by have := hr g e2; have := h.ls g e1; omega), h.bs.grown hg (fun e => by have := hr _ e; omega), h.lg, h.ls⟩
end
/-- Two pieces that are made: their vertices, their arcs. -/
structure TwW (W : World) (B g h : Nat) (F O X Y : Option Addr) (cf co cx cy : Nat) (lf lo lx ly : List Nat) : Prop where
  bg : Blk W g 87 #[.slice F lf.length cf, .slice X lx.length cx]
  bh : Blk W h 87 #[.slice O lo.length co, .slice Y ly.length cy]
  of : Own W B 3 1 F lf.length cf (icells (nats lf))
  oo : Own W B 3 1 O lo.length co (icells (nats lo))
  ox : Own W B 3 1 X lx.length cx (icells (nats lx))
  oy : Own W B 3 1 Y ly.length cy (icells (nats ly))
  fo : Dj F O
  fx : Dj F X
  fy : Dj F Y
  ex : Dj O X
  ey : Dj O Y
  xy : Dj X Y
  gB : g < B
  hB : h < B
  gh : g ≠ h
  sz : B ≤ W.heap.size
section
variable {W W' w' : World} {B g h cf co cx cy c' : Nat} {F O X Y A' : Option Addr} {lf lo lx ly : List Nat} {k : Nat}
theorem TwW.below (t : TwW W B g h F O X Y cf co cx cy lf lo lx ly) (hb : Below W.heap.size W W') : TwW W' B g h F O X Y cf co cx cy lf lo lx ly :=
  ⟨t.bg.below hb t.bg.lt, t.bh.below hb t.bh.lt, t.of.below hb, t.oo.below hb, t.ox.below hb, t.oy.below hb, t.fo, t.fx, t.fy, t.ex, t.ey, t.xy, t.gB, t.hB, t.gh, Nat.le_trans t.sz hb.size⟩
theorem TwW.pushF (t : TwW W B g h F O X Y cf co cx cy lf lo lx ly) (ho : Own w' B 3 1 A' (lf.length + 1) c' (icells (nats lf) ++ icells [(k : Int)])) (hg : W.grownBy w' (blkOf F)) (hat : blkOf A' = blkOf F ∨ blkOf A' = some W.heap.size) :
    TwW (w'.setCell ⟨g, 0, none⟩ (.slice A' (lf.length + 1) c')) B g h A' O X Y c' co cx cy (lf ++ [k]) lo lx ly := by
  have b1 := (t.bg.grown hg (t.of.ne t.gB)).set_ 0 (.slice A' (lf.length + 1) c')
  have b2 := (t.bh.grown hg (t.of.ne t.hB)).far (p := ⟨g, 0, none⟩) (fun e => t.gh e.symm) (.slice A' (lf.length + 1) c')
  exact ⟨by simpa using b1, b2, by rw [nats_snoc]; simpa using ho.setB t.gB _, (t.oo.far hg t.fo.far).setB t.gB _, (t.ox.far hg t.fx.far).setB t.gB _, (t.oy.far hg t.fy.far).setB t.gB _, t.fo.next t.oo hat, t.fx.next t.ox hat, t.fy.next t.oy hat, t.ex, t.ey, t.xy, t.gB, t.hB, t.gh, by simp [World.setCell]; exact Nat.le_trans t.sz hg.size⟩
theorem TwW.pushO (t : TwW W B g h F O X Y cf co cx cy lf lo lx ly) (ho : Own w' B 3 1 A' (lo.length + 1) c' (icells (nats lo) ++ icells [(k : Int)])) (hg : W.grownBy w' (blkOf O)) (hat : blkOf A' = blkOf O ∨ blkOf A' = some W.heap.size) :
    TwW (w'.setCell ⟨h, 0, none⟩ (.slice A' (lo.length + 1) c')) B g h F A' X Y cf c' cx cy lf (lo ++ [k]) lx ly := by
  have b1 := (t.bh.grown hg (t.oo.ne t.hB)).set_ 0 (.slice A' (lo.length + 1) c')
  have b2 := (t.bg.grown hg (t.oo.ne t.gB)).far (p := ⟨h, 0, none⟩) t.gh (.slice A' (lo.length + 1) c')
  exact ⟨b2, by simpa using b1, (t.of.far hg t.fo.symm.far).setB t.hB _, by rw [nats_snoc]; simpa using ho.setB t.hB _, (t.ox.far hg t.ex.far).setB t.hB _, (t.oy.far hg t.ey.far).setB t.hB _, (t.fo.symm.next t.of hat).symm, t.fx, t.fy, t.ex.next t.ox hat, t.ey.next t.oy hat, t.xy, t.gB, t.hB, t.gh, by simp [World.setCell]; exact Nat.le_trans t.sz hg.size⟩
theorem TwW.pushX (t : TwW W B g h F O X Y cf co cx cy lf lo lx ly) (ho : Own w' B 3 1 A' (lx.length + 1) c' (icells (nats lx) ++ icells [(k : Int)])) (hg : W.grownBy w' (blkOf X)) (hat : blkOf A' = blkOf X ∨ blkOf A' = some W.heap.size) :
    TwW (w'.setCell ⟨g, 1, none⟩ (.slice A' (lx.length + 1) c')) B g h F O A' Y cf co c' cy lf lo (lx ++ [k]) ly := by
  have b1 := (t.bg.grown hg (t.ox.ne t.gB)).set_ 1 (.slice A' (lx.length + 1) c')
  have b2 := (t.bh.grown hg (t.ox.ne t.hB)).far (p := ⟨g, 1, none⟩) (fun e => t.gh e.symm) (.slice A' (lx.length + 1) c')
  exact ⟨by simpa using b1, b2, (t.of.far hg t.fx.symm.far).setB t.gB _, (t.oo.far hg t.ex.symm.far).setB t.gB _, by rw [nats_snoc]; simpa using ho.setB t.gB _, (t.oy.far hg t.xy.far).setB t.gB _, t.fo, (t.fx.symm.next t.of hat).symm, t.fy, (t.ex.symm.next t.oo hat).symm, t.ey, t.xy.next t.oy hat, t.gB, t.hB, t.gh, by simp [World.setCell]; exact Nat.le_trans t.sz hg.size⟩
theorem TwW.pushY (t : TwW W B g h F O X Y cf co cx cy lf lo lx ly) (ho : Own w' B 3 1 A' (ly.length + 1) c' (icells (nats ly) ++ icells [(k : Int)])) (hg : W.grownBy w' (blkOf Y)) (hat : blkOf A' = blkOf Y ∨ blkOf A' = some W.heap.size) :
    TwW (w'.setCell ⟨h, 1, none⟩ (.slice A' (ly.length + 1) c')) B g h F O X A' cf co cx c' lf lo lx (ly ++ [k]) := by
  have b1 := (t.bh.grown hg (t.oy.ne t.hB)).set_ 1 (.slice A' (ly.length + 1) c')
  have b2 := (t.bg.grown hg (t.oy.ne t.gB)).far (p := ⟨h, 1, none⟩) t.gh (.slice A' (ly.length + 1) c')
  exact ⟨b2, by simpa using b1, (t.of.far hg t.fy.symm.far).setB t.hB _, (t.oo.far hg t.ey.symm.far).setB t.hB _, (t.ox.far hg t.xy.symm.far).setB t.hB _, by rw [nats_snoc]; simpa using ho.setB t.hB _, t.fo, t.fx, (t.fy.symm.next t.of hat).symm, t.ex, (t.ey.symm.next t.oo hat).symm, (t.xy.symm.next t.ox hat).symm, t.gB, t.hB, t.gh, by simp [World.setCell]; exact Nat.le_trans t.sz hg.size⟩
end
/-- What is left to tell two pieces. -/
structure EndW (w W : World) (gc : Nat) (AP AE AL : Option Addr) (cp ce cl : Nat) (cs : List Value) (N : NetD) (A1 A2 : Option Addr) (c1 c2 : Nat) (vl : List Nat) (B : Nat) (F O X Y : Option Addr) (cf co cx cy : Nat) (lf lo lx ly : List Nat) : Prop where
  gl : w.grownBy W (blkOf AL)
  ct : CtL W gc AP AE AL cp ce cl cs N (plcL N.vs.length vl vl.length)
  pc : RdPc N AL W A1 A2 c1 c2 vl
  of : Own W B 3 1 F lf.length cf (icells (nats lf))
  oo : Own W B 3 1 O lo.length co (icells (nats lo))
  ox : Own W B 3 1 X lx.length cx (icells (nats lx))
  oy : Own W B 3 1 Y ly.length cy (icells (nats ly))
  l1 : ∀ g, 0 < vl.length → blkOf A1 = some g → g < w.heap.size
  l2 : ∀ g, 0 < (arcsN N vl).length → blkOf A2 = some g → g < w.heap.size
  new : ∀ k, w.heap.size ≤ k → k ≠ gc ∧ blkOf AP ≠ some k ∧ blkOf AE ≠ some k ∧ blkOf AL ≠ some k
section
variable {w W W' : World} {gc cp ce cl c1 c2 B g i cf co cx cy : Nat} {AP AE AL A1 A2 F O X Y : Option Addr} {cs : List Value} {N : NetD} {vl lf lo lx ly : List Nat}
theorem EndW.set (h : EndW w W gc AP AE AL cp ce cl cs N A1 A2 c1 c2 vl B F O X Y cf co cx cy lf lo lx ly) (hg : w.heap.size ≤ g) (hB : g < B) (v : Value) : EndW w (W.setCell ⟨g, i, none⟩ v) gc AP AE AL cp ce cl cs N A1 A2 c1 c2 vl B F O X Y cf co cx cy lf lo lx ly :=
  ⟨grown_farR h.gl (grownBy_set W g i v) (fun k e => by injection e with e; omega), h.ct.grown (grownBy_set W g i v) (fun k e => by injection e with e; exact h.new k (by omega)), h.pc.grown (grownBy_set W g i v) (fun q h0 hq e => by injection e with e; have := h.l1 q h0 hq; omega) (fun q h0 hq e => by injection e with e; have := h.l2 q h0 hq; omega), h.of.setB hB v, h.oo.setB hB v, h.ox.setB hB v, h.oy.setB hB v, h.l1, h.l2, h.new⟩
theorem EndW.drew (h : EndW w W gc AP AE AL cp ce cl cs N A1 A2 c1 c2 vl B F O X Y cf co cx cy lf lo lx ly) : EndW w W.drew gc AP AE AL cp ce cl cs N A1 A2 c1 c2 vl B F O X Y cf co cx cy lf lo lx ly :=
  have hb : Below W.heap.size W W.drew := (Below.refl _ _).drew
  ⟨grown_below h.gl hb, h.ct.below hb, h.pc.below hb, h.of.below hb, h.oo.below hb, h.ox.below hb, h.oy.below hb, h.l1, h.l2, h.new⟩
end
end Go.Proofs.YtpffhoefmcpniaaGreatDoor
