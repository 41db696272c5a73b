/- Parts of the proof: Ne5, Ls, LsP. -/
import Derived.Test.YtpffhoefmcpniaaGreatDoorB1
import Derived.Test.YtpffhoefmcpniaaGreatDoorB13
import Derived.Test.YtpffhoefmcpniaaGreatDoorB25
import Derived.Test.YtpffhoefmcpniaaGreatDoorB31
namespace Go.Proofs.YtpffhoefmcpniaaGreatDoor
open Go.RowKit

def noPan (Q : Exit → Act → World → Prop) : Exit → Act → World → Prop
 | .panic _, _, _ => False
 | e, a, w => Q e a w
theorem noPan_le {Q : Exit → Act → World → Prop} {e : Exit} {a : Act} {w : World} (h : noPan Q e a w) : Q e a w := by
 cases e
 all_goals first | exact h | exact False.elim h
theorem noPan_ret {Q : Exit → Act → World → Prop} {a : Act} {w : World} (h : Q .ret a w) : noPan Q .ret a w := h
theorem run_makePa (k : Nat) (hk : k ≤ 1000000) : ∃ cs : Array Value, cs.size = k * 2 ∧ ∀ W : World, (Instr.makeSlice 123 (.int .i64 (k : Int)) (.int .i64 (k : Int))).run Tryz.prog W = .ok (.slice (some ⟨W.heap.size, 0, none⟩) k k) (W.alloc (.cells cs 127)) := by
 obtain ⟨i, hi, hz, hs, hbb⟩ := info_parts infoPairN
 have hb' : (i.bytes : Int) * (k : Int) ≤ 281474976710656 := by
  rw [hbb]
  omega
 refine ⟨madeCells (Value.agg #[.int .i64 0, .int .i64 0]).cells (k * i.size), by rw [size_madeCells, hs], fun W => ?_⟩
 have hr := run_make (P := Tryz.prog) W 123 127 i _ Tryz.underlying123 hi hz .i64 .i64 k k (by omega) (by omega) hb' (by omega)
 simp only [Int.toNat_natCast] at hr
 exact hr
def PaTo (W : World) (g k i : Nat) (l : List (Int × Int)) : Prop := l.length = k ∧ ∃ cur : Array Value, Blk W g 127 cur ∧ cur.size = k * 2 ∧ ∀ (j : Nat) p, j < i → l[j]? = some p → cur[j * 2]? = some (.int .i64 p.1) ∧ cur[j * 2 + 1]? = some (.int .i64 p.2)
theorem PaTo.start {W : World} {g k : Nat} {l : List (Int × Int)} {cur : Array Value} (hl : l.length = k) (h : Blk W g 127 cur) (hc : cur.size = k * 2) : PaTo W g k 0 l := ⟨hl, cur, h, hc, fun _ _ h _ => by omega⟩
theorem PaTo.cells {W : World} {g k i j : Nat} {l : List (Int × Int)} (h : PaTo W g k i l) (hj : j < k) : (∃ x, W.cell? ⟨g, j * 2, none⟩ = some x) ∧ (∃ x, W.cell? ⟨g, j * 2 + 1, none⟩ = some x) ∧ W.frozen? ⟨g, j * 2, none⟩ = false ∧ W.frozen? ⟨g, j * 2 + 1, none⟩ = false ∧ g < W.heap.size := by
 obtain ⟨_, cur, h1, h2, _⟩ := h
 refine ⟨⟨cur[j * 2]'(by omega), ?_⟩, ⟨cur[j * 2 + 1]'(by omega), ?_⟩, h1.frozen _, h1.frozen _, h1.lt⟩
 · rw [h1.cell]; exact Array.getElem?_eq_getElem _
 · rw [h1.cell]; exact Array.getElem?_eq_getElem _
theorem PaTo.next {W : World} {g k i : Nat} {l : List (Int × Int)} {x y : Int} (h : PaTo W g k i l) (hp : l[i]? = some (x, y)) : PaTo ((W.setCell ⟨g, i * 2, none⟩ (.int .i64 x)).setCell ⟨g, i * 2 + 1, none⟩ (.int .i64 y)) g k (i + 1) l := by
 obtain ⟨h0, cur, h1, h2, h3⟩ := h
 have hi : i < k := by rw [← h0]; exact (List.getElem?_eq_some_iff.1 hp).1
 refine ⟨h0, _, (h1.set_ (i * 2) (.int .i64 x)).set_ (i * 2 + 1) (.int .i64 y), by simp [h2], fun j q hj hq => ?_⟩
 simp only [Array.getElem?_setIfInBounds, Array.size_setIfInBounds]
 by_cases e : j = i
 · subst e
   rw [hp] at hq
   cases hq
   rw [if_neg (by omega), if_pos rfl, if_pos (by omega), if_pos rfl, if_pos (by omega)]
   exact ⟨rfl, rfl⟩
 · rw [if_neg (by omega), if_neg (by omega), if_neg (by omega), if_neg (by omega)]
   exact h3 j q (by omega) hq
theorem PaTo.done {W : World} {g k : Nat} {l : List (Int × Int)} (h : PaTo W g k k l) : RdP W (some ⟨g, 0, none⟩) k l := by
 obtain ⟨h0, cur, h1, h2, h3⟩ := h
 refine ⟨h0, fun i p hp => ?_⟩
 obtain ⟨k1, k2⟩ := h3 i p (by rw [← h0]; exact (List.getElem?_eq_some_iff.1 hp).1) hp
 exact ⟨g, 0, rfl, by rw [h1.cell, Nat.zero_add]; exact k1, by rw [h1.cell, Nat.zero_add]; exact k2⟩
theorem PaTo.keep {W W' : World} {g k i : Nat} {l : List (Int × Int)} (h : PaTo W g k i l) (hk : g < W.heap.size → W'.heap[g]? = W.heap[g]?) : PaTo W' g k i l := by
 obtain ⟨h0, cur, h1, h2⟩ := h
 exact ⟨h0, cur, (hk h1.lt).trans h1, h2⟩

def sAt (sd : List Bool) (x : Int) : Bool := sd.getD x.toNat false
def aselTo (N : NetD) (vl : List Nat) (sd : List Bool) (c : Bool) (i : Nat) : List Nat := ((arcsN N vl).take i).filter (fun k => sAt sd (edgOf N vl k).1 == c && sAt sd (edgOf N vl k).2 == c)
theorem aselTo_zero (N : NetD) (vl : List Nat) (sd : List Bool) (c : Bool) : aselTo N vl sd c 0 = [] := by simp [aselTo]
theorem aselTo_next {N : NetD} {vl : List Nat} {sd : List Bool} {c : Bool} {i k : Nat} (h : (arcsN N vl)[i]? = some k) : aselTo N vl sd c (i + 1) = aselTo N vl sd c i ++ if (sAt sd (edgOf N vl k).1 == c && sAt sd (edgOf N vl k).2 == c) = true then [k] else [] := by
 obtain ⟨h1, e1⟩ := List.getElem?_eq_some_iff.1 h
 unfold aselTo
 rw [List.take_succ_eq_append_getElem h1, e1, List.filter_append]
 congr 1
 cases h : (sAt sd (edgOf N vl k).1 == c && sAt sd (edgOf N vl k).2 == c) <;> simp [h]
theorem aselTo_len (N : NetD) (vl : List Nat) (sd : List Bool) (c : Bool) (i : Nat) : (aselTo N vl sd c i).length ≤ i := by
 have h := List.length_filter_le (fun k => sAt sd (edgOf N vl k).1 == c && sAt sd (edgOf N vl k).2 == c) ((arcsN N vl).take i)
 have h2 := List.length_take_le i (arcsN N vl)
 unfold aselTo
 omega
theorem sAt_sel {vl : List Nat} {sd : List Bool} (hn : vl.Nodup) (hl : sd.length = vl.length) {u : Nat} (hu : u ∈ vl) (c : Bool) : (sAt sd (vl.idxOf u : Int) == c) = true ↔ u ∈ sel c vl sd := by
 have hi := List.idxOf_lt_length_iff.2 hu
 have hg : vl[vl.idxOf u]? = some u := by rw [List.getElem?_eq_getElem hi, List.getElem_idxOf hi]
 have hs := List.getElem?_eq_getElem (show vl.idxOf u < sd.length by omega)
 unfold sAt
 rw [Int.toNat_natCast, List.getD_eq_getElem?_getD, hs, mem_sel]
 simp only [Option.getD_some, beq_iff_eq]
 constructor
 · intro e
   exact ⟨vl.idxOf u, hg, by rw [hs, e]⟩
 · rintro ⟨i, h1, h2⟩
   have : i = vl.idxOf u := (idxOf_atW hn h1).symm
   subst this
   rw [hs] at h2
   exact Option.some.inj h2
theorem aselTo_all {N : NetD} {vl : List Nat} {sd : List Bool} (hn : vl.Nodup) (hl : sd.length = vl.length) (c : Bool) : aselTo N vl sd c (arcsN N vl).length = arcsN N (sel c vl sd) := by
 unfold aselTo
 rw [List.take_length]
 unfold arcsN arcsTo
 rw [List.filter_filter]
 apply List.filter_congr
 intro k hk
 have hk := List.mem_range.1 hk
 have e := List.getElem?_eq_getElem hk
 rw [inA_at e, inA_at e]
 have ee : edgOf N vl k = ((vl.idxOf (N.ar[k]).1.toNat : Int), (vl.idxOf (N.ar[k]).2.1.toNat : Int)) := by unfold edgOf; rw [e]
 rw [ee]
 simp only
 generalize (N.ar[k]).1.toNat = u
 generalize (N.ar[k]).2.1.toNat = v
 rw [Bool.eq_iff_iff]
 simp only [Bool.and_eq_true, decide_eq_true_eq]
 constructor
 · rintro ⟨⟨h1, h2⟩, h3, h4⟩
   exact ⟨(sAt_sel hn hl h3 c).1 h1, (sAt_sel hn hl h4 c).1 h2⟩
 · rintro ⟨h1, h2⟩
   have m1 := (sel_sub c vl sd).subset h1
   have m2 := (sel_sub c vl sd).subset h2
   exact ⟨⟨(sAt_sel hn hl m1 c).2 h1, (sAt_sel hn hl m2 c).2 h2⟩, m1, m2⟩
theorem pts_near {N : NetD} (hN : NetOk N) {vl : List Nat} (h : PcOk N.vs.length vl) : ∀ p ∈ ptsN N vl, near1 p = true := by
 intro p hp
 unfold ptsN at hp
 obtain ⟨v, hv, rfl⟩ := List.mem_map.1 hp
 have e := List.getElem?_eq_getElem (h.2 v hv)
 have ho := hN.verts _ (List.getElem_mem (h.2 v hv))
 unfold ptN near1
 rw [e]
 simp only [ho.x, ho.y, Bool.and_self]
theorem pts_good {N : NetD} (hN : NetOk N) {vl : List Nat} (h : PcOk N.vs.length vl) (h2 : 2 ≤ vl.length) : Good (ptsN N vl) (edgsN N vl) :=
 ⟨by rw [pts_len]; exact h2, pts_near hN h, by rw [pts_len]; exact edgs_ends N vl⟩

structure HvW (w W : World) (gc : Nat) (AP AE AL : Option Addr) (cp ce cl : Nat) (cs : List Value) (N : NetD) (A1 A2 : Option Addr) (c1 c2 : Nat) (vl : List Nat) (L : List Int) : Prop where
 gl : w.grownBy W (blkOf AL)
 ct : CtL W gc AP AE AL cp ce cl cs N L
 pc : RdPc N AL W A1 A2 c1 c2 vl
 b3 : Blk W w.heap.size 87 #[.slice A1 vl.length c1, .slice A2 (arcsN N vl).length c2]
 b4 : Blk W (w.heap.size + 1) 87 #[.slice none 0 0, .slice none 0 0]
 b5 : Blk W (w.heap.size + 1 + 1) 87 #[.slice none 0 0, .slice none 0 0]
 l1 : ∀ g, 0 < vl.length → blkOf A1 = some g → g < w.heap.size
 l2 : ∀ g, 0 < (arcsN N vl).length → blkOf A2 = some g → g < w.heap.size
 new : ∀ k, w.heap.size ≤ k → k ≠ gc ∧ blkOf AP ≠ some k ∧ blkOf AE ≠ some k ∧ blkOf AL ≠ some k
section
variable {w W W' : World} {gc cp ce cl c1 c2 : Nat} {AP AE AL A1 A2 : Option Addr} {cs : List Value} {N : NetD} {vl : List Nat} {L L' : List Int}
theorem HvW.below (h : HvW w W gc AP AE AL cp ce cl cs N A1 A2 c1 c2 vl L) (hb : Below W.heap.size W W') : HvW w W' gc AP AE AL cp ce cl cs N A1 A2 c1 c2 vl L :=
 ⟨grown_below h.gl hb, h.ct.below hb, h.pc.below hb, h.b3.below hb h.b3.lt, h.b4.below hb h.b4.lt, h.b5.below hb h.b5.lt, h.l1, h.l2, h.new⟩
theorem HvW.far {r : Option Nat} (h : HvW w W gc AP AE AL cp ce cl cs N A1 A2 c1 c2 vl L) (hg : W.grownBy W' r) (hr : ∀ k, r = some k → w.heap.size + 3 ≤ k) : HvW w W' gc AP AE AL cp ce cl cs N A1 A2 c1 c2 vl L :=
 ⟨grown_farR h.gl hg (fun k e => by have := hr k e; omega), h.ct.grown hg (fun k e => h.new k (by have := hr k e; omega)), h.pc.grown hg (fun g h0 hg e => by have := hr g e; have := h.l1 g h0 hg; omega) (fun g h0 hg e => by have := hr g e; have := h.l2 g h0 hg; omega), h.b3.grown hg (fun e => by have := hr _ e; omega), h.b4.grown hg (fun e => by have := hr _ e; omega), h.b5.grown hg (fun e => by have := hr _ e; omega), h.l1, h.l2, h.new⟩
theorem HvW.place {g v : Nat} {x : Value} (h : HvW w W gc AP AE AL cp ce cl cs N A1 A2 c1 c2 vl L) (hA : AL = some ⟨g, 0, none⟩) (hc : CtL (W.setCell ⟨g, v, none⟩ x) gc AP AE AL cp ce cl cs N L') : HvW w (W.setCell ⟨g, v, none⟩ x) gc AP AE AL cp ce cl cs N A1 A2 c1 c2 vl L' := by
 have hb : blkOf AL = some g := by rw [hA]; rfl
 have hlt : ∀ k, w.heap.size ≤ k → g ≠ k := fun k hk e => (h.new k hk).2.2.2 (by rw [hb, e])
 refine ⟨h.gl.trans (by rw [hb]; exact grownBy_set W g v x), hc, h.pc.grown (grownBy_set W g v x) (fun q h0 hq e => h.pc.n1 q h0 hq (by rw [hb, e])) (fun q h0 hq e => h.pc.n2 q h0 hq (by rw [hb, e])), ?_, ?_, ?_, h.l1, h.l2, h.new⟩
 · exact h.b3.grown (grownBy_set W g v x) (fun e => hlt _ (Nat.le_refl _) (by injection e))
 · exact h.b4.grown (grownBy_set W g v x) (fun e => hlt (w.heap.size + 1) (by omega) (by injection e))
 · exact h.b5.grown (grownBy_set W g v x) (fun e => hlt (w.heap.size + 1 + 1) (by omega) (by injection e))
end
structure HvX (w W : World) (gc : Nat) (AP AE AL : Option Addr) (cp ce cl : Nat) (cs : List Value) (N : NetD) (A1 A2 : Option Addr) (c1 c2 : Nat) (vl : List Nat) (B8 ge : Nat) (AS : Option Addr) (cS : Nat) (s : Spl) : Prop where
 hv : HvW w W gc AP AE AL cp ce cl cs N A1 A2 c1 c2 vl (plcL N.vs.length vl vl.length)
 re : RdP W (some ⟨ge, 0, none⟩) (arcsN N vl).length (edgsN N vl)
 rs : RdB W AS vl.length s.side
 bs : Blk W B8 162 #[.slice AS vl.length cS, .int .i64 s.cross, .int .i64 s.dir, .int .i64 s.kind]
 lg : w.heap.size + 3 < ge ∧ ge < B8
 ls : ∀ g, blkOf AS = some g → g < B8
section
variable {w W W' : World} {gc cp ce cl c1 c2 B8 ge cS : Nat} {AP AE AL A1 A2 AS : Option Addr} {cs : List Value} {N : NetD} {vl : List Nat} {s : Spl}
theorem HvX.below (h : HvX w W gc AP AE AL cp ce cl cs N A1 A2 c1 c2 vl B8 ge AS cS s) (hb : Below W.heap.size W W') : HvX w W' gc AP AE AL cp ce cl cs N A1 A2 c1 c2 vl B8 ge AS cS s :=
 ⟨h.hv.below hb, h.re.below hb, h.rs.below hb, h.bs.below hb h.bs.lt, h.lg, h.ls⟩
theorem HvX.far {r : Option Nat} (h : HvX w W gc AP AE AL cp ce cl cs N A1 A2 c1 c2 vl B8 ge AS cS s) (hg : W.grownBy W' r) (hr : ∀ k, r = some k → B8 < k) : HvX w W' gc AP AE AL cp ce cl cs N A1 A2 c1 c2 vl B8 ge AS cS s :=
 ⟨h.hv.far hg (fun k e => by have := hr k e; have := h.lg; omega), h.re.grownN hg (fun g e1 e2 => by have e1 : some ge = some g := e1; injection e1 with e1; have := hr g e2; have := h.lg; omega), h.rs.grownN hg (fun g e1 e2 => by have := hr g e2; have := h.ls g e1; omega), h.bs.grown hg (fun e => by have := hr _ e; omega), h.lg, h.ls⟩
end
structure TwW (W : World) (B g h : Nat) (F O X Y : Option Addr) (cf co cx cy : Nat) (lf lo lx ly : List Nat) : Prop where
 bg : Blk W g 87 #[.slice F lf.length cf, .slice X lx.length cx]
 bh : Blk W h 87 #[.slice O lo.length co, .slice Y ly.length cy]
 of : Own W B 3 1 F lf.length cf (icells (nats lf))
 oo : Own W B 3 1 O lo.length co (icells (nats lo))
 ox : Own W B 3 1 X lx.length cx (icells (nats lx))
 oy : Own W B 3 1 Y ly.length cy (icells (nats ly))
 fo : Dj F O
 fx : Dj F X
 fy : Dj F Y
 ex : Dj O X
 ey : Dj O Y
 xy : Dj X Y
 gB : g < B
 hB : h < B
 gh : g ≠ h
 sz : B ≤ W.heap.size
section
variable {W W' w' : World} {B g h cf co cx cy c' : Nat} {F O X Y A' : Option Addr} {lf lo lx ly : List Nat} {k : Nat}
theorem TwW.below (t : TwW W B g h F O X Y cf co cx cy lf lo lx ly) (hb : Below W.heap.size W W') : TwW W' B g h F O X Y cf co cx cy lf lo lx ly :=
 ⟨t.bg.below hb t.bg.lt, t.bh.below hb t.bh.lt, t.of.below hb, t.oo.below hb, t.ox.below hb, t.oy.below hb, t.fo, t.fx, t.fy, t.ex, t.ey, t.xy, t.gB, t.hB, t.gh, Nat.le_trans t.sz hb.size⟩
theorem TwW.pushF (t : TwW W B g h F O X Y cf co cx cy lf lo lx ly) (ho : Own w' B 3 1 A' (lf.length + 1) c' (icells (nats lf) ++ icells [(k : Int)])) (hg : W.grownBy w' (blkOf F)) (hat : blkOf A' = blkOf F ∨ blkOf A' = some W.heap.size) :
 TwW (w'.setCell ⟨g, 0, none⟩ (.slice A' (lf.length + 1) c')) B g h A' O X Y c' co cx cy (lf ++ [k]) lo lx ly := by
 have b1 := (t.bg.grown hg (t.of.ne t.gB)).set_ 0 (.slice A' (lf.length + 1) c')
 have b2 := (t.bh.grown hg (t.of.ne t.hB)).far (p := ⟨g, 0, none⟩) (fun e => t.gh e.symm) (.slice A' (lf.length + 1) c')
 exact ⟨by simpa using b1, b2, by rw [nats_snoc]; simpa using ho.setB t.gB _, (t.oo.far hg t.fo.far).setB t.gB _, (t.ox.far hg t.fx.far).setB t.gB _, (t.oy.far hg t.fy.far).setB t.gB _, t.fo.next t.oo hat, t.fx.next t.ox hat, t.fy.next t.oy hat, t.ex, t.ey, t.xy, t.gB, t.hB, t.gh, by simp [World.setCell]; exact Nat.le_trans t.sz hg.size⟩
theorem TwW.pushO (t : TwW W B g h F O X Y cf co cx cy lf lo lx ly) (ho : Own w' B 3 1 A' (lo.length + 1) c' (icells (nats lo) ++ icells [(k : Int)])) (hg : W.grownBy w' (blkOf O)) (hat : blkOf A' = blkOf O ∨ blkOf A' = some W.heap.size) :
 TwW (w'.setCell ⟨h, 0, none⟩ (.slice A' (lo.length + 1) c')) B g h F A' X Y cf c' cx cy lf (lo ++ [k]) lx ly := by
 have b1 := (t.bh.grown hg (t.oo.ne t.hB)).set_ 0 (.slice A' (lo.length + 1) c')
 have b2 := (t.bg.grown hg (t.oo.ne t.gB)).far (p := ⟨h, 0, none⟩) t.gh (.slice A' (lo.length + 1) c')
 exact ⟨b2, by simpa using b1, (t.of.far hg t.fo.symm.far).setB t.hB _, by rw [nats_snoc]; simpa using ho.setB t.hB _, (t.ox.far hg t.ex.far).setB t.hB _, (t.oy.far hg t.ey.far).setB t.hB _, (t.fo.symm.next t.of hat).symm, t.fx, t.fy, t.ex.next t.ox hat, t.ey.next t.oy hat, t.xy, t.gB, t.hB, t.gh, by simp [World.setCell]; exact Nat.le_trans t.sz hg.size⟩
theorem TwW.pushX (t : TwW W B g h F O X Y cf co cx cy lf lo lx ly) (ho : Own w' B 3 1 A' (lx.length + 1) c' (icells (nats lx) ++ icells [(k : Int)])) (hg : W.grownBy w' (blkOf X)) (hat : blkOf A' = blkOf X ∨ blkOf A' = some W.heap.size) :
 TwW (w'.setCell ⟨g, 1, none⟩ (.slice A' (lx.length + 1) c')) B g h F O A' Y cf co c' cy lf lo (lx ++ [k]) ly := by
 have b1 := (t.bg.grown hg (t.ox.ne t.gB)).set_ 1 (.slice A' (lx.length + 1) c')
 have b2 := (t.bh.grown hg (t.ox.ne t.hB)).far (p := ⟨g, 1, none⟩) (fun e => t.gh e.symm) (.slice A' (lx.length + 1) c')
 exact ⟨by simpa using b1, b2, (t.of.far hg t.fx.symm.far).setB t.gB _, (t.oo.far hg t.ex.symm.far).setB t.gB _, by rw [nats_snoc]; simpa using ho.setB t.gB _, (t.oy.far hg t.xy.far).setB t.gB _, t.fo, (t.fx.symm.next t.of hat).symm, t.fy, (t.ex.symm.next t.oo hat).symm, t.ey, t.xy.next t.oy hat, t.gB, t.hB, t.gh, by simp [World.setCell]; exact Nat.le_trans t.sz hg.size⟩
theorem TwW.pushY (t : TwW W B g h F O X Y cf co cx cy lf lo lx ly) (ho : Own w' B 3 1 A' (ly.length + 1) c' (icells (nats ly) ++ icells [(k : Int)])) (hg : W.grownBy w' (blkOf Y)) (hat : blkOf A' = blkOf Y ∨ blkOf A' = some W.heap.size) :
 TwW (w'.setCell ⟨h, 1, none⟩ (.slice A' (ly.length + 1) c')) B g h F O X A' cf co cx c' lf lo lx (ly ++ [k]) := by
 have b1 := (t.bh.grown hg (t.oy.ne t.hB)).set_ 1 (.slice A' (ly.length + 1) c')
 have b2 := (t.bg.grown hg (t.oy.ne t.gB)).far (p := ⟨h, 1, none⟩) t.gh (.slice A' (ly.length + 1) c')
 exact ⟨b2, by simpa using b1, (t.of.far hg t.fy.symm.far).setB t.hB _, (t.oo.far hg t.ey.symm.far).setB t.hB _, (t.ox.far hg t.xy.symm.far).setB t.hB _, by rw [nats_snoc]; simpa using ho.setB t.hB _, t.fo, t.fx, (t.fy.symm.next t.of hat).symm, t.ex, (t.ey.symm.next t.oo hat).symm, (t.xy.symm.next t.ox hat).symm, t.gB, t.hB, t.gh, by simp [World.setCell]; exact Nat.le_trans t.sz hg.size⟩
end
structure EndW (w W : World) (gc : Nat) (AP AE AL : Option Addr) (cp ce cl : Nat) (cs : List Value) (N : NetD) (A1 A2 : Option Addr) (c1 c2 : Nat) (vl : List Nat) (B : Nat) (F O X Y : Option Addr) (cf co cx cy : Nat) (lf lo lx ly : List Nat) : Prop where
 gl : w.grownBy W (blkOf AL)
 ct : CtL W gc AP AE AL cp ce cl cs N (plcL N.vs.length vl vl.length)
 pc : RdPc N AL W A1 A2 c1 c2 vl
 of : Own W B 3 1 F lf.length cf (icells (nats lf))
 oo : Own W B 3 1 O lo.length co (icells (nats lo))
 ox : Own W B 3 1 X lx.length cx (icells (nats lx))
 oy : Own W B 3 1 Y ly.length cy (icells (nats ly))
 l1 : ∀ g, 0 < vl.length → blkOf A1 = some g → g < w.heap.size
 l2 : ∀ g, 0 < (arcsN N vl).length → blkOf A2 = some g → g < w.heap.size
 new : ∀ k, w.heap.size ≤ k → k ≠ gc ∧ blkOf AP ≠ some k ∧ blkOf AE ≠ some k ∧ blkOf AL ≠ some k
section
variable {w W W' : World} {gc cp ce cl c1 c2 B g i cf co cx cy : Nat} {AP AE AL A1 A2 F O X Y : Option Addr} {cs : List Value} {N : NetD} {vl lf lo lx ly : List Nat}
theorem EndW.set (h : EndW w W gc AP AE AL cp ce cl cs N A1 A2 c1 c2 vl B F O X Y cf co cx cy lf lo lx ly) (hg : w.heap.size ≤ g) (hB : g < B) (v : Value) : EndW w (W.setCell ⟨g, i, none⟩ v) gc AP AE AL cp ce cl cs N A1 A2 c1 c2 vl B F O X Y cf co cx cy lf lo lx ly :=
 ⟨grown_farR h.gl (grownBy_set W g i v) (fun k e => by injection e with e; omega), h.ct.grown (grownBy_set W g i v) (fun k e => by injection e with e; exact h.new k (by omega)), h.pc.grown (grownBy_set W g i v) (fun q h0 hq e => by injection e with e; have := h.l1 q h0 hq; omega) (fun q h0 hq e => by injection e with e; have := h.l2 q h0 hq; omega), h.of.setB hB v, h.oo.setB hB v, h.ox.setB hB v, h.oy.setB hB v, h.l1, h.l2, h.new⟩
theorem EndW.drew (h : EndW w W gc AP AE AL cp ce cl cs N A1 A2 c1 c2 vl B F O X Y cf co cx cy lf lo lx ly) : EndW w W.drew gc AP AE AL cp ce cl cs N A1 A2 c1 c2 vl B F O X Y cf co cx cy lf lo lx ly :=
 have hb : Below W.heap.size W W.drew := (Below.refl _ _).drew
 ⟨grown_below h.gl hb, h.ct.below hb, h.pc.below hb, h.of.below hb, h.oo.below hb, h.ox.below hb, h.oy.below hb, h.l1, h.l2, h.new⟩
end
end Go.Proofs.YtpffhoefmcpniaaGreatDoor

namespace Go.Proofs.YtpffhoefmcpniaaGreatDoor
open Go.RowKit

attribute [local go_sem ↓] Go.wp_at_zero Go.wp_at_succ

def plI (l : List Int) (v : Int) : Int := match l.findIdx? (· == v) with | some i => (i : Int) | none => -1
theorem plI_hit {l : List Int} {v : Int} {k : Nat} (h : l[k]? = some v) (hj : ∀ j x, j < k → l[j]? = some x → x ≠ v) : plI l v = k := by
 unfold plI
 have hk := (List.getElem?_eq_some_iff.1 h).1
 have : l.findIdx? (· == v) = some k := by
  rw [List.findIdx?_eq_some_iff_getElem]
  refine ⟨hk, by simpa using (List.getElem?_eq_some_iff.1 h).2, fun j hjk => ?_⟩
  simpa using hj j _ hjk (List.getElem?_eq_getElem (by omega))
 rw [this]
theorem plI_miss {l : List Int} {v : Int} (h : v ∉ l) : plI l v = -1 := by
 unfold plI
 have : l.findIdx? (· == v) = none := by
  rw [List.findIdx?_eq_none_iff]
  intro x hx
  have : x ≠ v := fun e => h (e ▸ hx)
  simpa using this
 rw [this]
theorem plI_mem {l : List Int} {v : Int} (h : v ∈ l) : ∃ k : Nat, plI l v = k ∧ l[k]? = some v := by
 obtain ⟨k, hk⟩ := List.getElem?_of_mem h
 unfold plI
 cases e : l.findIdx? (· == v) with
 | none =>
  rw [List.findIdx?_eq_none_iff] at e
  have := e v h
  simp at this
 | some i =>
  rw [List.findIdx?_eq_some_iff_getElem] at e
  obtain ⟨hi, h1, _⟩ := e
  refine ⟨i, rfl, ?_⟩
  rw [List.getElem?_eq_getElem hi]
  simpa using h1
theorem plI_nn {l : List Int} {v : Int} : 0 ≤ plI l v ↔ v ∈ l := by
 constructor
 · intro h
   by_cases hm : v ∈ l
   · exact hm
   · rw [plI_miss hm] at h
     omega
 · intro h
   obtain ⟨k, e, _⟩ := plI_mem h
   omega
set_option maxHeartbeats 400000 in
theorem index_any (A : Option Addr) (n c : Nat) (l : List Int) (v : Int) (w : World) (h : RdI w A n l) (hn : n ≤ 1000000000) :
 Calls Tryz.prog 87 #[.slice A n c, .int .i64 v] w fun e w' => e = .returned (.int .i64 (plI l v)) ∧ w = w' := by
 have HR := Lib.hid h
 have HL := Lib.hid h.1
 clear h
 go_enter Tryz.func87, Tryz.ntmps87
 go_wp2_with fail
 go_loop [8] (fun q => ∃ k : Nat, k ≤ n ∧ q = .int .i64 k ∧ ∀ j x, j < k → l[j]? = some x → x ≠ v) (fun q => n - (intOf q).toNat)
 case atStart => exact ⟨0, Nat.zero_le _, rfl, fun _ _ h => absurd h (Nat.not_lt_zero _)⟩
 case round =>
  obtain ⟨k, hk, rfl, hj⟩ := hrel
  have HJ := Lib.hid hj
  clear hj
  by_cases hlt : k < n
  · obtain ⟨b, o, x, rfl, hx, hc⟩ := HR.out.at_ hlt
    have i1 : (0 : Int) ≤ (k : Int) := by omega
    have i2 : (k : Int) < (n : Int) := by omega
    by_cases e : x = v
    · have HP := Lib.hid (plI_hit (e ▸ hx) HJ.out)
      have e1 : (x == v) = true := by simpa using e
      have e2 : (v == x) = true := by simpa using e.symm
      clear e hx
      go_wp2_with fail
      go_ret
      exact ⟨ret_int HP.out.symm, rfl⟩
    · have e1 : (x == v) = false := by simpa using e
      have e2 : (v == x) = false := by simpa using (fun h : v = x => e h.symm)
      have HX := Lib.hid hx
      have HE := Lib.hid e
      clear e hx
      go_wp2_with fail
      go_round
      case rel => exact ⟨k + 1, by omega, by go_num, fun j y hj hy => by
       by_cases ej : j = k
       · subst ej
         rw [HX.out] at hy
         cases hy
         exact HE.out
       · exact HJ.out j y (by omega) hy⟩
      case measure => simp [intOf]; omega
  · obtain rfl : n = k := by omega
    have HP := Lib.hid (plI_miss (l := l) (v := v) (fun hm => by
     obtain ⟨j, hj⟩ := List.getElem?_of_mem hm
     exact HJ.out j v (by rw [← HL.out]; exact (List.getElem?_eq_some_iff.1 hj).1) hj rfl))
    go_wp2_with fail
    go_ret
    exact ⟨ret_int HP.out.symm, rfl⟩
theorem contains_any (A : Option Addr) (n c : Nat) (l : List Int) (v : Int) (w : World) (h : RdI w A n l) (hn : n ≤ 1000000000) :
 Calls Tryz.prog 68 #[.slice A n c, .int .i64 v] w fun e w' => e = .returned (.bool (decide (v ∈ l))) ∧ w = w' := by
 have HI := Lib.hid (index_any A n c l v w h hn)
 have HD := Lib.hid (show decide ((0 : Int) ≤ plI l v) = decide (v ∈ l) by simp [plI_nn])
 clear h
 go_enter Tryz.func68, Tryz.ntmps68
 go_wp2_with fail
 with_reducible refine HI.out.mono ?_
 rintro e w' ⟨rfl, rfl⟩
 generalize plI l v = p at *
 go_wp2_with fail
 go_ret
 exact ⟨ret_bool (by rw [← HD.out]), rfl⟩
theorem less_any (a b : Int) (w : World) : Calls Tryz.prog 88 #[.int .i64 a, .int .i64 b] w fun e w' => e = .returned (.bool (decide (a < b))) ∧ w = w' := by
 go_enter Tryz.func88, Tryz.ntmps88
 go_wp2
 go_ret
 exact ⟨ret_bool (by simp), rfl⟩
def sortedB (l : List Int) : Bool := decide (l.Pairwise (· ≤ ·))
theorem sortedB_of {l : List Int} (h : ∀ (j : Nat) (x y : Int), l[j]? = some x → l[j + 1]? = some y → x ≤ y) : sortedB l = true := by
 unfold sortedB
 rw [decide_eq_true_eq, List.pairwise_iff_getElem]
 intro i j hi hj hij
 obtain ⟨d, rfl⟩ : ∃ d, j = i + 1 + d := ⟨j - i - 1, by omega⟩
 clear hij
 induction d with
 | zero => exact h i _ _ (List.getElem?_eq_getElem hi) (List.getElem?_eq_getElem hj)
 | succ d ih =>
  have := ih (by omega)
  have := h (i + 1 + d) _ _ (List.getElem?_eq_getElem (by omega)) (List.getElem?_eq_getElem hj)
  omega
theorem sortedB_not {l : List Int} {j : Nat} {x y : Int} (h1 : l[j]? = some x) (h2 : l[j + 1]? = some y) (h : y < x) : sortedB l = false := by
 unfold sortedB
 rw [decide_eq_false_iff_not, List.pairwise_iff_getElem]
 intro hp
 have := hp j (j + 1) (List.getElem?_eq_some_iff.1 h1).1 (List.getElem?_eq_some_iff.1 h2).1 (by omega)
 rw [(List.getElem?_eq_some_iff.1 h1).2, (List.getElem?_eq_some_iff.1 h2).2] at this
 omega
set_option maxHeartbeats 1000000 in
theorem isSorted_any (A : Option Addr) (n c : Nat) (l : List Int) (w : World) (h : RdI w A n l) (hn : n ≤ 1000000000) :
 Calls Tryz.prog 69 #[.slice A n c] w fun e w' => e = .returned (.bool (sortedB l)) ∧ ∃ k, w' = w.drewN k := by
 have HR := Lib.hid h
 have HL := Lib.hid h.1
 clear h
 go_enter Tryz.func69, Tryz.ntmps69
 go_wp2_with fail
 go_loopw [3] (fun q W => (∃ d, W = w.drewN d) ∧ ∃ k : Int, -1 ≤ k ∧ k < n ∧ q = .int .i64 k ∧ ∀ (j : Nat) x y, k ≤ j → l[j]? = some x → l[j + 1]? = some y → x ≤ y) (fun q _ => (intOf q).toNat)
 case atStart =>
  refine ⟨⟨0, rfl⟩, (n : Int) - 1, by omega, by omega, rfl, fun j x y hj _ hy => ?_⟩
  have := (List.getElem?_eq_some_iff.1 hy).1
  rw [HL.out] at this
  omega
 case round =>
  obtain ⟨hd, k, hk, hkn, rfl, hj⟩ := hrel
  have HW := Lib.hid hd
  have HJ := Lib.hid hj
  clear hj
  by_cases hlt : 0 < k
  · obtain ⟨m, rfl⟩ : ∃ m : Nat, k = (m : Int) + 1 := ⟨(k - 1).toNat, by omega⟩
    obtain ⟨b, o, x, rfl, hx, hc⟩ := HR.out.at_ (show m < n by omega)
    obtain ⟨b', o', y, e, hy, hc'⟩ := HR.out.at_ (show m + 1 < n by omega)
    cases e
    have hc1 : wr.cell? ⟨b, o + m, none⟩ = some (.int .i64 x) := by obtain ⟨d, rfl⟩ := hd; exact hc
    have hc2 : wr.cell? ⟨b, o + (m + 1), none⟩ = some (.int .i64 y) := by obtain ⟨d, rfl⟩ := hd; exact hc'
    have HLS := Lib.hid (fun V => less_any y x V)
    have i1 : (0 : Int) ≤ (m : Int) := by omega
    have i2 : (m : Int) < (n : Int) := by omega
    have i3 : (m : Int) + 1 < (n : Int) := by omega
    have i4 : (0 : Int) ≤ (m : Int) + 1 := by omega
    have i5 : (m : Int) + 1 - 1 = (m : Int) := by omega
    have i6 : ((m : Int) + 1).toNat = m + 1 := by omega
    have HX := Lib.hid hx
    have HY := Lib.hid hy
    clear hx hy hc hc' hd
    by_cases hyx : y < x
    · have e1 : decide (y < x) = true := by simpa using hyx
      have HS := Lib.hid (sortedB_not HX.out HY.out hyx)
      go_wp2_with fail
      go_quiet ((go_at_call 88; exact quiet_left (HLS.out _)))
      go_wp2_with fail
      go_ret
      refine ⟨ret_bool HS.out.symm, ?_⟩
      obtain ⟨d, e⟩ := HW.out
      exact ⟨d + nq, by rw [e, World.drewN_drewN]⟩
    · have e1 : decide (y < x) = false := by simpa using hyx
      have HS := Lib.hid hyx
      go_wp2_with fail
      go_quiet ((go_at_call 88; exact quiet_left (HLS.out _)))
      go_wp2_with fail
      go_roundw
      case rel =>
       obtain ⟨d, e⟩ := HW.out
       refine ⟨⟨d + nq, by rw [e, World.drewN_drewN]⟩, (m : Int), by omega, by omega, by first | rfl | go_num, fun j x' y' hj h1 h2 => ?_⟩
       by_cases ej : j = m
       · subst ej
         rw [HX.out] at h1
         rw [HY.out] at h2
         cases h1
         cases h2
         have := HS.out
         omega
       · exact HJ.out j x' y' (by omega) h1 h2
      case measure => simp [intOf]
  · have HS := Lib.hid (sortedB_of (l := l) (fun j x y h1 h2 => HJ.out j x y (by omega) h1 h2))
    go_wp2_with fail
    go_ret
    exact ⟨ret_bool HS.out.symm, HW.out⟩
end Go.Proofs.YtpffhoefmcpniaaGreatDoor

namespace Go.Proofs.YtpffhoefmcpniaaGreatDoor
open Go.RowKit

attribute [local go_sem ↓] Go.wp_at_zero Go.wp_at_succ

set_option maxHeartbeats 400000 in
theorem place_any (A : Option Addr) (n c : Nat) (l : List Int) (v : Int) (w : World) (h : RdI w A n l) (hn : n ≤ 1000000000) :
 Calls Tryz.prog 83 #[.slice A n c, .int .i64 v] w fun e w' => e = .returned (.int .i64 (plI l v)) ∧ w = w' := by
 have HR := Lib.hid h
 have HL := Lib.hid h.1
 clear h
 go_enter Tryz.func83, Tryz.ntmps83
 go_wp2_with fail
 go_loop [5] (fun q => ∃ k : Nat, k ≤ n ∧ q = .int .i64 k ∧ ∀ j x, j < k → l[j]? = some x → x ≠ v) (fun q => n - (intOf q).toNat)
 case atStart => exact ⟨0, Nat.zero_le _, rfl, fun _ _ h => absurd h (Nat.not_lt_zero _)⟩
 case round =>
  obtain ⟨k, hk, rfl, hj⟩ := hrel
  have HJ := Lib.hid hj
  clear hj
  by_cases hlt : k < n
  · obtain ⟨b, o, x, rfl, hx, hc⟩ := HR.out.at_ hlt
    have i1 : (0 : Int) ≤ (k : Int) := by omega
    have i2 : (k : Int) < (n : Int) := by omega
    by_cases e : x = v
    · have HP := Lib.hid (plI_hit (e ▸ hx) HJ.out)
      have e1 : (x == v) = true := by simpa using e
      have e2 : (v == x) = true := by simpa using e.symm
      clear e hx
      go_wp2_with fail
      go_ret
      exact ⟨ret_int HP.out.symm, rfl⟩
    · have e1 : (x == v) = false := by simpa using e
      have e2 : (v == x) = false := by simpa using (fun h : v = x => e h.symm)
      have HX := Lib.hid hx
      have HE := Lib.hid e
      clear e hx
      go_wp2_with fail
      go_round
      case rel => exact ⟨k + 1, by omega, by go_num, fun j y hj hy => by
       by_cases ej : j = k
       · subst ej
         rw [HX.out] at hy
         cases hy
         exact HE.out
       · exact HJ.out j y (by omega) hy⟩
      case measure => simp [intOf]; omega
  · obtain rfl : n = k := by omega
    have HP := Lib.hid (plI_miss (l := l) (v := v) (fun hm => by
     obtain ⟨j, hj⟩ := List.getElem?_of_mem hm
     exact HJ.out j v (by rw [← HL.out]; exact (List.getElem?_eq_some_iff.1 hj).1) hj rfl))
    go_wp2_with fail
    go_ret
    exact ⟨ret_int HP.out.symm, rfl⟩
end Go.Proofs.YtpffhoefmcpniaaGreatDoor
