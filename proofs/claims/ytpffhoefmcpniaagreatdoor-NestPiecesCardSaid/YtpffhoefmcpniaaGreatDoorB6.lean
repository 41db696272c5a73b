/- Parts of the proof: QFlW, QFl3. -/
import Derived.Test.YtpffhoefmcpniaaGreatDoorB1
import Derived.Test.YtpffhoefmcpniaaGreatDoorB5
namespace Go.Proofs.YtpffhoefmcpniaaGreatDoor
open Go.RowKit

def Subw (a b : World) : Prop := ∀ p v, a.cell? p = some v → b.cell? p = some v
def Freew (w : World) (k : Nat) : Prop := ∀ p : Addr, p.block = k → w.cell? p = none
theorem Subw.trans {a b c : World} (h : Subw a b) (g : Subw b c) : Subw a c := fun p v e => g p v (h p v e)
theorem Subw.of {a b : World} (hb : Below a.heap.size a b) : Subw a b := fun _ _ e => Below.cellOf hb (Nat.le_refl _) e
theorem Subw.below {a b c : World} (h : Subw a b) (hb : Below b.heap.size b c) : Subw a c := h.trans (Subw.of hb)
theorem Subw.free {a b : World} {k : Nat} (h : Subw a b) (hk : b.heap.size ≤ k) : Freew a k := fun p e => by
 cases hc : a.cell? p with
 | none => rfl
 | some v => have := lt_of_cell (h p v hc); omega
theorem Subw.grown {a b c : World} {r : Nat} (h : Subw a b) (hg : b.grownBy c (some r)) (hf : Freew a r) : Subw a c := fun p v e => by
 have hb := h p v e
 have hne : p.block ≠ r := fun er => by rw [hf p er] at e; cases e
 have hk := hg.block p.block (lt_of_cell hb) (fun er => hne (by injection er))
 unfold World.cell? at hb ⊢
 rw [hk]
 exact hb
theorem Subw.setCell {a b : World} {g i : Nat} (h : Subw a b) (hf : Freew a g) (v : Value) : Subw a (b.setCell ⟨g, i, none⟩ v) := h.grown (grownBy_set b g i v) hf
theorem RdK.sub {k : IntKind} {w w' : World} {A : Option Addr} {n : Nat} {l : List Int} (h : RdK k w A n l) (hb : Subw w w') : RdK k w' A n l :=
 ⟨h.1, fun i x hx => by obtain ⟨b, o, e, hc⟩ := h.2 i x hx; exact ⟨b, o, e, hb _ _ hc⟩⟩
theorem RdL.sub {w w' : World} {A : Option Addr} {n : Nat} {l : List Lnk} (h : RdL w A n l) (hb : Subw w w') : RdL w' A n l :=
 ⟨h.1, fun i x hx => by
  obtain ⟨b, o, e, h1, h2, h3, h4⟩ := h.2 i x hx
  exact ⟨b, o, e, hb _ _ h1, hb _ _ h2, hb _ _ h3, hb _ _ h4⟩⟩
theorem RdN.sub {w w' : World} {A : Option Addr} {n : Nat} {ls : List (List Lnk)} (h : RdN w A n ls) (hb : Subw w w') : RdN w' A n ls :=
 ⟨h.1, fun i l hl => by
  obtain ⟨b, o, A', c', h1, h2, h3, h4, h5⟩ := h.2 i l hl
  exact ⟨b, o, A', c', h1, hb _ _ h2, h3.sub hb, h4, h5⟩⟩
structure Wk (w0 W : World) (n m gw gf ge gd gx ct : Nat) (AT : Option Addr) (ls : List (List Lnk)) (f : List Int) (en : List Bool) (d nx : List Int) : Prop where
 at0 : RdN w0 AT n ls
 bel : Subw w0 W
 z : Freew w0 gw ∧ Freew w0 gf ∧ Freew w0 ge ∧ Freew w0 gd ∧ Freew w0 gx
 ne : gw ≠ gf ∧ gw ≠ ge ∧ gw ≠ gd ∧ gw ≠ gx ∧ gf ≠ ge ∧ gf ≠ gd ∧ gf ≠ gx ∧ ge ≠ gd ∧ ge ≠ gx ∧ gd ≠ gx
 bw : Blk W gw 219 #[.slice AT n ct, .slice (some ⟨gf, 0, none⟩) m m, .slice (some ⟨ge, 0, none⟩) n n, .slice (some ⟨gd, 0, none⟩) n n, .slice (some ⟨gx, 0, none⟩) n n]
 bf : Blk W gf 3 (ints f)
 be : Blk W ge 4 (bools en)
 bd : Blk W gd 3 (ints d)
 bx : Blk W gx 3 (ints nx)
 lf : f.length = m
 le : en.length = n
 ld : d.length = n
 lx : nx.length = n
theorem grownBy_trans {a b c : World} {r : Option Nat} (h : a.grownBy b r) (g : b.grownBy c r) : a.grownBy c r :=
 ⟨g.os.trans h.os, g.tape.trans h.tape, g.output.trans h.output, Nat.le_trans h.size g.size, fun k hk hne => (g.block k (Nat.lt_of_lt_of_le hk h.size) hne).trans (h.block k hk hne)⟩
theorem grownBy_below {a b : World} (h : Below a.heap.size a b) (r : Option Nat) : a.grownBy b r := ⟨h.os, h.tape, h.output, h.size, fun k hk _ => h.block k hk⟩
theorem grownBy_new {a b : World} {r : Option Nat} {g i : Nat} {v : Value} (h : a.grownBy b r) (hg : a.heap.size ≤ g) : a.grownBy (b.setCell ⟨g, i, none⟩ v) r :=
 ⟨h.os, h.tape, h.output, Nat.le_trans h.size (by simp [World.setCell]), fun k hk hne => (Below.heap_setCell b ⟨g, i, none⟩ v k (by simp only; omega)).trans (h.block k hk hne)⟩
theorem Blk.five {w : World} {g : Nat} {t : TypeId} {a b c d e : Value} (h : Blk w g t #[a, b, c, d, e]) :
 w.cell? ⟨g, 0, none⟩ = some a ∧ w.cell? ⟨g, 1, none⟩ = some b ∧ w.cell? ⟨g, 2, none⟩ = some c ∧ w.cell? ⟨g, 3, none⟩ = some d ∧ w.cell? ⟨g, 4, none⟩ = some e :=
 ⟨by rw [h.cell]; rfl, by rw [h.cell]; rfl, by rw [h.cell]; rfl, by rw [h.cell]; rfl, by rw [h.cell]; rfl⟩
section
variable {w0 W W' : World} {n m gw gf ge gd gx ct : Nat} {AT : Option Addr} {ls : List (List Lnk)} {f : List Int} {en : List Bool} {d nx : List Int}
theorem Wk.below (h : Wk w0 W n m gw gf ge gd gx ct AT ls f en d nx) (hb : Below W.heap.size W W') : Wk w0 W' n m gw gf ge gd gx ct AT ls f en d nx :=
 ⟨h.at0, h.bel.below hb, h.z, h.ne, h.bw.below hb h.bw.lt, h.bf.below hb h.bf.lt, h.be.below hb h.be.lt, h.bd.below hb h.bd.lt, h.bx.below hb h.bx.lt, h.lf, h.le, h.ld, h.lx⟩
theorem Wk.setX {v : Nat} {y : Int} (h : Wk w0 W n m gw gf ge gd gx ct AT ls f en d nx) : Wk w0 (W.setCell ⟨gx, v, none⟩ (.int .i64 y)) n m gw gf ge gd gx ct AT ls f en d (nx.set v y) :=
 ⟨h.at0, h.bel.setCell h.z.2.2.2.2 _, h.z, h.ne, h.bw.far_ h.ne.2.2.2.1 _, h.bf.far_ h.ne.2.2.2.2.2.2.1 _, h.be.far_ h.ne.2.2.2.2.2.2.2.2.1 _, h.bd.far_ h.ne.2.2.2.2.2.2.2.2.2 _, h.bx.setI rfl, h.lf, h.le, h.ld, by rw [List.length_set]; exact h.lx⟩
theorem Wk.setF {v : Nat} {y : Int} (h : Wk w0 W n m gw gf ge gd gx ct AT ls f en d nx) : Wk w0 (W.setCell ⟨gf, v, none⟩ (.int .i64 y)) n m gw gf ge gd gx ct AT ls (f.set v y) en d nx :=
 ⟨h.at0, h.bel.setCell h.z.2.1 _, h.z, h.ne, h.bw.far_ h.ne.1 _, h.bf.setI rfl, h.be.far_ (Ne.symm h.ne.2.2.2.2.1) _, h.bd.far_ (Ne.symm h.ne.2.2.2.2.2.1) _, h.bx.far_ (Ne.symm h.ne.2.2.2.2.2.2.1) _, by rw [List.length_set]; exact h.lf, h.le, h.ld, h.lx⟩
theorem Wk.drew (h : Wk w0 W n m gw gf ge gd gx ct AT ls f en d nx) : Wk w0 W.drew n m gw gf ge gd gx ct AT ls f en d nx := h.below (Below.refl _ _).drew
theorem Wk.grown {r : Nat} (h : Wk w0 W n m gw gf ge gd gx ct AT ls f en d nx) (hg : W.grownBy W' (some r)) (hr : Freew w0 r ∧ r ≠ gw ∧ r ≠ gf ∧ r ≠ ge ∧ r ≠ gd ∧ r ≠ gx) : Wk w0 W' n m gw gf ge gd gx ct AT ls f en d nx :=
 ⟨h.at0, h.bel.grown hg hr.1, h.z, h.ne, h.bw.grown hg (fun e => hr.2.1 (by injection e)), h.bf.grown hg (fun e => hr.2.2.1 (by injection e)), h.be.grown hg (fun e => hr.2.2.2.1 (by injection e)), h.bd.grown hg (fun e => hr.2.2.2.2.1 (by injection e)), h.bx.grown hg (fun e => hr.2.2.2.2.2 (by injection e)), h.lf, h.le, h.ld, h.lx⟩
end
def Adm (f d : List Int) (v : Nat) (k : Lnk) : Prop := rm f 1 k ∧ dAt d k.v = dAt d v + 1
def LkIn (n m : Nat) (ls : List (List Lnk)) : Prop := ∀ (a : Nat) (l : List Lnk), ls[a]? = some l → l.length ≤ 3000000 ∧ ∀ k ∈ l, k.u = a ∧ k.v < n ∧ k.e < m ∧ (k.y = 1 ∨ k.y = -1)
abbrev lnkV (k : Lnk) : Value := .agg #[.int .i64 k.e, .int .i64 k.u, .int .i64 k.v, .int .i64 k.y]
abbrev lnk0 : Value := .agg #[.int .i64 0, .int .i64 0, .int .i64 0, .int .i64 0]
theorem nx_at {d : List Int} {n v : Nat} (h : d.length = n) (hv : v < n) : ∃ z, d[v]? = some z ∧ dAt d v = z := by
 refine ⟨_, List.getElem?_eq_getElem (by omega), ?_⟩
 unfold dAt
 rw [List.getD_eq_getElem?_getD, List.getElem?_eq_getElem (by omega)]
 rfl
end Go.Proofs.YtpffhoefmcpniaaGreatDoor

namespace Go.Proofs.YtpffhoefmcpniaaGreatDoor
open Go.RowKit

attribute [local go_sem ↓] Go.wp_at_zero Go.wp_at_succ

set_option maxHeartbeats 8000000 in
theorem advance_any (w0 W0 : World) (n m gw gf ge gd gx ct v : Nat) (AT : Option Addr) (ls : List (List Lnk)) (f : List Int) (en : List Bool) (d nx : List Int) (l : List Lnk) (x : Nat) (h : Wk w0 W0 n m gw gf ge gd gx ct AT ls f en d nx) (hk : LkIn n m ls) (hv : v < n) (hl : ls[v]? = some l) (hx : nx[v]? = some (x : Int)) (hxl : x ≤ l.length) (hn : n ≤ 1000000) (_hm : m ≤ 1000000) (hd : ∀ a, -1 ≤ dAt d a ∧ dAt d a < n) :
 Calls Tryz.prog 143 #[.pointer (some ⟨gw, 0, none⟩), .int .i64 v] W0 fun e W' => ∃ k : Nat, x ≤ k ∧ k ≤ l.length ∧ Wk w0 W' n m gw gf ge gd gx ct AT ls f en d (nx.set v k) ∧ W0.grownBy W' (some gx) ∧ (∀ (j : Nat) (q : Lnk), x ≤ j → j < k → l[j]? = some q → ¬ Adm f d v q) ∧
  ((∃ q, l[k]? = some q ∧ Adm f d v q ∧ e = .returned (.tuple #[lnkV q, .bool true])) ∨ (k = l.length ∧ e = .returned (.tuple #[lnk0, .bool false]))) := by
 have HK := Lib.hid hk
 have HD := Lib.hid hd
 have HLV := Lib.hid hl
 have hll := (hk v l hl).1
 clear hk hd
 go_enter Tryz.func143, Tryz.ntmps143
 go_wp2_with fail
 (refine wp_named ?_; intro W1 hW1)
 have hb1 : Below W0.heap.size W0 W1 := by rw [hW1]; exact (Below.refl _ _).alloc (Nat.le_refl _) _
 have h1 := h.below hb1
 have hR1 : Blk W1 W0.heap.size 230 #[.int .i64 0, .int .i64 0, .int .i64 0, .int .i64 0] := by rw [hW1]; exact Blk.new _ _ _
 have hg1 : W0.grownBy W1 (some gx) := grownBy_below hb1 _
 clear hW1 hb1
 have hgx0 := h.bx.lt
 have hset : nx.set v (x : Int) = nx := by
  obtain ⟨hlt, e⟩ := List.getElem?_eq_some_iff.1 hx
  rw [← e]; exact List.set_getElem_self hlt
 have hlxn := h.lx
 have HLT : Freew w0 W0.heap.size ∧ W0.heap.size ≠ gw ∧ W0.heap.size ≠ gf ∧ W0.heap.size ≠ ge ∧ W0.heap.size ≠ gd ∧ W0.heap.size ≠ gx := ⟨h.bel.free (Nat.le_refl _), Nat.ne_of_gt h.bw.lt, Nat.ne_of_gt h.bf.lt, Nat.ne_of_gt h.be.lt, Nat.ne_of_gt h.bd.lt, Nat.ne_of_gt h.bx.lt⟩
 clear h
 go_loopw [] (fun W => W0.grownBy W (some gx) ∧ Blk W W0.heap.size 230 #[.int .i64 0, .int .i64 0, .int .i64 0, .int .i64 0] ∧ ∃ k : Nat, x ≤ k ∧ k ≤ l.length ∧ Wk w0 W n m gw gf ge gd gx ct AT ls f en d (nx.set v k) ∧ ∀ (j : Nat) (q : Lnk), x ≤ j → j < k → l[j]? = some q → ¬ Adm f d v q) (fun W => l.length - (intOf ((W.cell? ⟨gx, v, none⟩).getD (.int .i64 0))).toNat)
 case atStart => exact ⟨hg1, hR1, x, Nat.le_refl _, hxl, by rw [hset]; exact h1, fun j q h1 h2 => by omega⟩
 case round =>
  clear hg1 hR1 h1 hset hx
  obtain ⟨hg, hR, k, hxk, hkl, hw, hno⟩ := hrel
  have HNO := Lib.hid hno
  have HW := Lib.hid hw
  obtain ⟨y0, y1, y2, y3, y4⟩ := hw.bw.five
  have cx : wr.cell? ⟨gx, v, none⟩ = some (.int .i64 k) := hw.bx.cellI (by rw [List.getElem?_set_self (by omega)])
  have cxf := hw.bx.frozen v
  obtain ⟨b, o, A', c', l', rfl, hl', hcl, hrl, _, _⟩ := hw.at0.at_ hv
  rw [HLV.out] at hl'
  cases hl'
  have cl := hw.bel _ _ hcl
  have hrl2 := hrl.sub hw.bel
  obtain ⟨r0, r1, r2, r3⟩ := hR.four
  have f0 := hR.frozen 0
  have f1 := hR.frozen 1
  have f2 := hR.frozen 2
  have f3 := hR.frozen 3
  have i1 : (0 : Int) ≤ (v : Int) := by omega
  have i2 : (v : Int) < (n : Int) := by omega
  have HSX := Lib.hid (show ∀ V, Below wr.heap.size wr V → V.cell? ⟨gw, 4, none⟩ = some (.slice (some ⟨gx, 0, none⟩) n n) ∧ V.cell? ⟨gx, v, none⟩ = some (.int .i64 k) ∧ V.cell? ⟨gw, 0, none⟩ = some (.slice (some ⟨b, o, none⟩) n ct) ∧ V.cell? ⟨b, o + v, none⟩ = some (.slice A' l.length c') from
   fun V hb => ⟨Below.cellOf hb (Nat.le_refl _) y4, Below.cellOf hb (Nat.le_refl _) cx, Below.cellOf hb (Nat.le_refl _) y0, Below.cellOf hb (Nat.le_refl _) cl⟩)
  have hgr := hg.size
  have HCX := Lib.hid cx
  clear hno hw hcl hrl
  go_wp2_with fail
  refine wp_region_held_drew (S := fun V => Below wr.heap.size wr V) (by kernel_rfl) (Below.refl _ _).drew (fun _ => ?_)
  refine tk 0 7 (h := ⟨_, tv, ?_⟩)
  simp only [pE, List.set]
  refine tk 1 8 (h := ⟨_, tv, ?_⟩)
  simp only [pE, List.set]
  refine tk 2 9 (h := ⟨_, tv, ?_⟩)
  simp only [pE, List.set]
  refine tk 3 10 (h := ⟨_, tv, ?_⟩)
  simp only [pE, List.set]
  refine tk 4 11 (h := ⟨_, tv, ?_⟩)
  simp only [pE, List.set]
  refine tk 5 12 (h := ⟨_, tv, ?_⟩)
  simp only [pE, List.set]
  refine tk 6 13 (h := ⟨_, tv, ?_⟩)
  simp only [pE, List.set]
  refine tk 7 14 (h := ⟨_, tv, ?_⟩)
  simp only [pE, List.set]
  refine tk 8 15 (h := ⟨_, tv, ?_⟩)
  simp only [pE, List.set]
  refine tk 9 16 (h := ⟨_, tv, ?_⟩)
  simp only [pE, List.set]
  refine tk 10 17 (h := ⟨_, tv, ?_⟩)
  simp only [pE, List.set]
  refine tk 11 18 (h := ⟨_, tv, ?_⟩)
  simp only [pE, List.set]
  refine tk 12 19 (h := ⟨_, tv, ?_⟩)
  simp only [pE, List.set]
  refine tk 13 20 (h := ⟨_, tv, ?_⟩)
  simp only [pE, List.set]
  refine tk 14 21 (h := ⟨_, tv, ?_⟩)
  simp only [pE, List.set]
  refine tk 15 22 (h := ⟨_, tv, ?_⟩)
  simp only [pE, List.set]
  refine wpAnyH_done (by kernel_rfl) ?_ _
  by_cases hlt : k < l.length
  · obtain ⟨lb, lo, q, rfl, hq, c0, c1, c2, c3⟩ := hrl2.at_ hlt
    obtain ⟨hqu, hqv, hqe, hqy⟩ := (HK.out v l HLV.out).2 q (List.mem_of_getElem? hq)
    obtain ⟨fx, hfx, hfa⟩ : ∃ z, f[q.e]? = some z ∧ f.getD q.e 0 = z := ⟨f.getD q.e 0, by rw [List.getD_eq_getElem?_getD, List.getElem?_eq_getElem (by rw [HW.out.lf]; exact hqe)]; rfl, rfl⟩
    obtain ⟨zt, hzt, hdt⟩ := nx_at HW.out.ld hqv
    obtain ⟨zv, hzv, hdv⟩ := nx_at HW.out.ld hv
    have cf := HW.out.bf.cellI hfx
    have ct2 := HW.out.bd.cellI hzt
    have cv2 := HW.out.bd.cellI hzv
    have HQ := Lib.hid hq
    have HQU := Lib.hid hqu
    clear hqu
    have i3 : (0 : Int) ≤ (k : Int) := by omega
    have i4 : (k : Int) < (l.length : Int) := by omega
    have hzb := HD.out v
    rw [hdv] at hzb
    have HSY := Lib.hid (show ∀ V, Below wr.heap.size wr V → (V.cell? ⟨gw, 4, none⟩ = some (.slice (some ⟨gx, 0, none⟩) n n) ∧ V.cell? ⟨gx, v, none⟩ = some (.int .i64 k) ∧ V.cell? ⟨gw, 0, none⟩ = some (.slice (some ⟨b, o, none⟩) n ct) ∧ V.cell? ⟨b, o + v, none⟩ = some (.slice (some ⟨lb, lo, none⟩) l.length c')) ∧ (V.cell? ⟨lb, lo + k * 4, none⟩ = some (.int .i64 q.e) ∧ V.cell? ⟨lb, lo + k * 4 + 1, none⟩ = some (.int .i64 q.u) ∧ V.cell? ⟨lb, lo + k * 4 + 2, none⟩ = some (.int .i64 q.v) ∧ V.cell? ⟨lb, lo + k * 4 + 3, none⟩ = some (.int .i64 q.y)) from
     fun V hb => ⟨HSX.out V hb, Below.cellOf hb (Nat.le_refl _) c0, Below.cellOf hb (Nat.le_refl _) c1, Below.cellOf hb (Nat.le_refl _) c2, Below.cellOf hb (Nat.le_refl _) c3⟩)
    clear HSX
    have HSX := HSY
    clear HSY hq hfx hzt hzv
    go_wp2_with fail
    refine wp_region_held_drew (S := fun V => Below wr.heap.size wr V) (by kernel_rfl) (Below.refl _ _).drew.drew (fun _ => ?_)
    refine tk 0 32 (h := ⟨_, tv, ?_⟩)
    simp only [pE, List.set]
    refine tk 1 33 (h := ⟨_, tv, ?_⟩)
    simp only [pE, List.set]
    refine tk 2 34 (h := ⟨_, tv, ?_⟩)
    simp only [pE, List.set]
    refine tk 3 35 (h := ⟨_, tv, ?_⟩)
    simp only [pE, List.set]
    refine tk 4 36 (h := ⟨_, tv, ?_⟩)
    simp only [pE, List.set]
    refine tk 5 37 (h := ⟨_, tv, ?_⟩)
    simp only [pE, List.set]
    refine tk 6 38 (h := ⟨_, tv, ?_⟩)
    simp only [pE, List.set]
    refine tk 7 39 (h := ⟨_, tv, ?_⟩)
    simp only [pE, List.set]
    refine tk 8 40 (h := ⟨_, tv, ?_⟩)
    simp only [pE, List.set]
    refine tk 9 41 (h := ⟨_, tv, ?_⟩)
    simp only [pE, List.set]
    refine tk 10 42 (h := ⟨_, tv, ?_⟩)
    simp only [pE, List.set]
    refine tk 11 43 (h := ⟨_, tv, ?_⟩)
    simp only [pE, List.set]
    refine tk 12 44 (h := ⟨_, tv, ?_⟩)
    simp only [pE, List.set]
    refine tk 13 45 (h := ⟨_, tv, ?_⟩)
    simp only [pE, List.set]
    refine tk 14 46 (h := ⟨_, tv, ?_⟩)
    simp only [pE, List.set]
    refine tk 15 47 (h := ⟨_, tv, ?_⟩)
    simp only [pE, List.set]
    refine wpAnyH_ready (rs := [16]) (by kernel_rfl) (by simp) ?_
    refine AllReadyH.cons (o := _) rfl (fun K hK => ?_) AllReadyH.nil
    go_simp
    refine hK.out _ _ ((((Below.refl _ _).alloc (Nat.le_refl _) _)).drew.drew) (fun _ => ?_)
    clear hK K
    refine wpAnyH_ready (rs := [17]) (by kernel_rfl) (by simp) ?_
    refine AllReadyH.cons (o := _) rfl (fun K hK => ?_) AllReadyH.nil
    go_simp
    refine hK.out _ _ ((((Below.refl _ _).alloc (Nat.le_refl _) _)).drew.drew) (fun _ => ?_)
    clear hK K
    refine wpAnyH_done (by kernel_rfl) ?_ _
    obtain ⟨W2, hW2⟩ : ∃ W2, W2 = (wr.alloc (.cells #[.int .i64 q.e, .int .i64 q.u, .int .i64 q.v, .int .i64 q.y] 230)).drew.drew := ⟨_, rfl⟩
    rw [← hW2]
    have hr2 : Below wr.heap.size wr W2 := by rw [hW2]; exact ((Below.refl _ _).alloc (Nat.le_refl _) _).drew.drew
    have hbox : Blk W2 wr.heap.size 230 #[.int .i64 q.e, .int .i64 q.u, .int .i64 q.v, .int .i64 q.y] := by rw [hW2]; exact (Blk.new _ _ _).drew.drew
    clear hW2
    have HW2 := Lib.hid (HW.out.below hr2)
    have hR2 := hR.below hr2 hR.lt
    have hg2 := grownBy_trans hg (grownBy_below hr2 _)
    have b1 := Below.cellOf hr2 (Nat.le_refl _) y1
    have b3 := Below.cellOf hr2 (Nat.le_refl _) y3
    have bf := Below.cellOf hr2 (Nat.le_refl _) cf
    have bt := Below.cellOf hr2 (Nat.le_refl _) ct2
    have bv := Below.cellOf hr2 (Nat.le_refl _) cv2
    obtain ⟨q0, q1, q2, q3⟩ := hbox.four
    have HSX := Lib.hid (show ∀ V, Below W2.heap.size W2 V → V.cell? ⟨gw, 1, none⟩ = some (.slice (some ⟨gf, 0, none⟩) m m) ∧ V.cell? ⟨wr.heap.size, 0, none⟩ = some (.int .i64 q.e) ∧ V.cell? ⟨gf, q.e, none⟩ = some (.int .i64 fx) ∧ V.cell? ⟨wr.heap.size, 3, none⟩ = some (.int .i64 q.y) ∧ V.cell? ⟨gw, 3, none⟩ = some (.slice (some ⟨gd, 0, none⟩) n n) ∧ V.cell? ⟨wr.heap.size, 2, none⟩ = some (.int .i64 q.v) ∧ V.cell? ⟨gd, q.v, none⟩ = some (.int .i64 zt) ∧ V.cell? ⟨gd, v, none⟩ = some (.int .i64 zv) from
     fun V hb => ⟨Below.cellOf hb (Nat.le_refl _) b1, Below.cellOf hb (Nat.le_refl _) q0, Below.cellOf hb (Nat.le_refl _) bf, Below.cellOf hb (Nat.le_refl _) q3, Below.cellOf hb (Nat.le_refl _) b3, Below.cellOf hb (Nat.le_refl _) q2, Below.cellOf hb (Nat.le_refl _) bt, Below.cellOf hb (Nat.le_refl _) bv⟩)
    have i5 : (0 : Int) ≤ (q.e : Int) := by omega
    have i6 : (q.e : Int) < (m : Int) := by omega
    have i7 : (0 : Int) ≤ (q.v : Int) := by omega
    have i8 : (q.v : Int) < (n : Int) := by omega
    have e1 : IntKind.i64.wrap (zv + 1) = zv + 1 := IntWalk.i64_in _ (by omega)
    have hgxl := HW.out.bx.lt
    clear hR hg b1 b3 bf bt bv cf ct2 cv2 r0 r1 r2 r3 f0 f1 f2 f3 cx cxf cl y0 y1 y2 y3 y4 hrl2 c0 c1 c2 c3
    by_cases hrm : fx = q.y
    · have e2 : (fx == q.y) = true := by rw [hrm]; simp
      have e3 : (fx != q.y) = false := by rw [hrm]; simp
      have HNA := Lib.hid (show ¬ Adm f d v q from fun h => h.1 (by rw [hfa, hrm]; omega))
      clear hrm
      go_wp2_with fail
      refine wp_region_held_drew (S := fun V => Below W2.heap.size W2 V) (by kernel_rfl) (Below.refl _ _).drew (fun _ => ?_)
      refine tk 0 48 (h := ⟨_, tv, ?_⟩)
      simp only [pE, List.set]
      refine tk 1 49 (h := ⟨_, tv, ?_⟩)
      simp only [pE, List.set]
      refine tk 2 50 (h := ⟨_, tv, ?_⟩)
      simp only [pE, List.set]
      refine tk 3 51 (h := ⟨_, tv, ?_⟩)
      simp only [pE, List.set]
      refine tk 4 52 (h := ⟨_, tv, ?_⟩)
      simp only [pE, List.set]
      refine tk 5 53 (h := ⟨_, tv, ?_⟩)
      simp only [pE, List.set]
      refine tk 6 54 (h := ⟨_, tv, ?_⟩)
      simp only [pE, List.set]
      refine tk 7 55 (h := ⟨_, tv, ?_⟩)
      simp only [pE, List.set]
      refine tk 8 56 (h := ⟨_, tv, ?_⟩)
      simp only [pE, List.set]
      refine tk 9 57 (h := ⟨_, tv, ?_⟩)
      simp only [pE, List.set]
      refine tk 10 58 (h := ⟨_, tv, ?_⟩)
      simp only [pE, List.set]
      refine tk 11 59 (h := ⟨_, tv, ?_⟩)
      simp only [pE, List.set]
      refine tu 12 60 (h := ?_)
      simp only [pE, List.set]
      refine tu 13 61 (h := ?_)
      simp only [pE, List.set]
      refine tu 14 62 (h := ?_)
      simp only [pE, List.set]
      refine tu 15 63 (h := ?_)
      simp only [pE, List.set]
      refine tu 16 64 (h := ?_)
      simp only [pE, List.set]
      refine tu 17 65 (h := ?_)
      simp only [pE, List.set]
      refine tu 18 66 (h := ?_)
      simp only [pE, List.set]
      refine tu 19 67 (h := ?_)
      simp only [pE, List.set]
      refine tu 20 68 (h := ?_)
      simp only [pE, List.set]
      refine tu 21 69 (h := ?_)
      simp only [pE, List.set]
      refine tu 22 70 (h := ?_)
      simp only [pE, List.set]
      refine tu 23 71 (h := ?_)
      simp only [pE, List.set]
      refine tu 24 72 (h := ?_)
      simp only [pE, List.set]
      refine tu 25 73 (h := ?_)
      simp only [pE, List.set]
      refine tu 26 74 (h := ?_)
      simp only [pE, List.set]
      refine tu 27 75 (h := ?_)
      simp only [pE, List.set]
      refine tu 28 76 (h := ?_)
      simp only [pE, List.set]
      refine tk 29 77 (h := ⟨_, tv, ?_⟩)
      simp only [pE, List.set]
      refine wpAnyH_done (by kernel_rfl) ?_ _
      have y4 := HW2.out.bw.five.2.2.2.2
      have cx : W2.cell? ⟨gx, v, none⟩ = some (.int .i64 k) := HW2.out.bx.cellI (by rw [List.getElem?_set_self (by omega)])
      have cxf := HW2.out.bx.frozen v
      have e5 : IntKind.i64.wrap ((k : Int) + 1) = (k : Int) + 1 := IntWalk.i64_in _ (by omega)
      have HWN := Lib.hid (HW2.out.setX (v := v) (y := ((k + 1 : Nat) : Int))).drew
      have HR3 := Lib.hid (hR2.far_ (b := gx) (o := v) (show W0.heap.size ≠ gx by omega) (.int .i64 ((k + 1 : Nat) : Int))).drew
      have hgn : W0.grownBy ((W2.setCell ⟨gx, v, none⟩ (.int .i64 ((k + 1 : Nat) : Int))).drew) (some gx) := grownBy_trans hg2 (grownBy_trans (grownBy_set W2 gx v (.int .i64 ((k + 1 : Nat) : Int))) (grownBy_below (Below.refl _ _).drew _))
      have cn : ((W2.setCell ⟨gx, v, none⟩ (.int .i64 ((k : Int) + 1))).drew).cell? ⟨gx, v, none⟩ = some (.int .i64 ((k : Int) + 1)) := HWN.out.bx.cellI (by rw [List.getElem?_set_self (by rw [List.length_set]; omega)]; rfl)
      clear HSX hbox q0 q1 q2 q3
      go_wp2_with fail
      refine ⟨⟨hgn, HR3.out, k + 1, by omega, by omega, ?_, fun j q' g1 g2 g3 => ?_⟩, ?_⟩
      · have := HWN.out
        rw [List.set_set] at this
        exact this
      · rcases Nat.lt_or_ge j k with g4 | g4
        · exact HNO.out j q' g1 g4 g3
        · obtain rfl : j = k := by omega
          rw [HQ.out] at g3
          cases g3
          exact HNA.out
      · rw [cn, HCX.out]
        simp [intOf]
        omega
    · have e2 : (fx == q.y) = false := by simp only [beq_eq_false_iff_ne]; exact hrm
      have e3 : (fx != q.y) = true := by simp only [bne_iff_ne]; exact hrm
      have HRM := Lib.hid (show rm f 1 q from fun h => hrm (by rw [hfa] at h; omega))
      clear hrm
      by_cases heq : zt = zv + 1
      · have e4 : (zt == zv + 1) = true := by rw [heq]; simp
        have HAD := Lib.hid (show Adm f d v q from ⟨HRM.out, by rw [hdt, hdv]; exact heq⟩)
        clear heq
        go_wp2_with fail
        refine wp_region_held_drew (S := fun V => Below W2.heap.size W2 V) (by kernel_rfl) (Below.refl _ _).drew (fun _ => ?_)
        refine tk 0 48 (h := ⟨_, tv, ?_⟩)
        simp only [pE, List.set]
        refine tk 1 49 (h := ⟨_, tv, ?_⟩)
        simp only [pE, List.set]
        refine tk 2 50 (h := ⟨_, tv, ?_⟩)
        simp only [pE, List.set]
        refine tk 3 51 (h := ⟨_, tv, ?_⟩)
        simp only [pE, List.set]
        refine tk 4 52 (h := ⟨_, tv, ?_⟩)
        simp only [pE, List.set]
        refine tk 5 53 (h := ⟨_, tv, ?_⟩)
        simp only [pE, List.set]
        refine tk 6 54 (h := ⟨_, tv, ?_⟩)
        simp only [pE, List.set]
        refine tk 7 55 (h := ⟨_, tv, ?_⟩)
        simp only [pE, List.set]
        refine tk 8 56 (h := ⟨_, tv, ?_⟩)
        simp only [pE, List.set]
        refine tk 9 57 (h := ⟨_, tv, ?_⟩)
        simp only [pE, List.set]
        refine tk 10 58 (h := ⟨_, tv, ?_⟩)
        simp only [pE, List.set]
        refine tk 11 59 (h := ⟨_, tv, ?_⟩)
        simp only [pE, List.set]
        refine tk 12 60 (h := ⟨_, tv, ?_⟩)
        simp only [pE, List.set]
        refine tk 13 61 (h := ⟨_, tv, ?_⟩)
        simp only [pE, List.set]
        refine tk 14 62 (h := ⟨_, tv, ?_⟩)
        simp only [pE, List.set]
        refine tk 15 63 (h := ⟨_, tv, ?_⟩)
        simp only [pE, List.set]
        refine tk 16 64 (h := ⟨_, tv, ?_⟩)
        simp only [pE, List.set]
        refine tk 17 65 (h := ⟨_, tv, ?_⟩)
        simp only [pE, List.set]
        refine tk 18 66 (h := ⟨_, tv, ?_⟩)
        simp only [pE, List.set]
        refine tk 19 67 (h := ⟨_, tv, ?_⟩)
        simp only [pE, List.set]
        refine tk 20 68 (h := ⟨_, tv, ?_⟩)
        simp only [pE, List.set]
        refine tk 21 69 (h := ⟨_, tv, ?_⟩)
        simp only [pE, List.set]
        refine tk 22 70 (h := ⟨_, tv, ?_⟩)
        simp only [pE, List.set]
        refine tk 23 71 (h := ⟨_, tv, ?_⟩)
        simp only [pE, List.set]
        refine tk 24 72 (h := ⟨_, tv, ?_⟩)
        simp only [pE, List.set]
        refine tk 25 73 (h := ⟨_, tv, ?_⟩)
        simp only [pE, List.set]
        refine tk 26 74 (h := ⟨_, tv, ?_⟩)
        simp only [pE, List.set]
        refine tk 27 75 (h := ⟨_, tv, ?_⟩)
        simp only [pE, List.set]
        refine tk 28 76 (h := ⟨_, tv, ?_⟩)
        simp only [pE, List.set]
        refine tk 29 77 (h := ⟨_, tv, ?_⟩)
        simp only [pE, List.set]
        refine wpAnyH_done (by kernel_rfl) ?_ _
        obtain ⟨r0, r1, r2, r3⟩ := hR2.four
        have f0 := hR2.frozen 0
        have f1 := hR2.frozen 1
        have f2 := hR2.frozen 2
        have f3 := hR2.frozen 3
        have hgo := hR2.lt
        go_wp2_with fail
        refine bodyPost_ret (v := .tuple #[lnkV q, .bool true]) (by simp [results, Tryz.results143, go_sem, r0, r1, r2, r3]) rfl ?_
        exact ⟨k, hxk, hkl, ((((HW2.out.grown (grownBy_set _ _ _ _) HLT).grown (grownBy_set _ _ _ _) HLT).grown (grownBy_set _ _ _ _) HLT).grown (grownBy_set _ _ _ _) HLT).drew,
         grownBy_trans (grownBy_new (grownBy_new (grownBy_new (grownBy_new hg2 (Nat.le_refl _)) (Nat.le_refl _)) (Nat.le_refl _)) (Nat.le_refl _)) (grownBy_below (Below.refl _ _).drew _), HNO.out, .inl ⟨q, HQ.out, HAD.out, rfl⟩⟩
      · have e4 : (zt == zv + 1) = false := by simp only [beq_eq_false_iff_ne]; exact heq
        have HNA := Lib.hid (show ¬ Adm f d v q from fun h => heq (by have := h.2; rw [hdt, hdv] at this; exact this))
        clear heq
        go_wp2_with fail
        refine wp_region_held_drew (S := fun V => Below W2.heap.size W2 V) (by kernel_rfl) (Below.refl _ _).drew (fun _ => ?_)
        refine tk 0 48 (h := ⟨_, tv, ?_⟩)
        simp only [pE, List.set]
        refine tk 1 49 (h := ⟨_, tv, ?_⟩)
        simp only [pE, List.set]
        refine tk 2 50 (h := ⟨_, tv, ?_⟩)
        simp only [pE, List.set]
        refine tk 3 51 (h := ⟨_, tv, ?_⟩)
        simp only [pE, List.set]
        refine tk 4 52 (h := ⟨_, tv, ?_⟩)
        simp only [pE, List.set]
        refine tk 5 53 (h := ⟨_, tv, ?_⟩)
        simp only [pE, List.set]
        refine tk 6 54 (h := ⟨_, tv, ?_⟩)
        simp only [pE, List.set]
        refine tk 7 55 (h := ⟨_, tv, ?_⟩)
        simp only [pE, List.set]
        refine tk 8 56 (h := ⟨_, tv, ?_⟩)
        simp only [pE, List.set]
        refine tk 9 57 (h := ⟨_, tv, ?_⟩)
        simp only [pE, List.set]
        refine tk 10 58 (h := ⟨_, tv, ?_⟩)
        simp only [pE, List.set]
        refine tk 11 59 (h := ⟨_, tv, ?_⟩)
        simp only [pE, List.set]
        refine tk 12 60 (h := ⟨_, tv, ?_⟩)
        simp only [pE, List.set]
        refine tk 13 61 (h := ⟨_, tv, ?_⟩)
        simp only [pE, List.set]
        refine tk 14 62 (h := ⟨_, tv, ?_⟩)
        simp only [pE, List.set]
        refine tk 15 63 (h := ⟨_, tv, ?_⟩)
        simp only [pE, List.set]
        refine tk 16 64 (h := ⟨_, tv, ?_⟩)
        simp only [pE, List.set]
        refine tk 17 65 (h := ⟨_, tv, ?_⟩)
        simp only [pE, List.set]
        refine tk 18 66 (h := ⟨_, tv, ?_⟩)
        simp only [pE, List.set]
        refine tk 19 67 (h := ⟨_, tv, ?_⟩)
        simp only [pE, List.set]
        refine tk 20 68 (h := ⟨_, tv, ?_⟩)
        simp only [pE, List.set]
        refine tk 21 69 (h := ⟨_, tv, ?_⟩)
        simp only [pE, List.set]
        refine tk 22 70 (h := ⟨_, tv, ?_⟩)
        simp only [pE, List.set]
        refine tk 23 71 (h := ⟨_, tv, ?_⟩)
        simp only [pE, List.set]
        refine tk 24 72 (h := ⟨_, tv, ?_⟩)
        simp only [pE, List.set]
        refine tk 25 73 (h := ⟨_, tv, ?_⟩)
        simp only [pE, List.set]
        refine tk 26 74 (h := ⟨_, tv, ?_⟩)
        simp only [pE, List.set]
        refine tk 27 75 (h := ⟨_, tv, ?_⟩)
        simp only [pE, List.set]
        refine tk 28 76 (h := ⟨_, tv, ?_⟩)
        simp only [pE, List.set]
        refine tk 29 77 (h := ⟨_, tv, ?_⟩)
        simp only [pE, List.set]
        refine wpAnyH_done (by kernel_rfl) ?_ _
        have y4 := HW2.out.bw.five.2.2.2.2
        have cx : W2.cell? ⟨gx, v, none⟩ = some (.int .i64 k) := HW2.out.bx.cellI (by rw [List.getElem?_set_self (by omega)])
        have cxf := HW2.out.bx.frozen v
        have e5 : IntKind.i64.wrap ((k : Int) + 1) = (k : Int) + 1 := IntWalk.i64_in _ (by omega)
        have HWN := Lib.hid (HW2.out.setX (v := v) (y := ((k + 1 : Nat) : Int))).drew
        have HR3 := Lib.hid (hR2.far_ (b := gx) (o := v) (show W0.heap.size ≠ gx by omega) (.int .i64 ((k + 1 : Nat) : Int))).drew
        have hgn : W0.grownBy ((W2.setCell ⟨gx, v, none⟩ (.int .i64 ((k + 1 : Nat) : Int))).drew) (some gx) := grownBy_trans hg2 (grownBy_trans (grownBy_set W2 gx v (.int .i64 ((k + 1 : Nat) : Int))) (grownBy_below (Below.refl _ _).drew _))
        have cn : ((W2.setCell ⟨gx, v, none⟩ (.int .i64 ((k : Int) + 1))).drew).cell? ⟨gx, v, none⟩ = some (.int .i64 ((k : Int) + 1)) := HWN.out.bx.cellI (by rw [List.getElem?_set_self (by rw [List.length_set]; omega)]; rfl)
        clear HSX hbox q0 q1 q2 q3
        go_wp2_with fail
        refine ⟨⟨hgn, HR3.out, k + 1, by omega, by omega, ?_, fun j q' g1 g2 g3 => ?_⟩, ?_⟩
        · have := HWN.out
          rw [List.set_set] at this
          exact this
        · rcases Nat.lt_or_ge j k with g4 | g4
          · exact HNO.out j q' g1 g4 g3
          · obtain rfl : j = k := by omega
            rw [HQ.out] at g3
            cases g3
            exact HNA.out
        · rw [cn, HCX.out]
          simp [intOf]
          omega
  · obtain rfl : k = l.length := by omega
    go_wp2_with fail
    refine bodyPost_ret (v := .tuple #[lnk0, .bool false]) (by simp [results, Tryz.results143, go_sem, r0, r1, r2, r3]) rfl ?_
    exact ⟨l.length, hxk, Nat.le_refl _, ((((HW.out.grown (grownBy_set _ _ _ _) HLT).grown (grownBy_set _ _ _ _) HLT).grown (grownBy_set _ _ _ _) HLT).grown (grownBy_set _ _ _ _) HLT).drew,
     grownBy_trans (grownBy_new (grownBy_new (grownBy_new (grownBy_new hg (Nat.le_refl _)) (Nat.le_refl _)) (Nat.le_refl _)) (Nat.le_refl _)) (grownBy_below (Below.refl _ _).drew _), HNO.out, .inr ⟨rfl, rfl⟩⟩
end Go.Proofs.YtpffhoefmcpniaaGreatDoor
