/- Parts of the proof: G4, Ne2, Ne3. -/
import Derived.Test.YtpffhoefmcpniaaGreatDoorB1
import Derived.Test.YtpffhoefmcpniaaGreatDoorB17
import Derived.Test.YtpffhoefmcpniaaGreatDoorB21
import Derived.Test.YtpffhoefmcpniaaGreatDoorB26
import Derived.Test.YtpffhoefmcpniaaGreatDoorB29
import Derived.Defers
namespace Go.Proofs.YtpffhoefmcpniaaGreatDoor
open Go.RowKit

attribute [local go_sem ↓] Go.wp_at_zero Go.wp_at_succ

theorem GrO.mono {W : World} {F F' : Nat → Prop} {g : Nat} {N : NetD} (h : GrO W F g N) (hs : ∀ b, F b → F' b) (hl : ∀ b, F' b → b < W.heap.size) : GrO W F' g N := by
 obtain ⟨G, A, B, C, I, O, P, n, m, k, c, d, e, ci, co, cp, h⟩ := h
 exact ⟨G, A, B, C, I, O, P, n, m, k, c, d, e, ci, co, cp, h.net, h.blk, h.gg, h.ins, h.outs, h.plc, fun b hb => hs b (h.sub b hb), hl, h.ok, h.c0, h.c1, h.c2⟩
theorem NetOk.costs {N : NetD} (h : NetOk N) : ∀ t ∈ N.ts, t.costs.length ≤ 1000000 := fun t ht => by
 have hT := h.tabs t ht
 have hm := mul_bd hT.i0 hT.i16 hT.o0 hT.o16
 have := hT.len
 omega
set_option maxHeartbeats 1000000 in
theorem graphNew_ok (A B C : Option Addr) (n m k c d e : Nat) (N : NetD) (w : World) (h : RdNet w A B C n m k N) (hN : NetOk N) :
 Calls Tryz.prog 30 #[.agg #[.slice A n c, .slice B m d, .slice C k e]] w fun r w' => ∃ g, r = .returned (.tuple #[.pointer (some ⟨g, 0, none⟩), .nilIface]) ∧ GrO w' (fun b => w.heap.size ≤ b ∧ b < w'.heap.size) g N ∧ Below w.heap.size w w' := by
 have HH := Lib.hid h
 have HN := Lib.hid hN
 have hn : n ≤ 4096 := by rw [← h.1.1]; exact hN.lv
 have hm : m ≤ 16384 := by rw [← h.2.1.1]; exact hN.la
 have hk : k ≤ 256 := by rw [← h.2.2.1]; exact hN.lt
 clear h hN
 go_enter Tryz.func30, Tryz.ntmps30
 go_wp2_with fail
 (refine calls_named ?_; intro w1 hw1)
 have hb1 : Below w.heap.size w w1 := by rw [hw1]; exact bELt
 have hJ : Blk w1 w.heap.size 81 #[.slice A n c, .slice B m d, .slice C k e] := by rw [hw1]; exact bLNt
 clear hw1
 with_reducible refine (netCheck_ok A B C n m k c d e N w1 (HH.out.below hb1) HN.out).mono ?_
 rintro r w2 ⟨rfl, hb2⟩
 have hbw2 := Bel.step hb1 hb2
 obtain ⟨j0, j1, j2⟩ := (hJ.below hb2 hJ.lt).three
 clear hJ hb2
 go_wp2_with fail
 with_reducible refine (graphClone_any A B C n m k c d e N w2 (HH.out.below hbw2) (by omega) (by omega) (by omega) HN.out.costs).mono ?_
 rintro r w3 ⟨A', B', C', c', d', e', rfl, hR, hbc, q1, q2, q3, q4, q5, q6, hb3⟩
 have hbw3 := Bel.step hbw2 hb3
 have HC := Lib.hid (build_any _ A' B' C' n m k c' d' e' N w3 hR (fun b hb => hb.2.1) HN.out ⟨q1, q2⟩ ⟨q3, q4⟩ ⟨q5, q6⟩)
 have HBC := Lib.hid hbc
 have HWA := Lib.hid hR.wa
 have HWT := Lib.hid hR.wt
 clear hR hbc q1 q2 q3 q4 q5 q6 j0 j1 j2
 go_wp2_with fail
 with_reducible refine HC.out.mono ?_
 rintro r w4 ⟨g, rfl, hG, hb4⟩
 have HG := Lib.hid hG
 clear hG HC
 go_wp2_with fail
 go_ret2
 have h1 := hbw2.size
 have h3 := hb3.size
 have h4 := hb4.size
 refine ⟨g, rfl, HG.out.mono (fun b hb => ?_) (fun b hb => hb.2), Bel.step hbw3 hb4⟩
 rcases hb with hb | hb | hb | hb
 · exact ⟨by omega, by omega⟩
 · have z1 := HBC.out b (.inl hb); have z2 := (HWA.out b hb).1; exact ⟨by omega, by omega⟩
 · have z1 := HBC.out b (.inr hb); have z2 := (HWT.out b hb).1; exact ⟨by omega, by omega⟩
 · exact ⟨by omega, by omega⟩
set_option maxHeartbeats 1000000 in
theorem made8_ok (A B C : Option Addr) (n m k c d e : Nat) (N : NetD) (w : World) (h : RdNet w A B C n m k N) (hN : NetOk N) :
 Calls Tryz.prog 10 #[.agg #[.slice A n c, .slice B m d, .slice C k e]] w fun r w' => ∃ g, r = .returned (.pointer (some ⟨g, 0, none⟩)) ∧ GrO w' (fun b => w.heap.size ≤ b ∧ b < w'.heap.size) g N ∧ Below w.heap.size w w' := by
 have HH := Lib.hid h
 have HN := Lib.hid hN
 have hn : n ≤ 4096 := by rw [← h.1.1]; exact hN.lv
 have hm : m ≤ 16384 := by rw [← h.2.1.1]; exact hN.la
 have hk : k ≤ 256 := by rw [← h.2.2.1]; exact hN.lt
 clear h hN
 go_enter Tryz.func10, Tryz.ntmps10
 go_wp2_with fail
 (refine calls_named ?_; intro w1 hw1)
 have hb1 : Below w.heap.size w w1 := by rw [hw1]; exact bELt
 clear hw1
 with_reducible refine (netTo_any A B C n m k c d e N w1 (HH.out.below hb1) (by omega) (by omega) (by omega) HN.out.costs).mono ?_
 rintro r w2 ⟨A', B', C', c', d', e', rfl, hR, hb2⟩
 have hbw2 := Bel.step hb1 hb2
 have HC := Lib.hid (graphNew_ok A' B' C' n m k c' d' e' N w2 hR HN.out)
 clear hR
 go_wp2_with fail
 with_reducible refine HC.out.mono ?_
 rintro r w3 ⟨g, rfl, hG, hb3⟩
 have HG := Lib.hid hG
 clear hG HC
 go_wp2_with fail
 go_ret
 have h1 := hbw2.size
 exact ⟨g, rfl, HG.out.mono (fun b hb => ⟨by omega, hb.2⟩) (fun b hb => hb.2), Bel.step hbw2 hb3⟩
end Go.Proofs.YtpffhoefmcpniaaGreatDoor

namespace Go.Proofs.YtpffhoefmcpniaaGreatDoor
open Go.RowKit

attribute [local go_sem ↓] Go.wp_at_zero Go.wp_at_succ

theorem set3_keep (W : World) (g : Nat) (x y z : Value) (k : Nat) (h : k ≠ g) : (((W.setCell ⟨g, 0, none⟩ x).setCell ⟨g, 1, none⟩ y).setCell ⟨g, 2, none⟩ z).heap[k]? = W.heap[k]? := by
 rw [Below.heap_setCell _ _ _ k h, Below.heap_setCell _ _ _ k h, Below.heap_setCell _ _ _ k h]
set_option maxHeartbeats 1000000 in
theorem gNet_any (g : Nat) (N : NetD) (w : World) (h : RdGr w g N) :
 Calls Tryz.prog 55 #[.pointer (some ⟨g, 0, none⟩)] w fun r w' => ∃ A B C c d e, r = .returned (.agg #[.slice A N.vs.length c, .slice B N.ar.length d, .slice C N.ts.length e]) ∧ RdNet w' A B C N.vs.length N.ar.length N.ts.length N ∧ (∀ b, 0 < N.vs.length → blkOf A = some b → w.heap.size < b) ∧ Below w.heap.size w w' := by
 obtain ⟨A, B, C, I, O, P, n, m, k, c, d, e, ci, co, cp, h⟩ := h
 have h0 := h.n0
 have h1 := h.n1
 have h2 := h.n2
 have hok := h.ok
 obtain rfl : N.vs.length = n := h.net.1.1
 obtain rfl : N.ar.length = m := h.net.2.1.1
 obtain rfl : N.ts.length = k := h.net.2.2.1
 have HN := Lib.hid h.net
 have HOK := Lib.hid hok
 have hv := hok.lv
 have ha := hok.la
 have ht := hok.lt
 have hgl := lt_of_cell h0
 simp only at hgl
 clear h hok
 go_enter Tryz.func55, Tryz.ntmps55
 go_wp2_with fail
 (refine calls_named ?_; intro w1 hw1)
 have hb1 : Below w.heap.size w w1 := by rw [hw1]; exact bELt
 have hJ : Blk w1 w.heap.size 81 #[.slice none 0 0, .slice none 0 0, .slice none 0 0] := by rw [hw1]; exact bLNt
 clear hw1
 with_reducible refine (graphClone_any A B C _ _ _ c d e N w1 (HN.out.below hb1) (by omega) (by omega) (by omega) HOK.out.costs).mono ?_
 rintro r w2 ⟨A', B', C', c', d', e', rfl, hR, hbc, q1, q2, q3, q4, q5, q6, hb2⟩
 have hJ2 := hJ.below hb2 hJ.lt
 obtain ⟨j0, j1, j2⟩ := hJ2.three
 have f0 := hJ2.frozen 0
 have f1 := hJ2.frozen 1
 have f2 := hJ2.frozen 2
 have hbw2 := Bel.step hb1 hb2
 have hz := hJ.lt
 have HR := Lib.hid (show RdNet (((w2.setCell ⟨w.heap.size, 0, none⟩ (.slice A' N.vs.length c')).setCell ⟨w.heap.size, 1, none⟩ (.slice B' N.ar.length d')).setCell ⟨w.heap.size, 2, none⟩ (.slice C' N.ts.length e')) A' B' C' N.vs.length N.ar.length N.ts.length N from
  (hR.keep (by simp [World.setCell]) (fun b hb _ => set3_keep _ _ _ _ _ b (by have := hb.1; omega)) (fun b hb => set3_keep _ _ _ _ _ b (by have := hbc b (.inl hb); omega)) (fun b hb => set3_keep _ _ _ _ _ b (by have := hbc b (.inr hb); omega))).rd)
 have HBE := Lib.hid (show Below w.heap.size w (((w2.setCell ⟨w.heap.size, 0, none⟩ (.slice A' N.vs.length c')).setCell ⟨w.heap.size, 1, none⟩ (.slice B' N.ar.length d')).setCell ⟨w.heap.size, 2, none⟩ (.slice C' N.ts.length e')) from ((hbw2.setCell (Nat.le_refl _) _).setCell (Nat.le_refl _) _).setCell (Nat.le_refl _) _)
 have HLT := Lib.hid (show ∀ b, 0 < N.vs.length → blkOf A' = some b → w.heap.size < b from fun b hn hb => by
  obtain ⟨b', o, x, y, z, e1, _, hc, _⟩ := hR.vs.at_ hn
  rw [e1] at hb
  have hb : some b' = some b := hb
  injection hb with hb
  have := (msk_cell.1 hc).1.1
  simp only at this
  omega)
 clear hR hbc q1 q2 q3 q4 q5 q6 hJ hJ2 hb2 hbw2 h0 h1 h2
 go_wp2_with fail
 refine bodyPost_ret (v := .agg #[.slice A' N.vs.length c', .slice B' N.ar.length d', .slice C' N.ts.length e']) (by simp [results, Tryz.results55, go_sem, j0, j1, j2]) rfl ?_
 exact ⟨_, _, _, _, _, _, rfl, HR.out, HLT.out, HBE.out⟩

theorem infoPairN : (Tryz.prog.info? 127).map (fun i => (i.zero, i.size, i.bytes)) = some (some (.agg #[.int .i64 0, .int .i64 0]), 2, 16) := by kernel_rfl
def vP (N : NetD) (p : Nat) : List (Int × Int) := (N.vs.map (fun v => (v.1, v.2.1))).take p
def vE (N : NetD) (p : Nat) : List (Int × Int) := (N.ar.map (fun v => (v.1, v.2.1))).take p
theorem vP_next {N : NetD} {p : Nat} {x : Tri} (h : N.vs[p]? = some x) : pcells (vP N (p + 1)) = pcells (vP N p) ++ [.int .i64 x.1, .int .i64 x.2.1] := by
 obtain ⟨h1, e1⟩ := List.getElem?_eq_some_iff.1 h
 unfold vP
 rw [List.take_succ_eq_append_getElem (by simpa using h1), pcells_app, List.getElem_map, e1]
 rfl
theorem vE_next {N : NetD} {p : Nat} {x : Tri} (h : N.ar[p]? = some x) : pcells (vE N (p + 1)) = pcells (vE N p) ++ [.int .i64 x.1, .int .i64 x.2.1] := by
 obtain ⟨h1, e1⟩ := List.getElem?_eq_some_iff.1 h
 unfold vE
 rw [List.take_succ_eq_append_getElem (by simpa using h1), pcells_app, List.getElem_map, e1]
 rfl
theorem Own.setB {w : World} {B s n c g i : Nat} {e : TypeId} {A : Option Addr} {xs : List Value} (h : Own w B e s A n c xs) (hg : g < B) (v : Value) : Own (w.setCell ⟨g, i, none⟩ v) B e s A n c xs := ownsRow_setCell_below h hg v
theorem Own.plI {W : World} {B n c : Nat} {A : Option Addr} {L : List Int} (h : Own W B 3 1 A n c (icells L)) : ∃ cs, PlI W A cs L := by
 have hl : L.length = n := by have := h.1; simpa [icells] using this
 rcases h.2 with ⟨h', h0⟩ | ⟨g, cap, cur, h', _, h2, _, _, _, h6⟩
 · cases h'
   exact ⟨[], .inl ⟨rfl, List.eq_nil_of_length_eq_zero (by omega)⟩⟩
 · cases h'
   refine ⟨cur.toList.drop n, .inr ⟨g, rfl, ?_⟩⟩
   have : ovr L (cur.toList.drop n) = cur := by
    unfold ovr
    rw [← h6, Nat.mul_one, List.take_append_drop]
   rw [this]
   exact h2
theorem grown_farR {a b c : World} {r r' : Option Nat} (h : a.grownBy b r) (hg : b.grownBy c r') (hA : ∀ k, r' = some k → a.heap.size ≤ k) : a.grownBy c r :=
 ⟨hg.os.trans h.os, hg.tape.trans h.tape, hg.output.trans h.output, Nat.le_trans h.size hg.size, fun k hk hne => (hg.block k (Nat.lt_of_lt_of_le hk h.size) (fun e => by have := hA k e.symm; omega)).trans (h.block k hk hne)⟩
theorem grown_far {a b c : World} {r : Option Nat} {A : Option Addr} (h : a.grownBy b r) (hg : b.grownBy c (blkOf A)) (hA : ∀ k, blkOf A = some k → a.heap.size ≤ k) : a.grownBy c r := grown_farR h hg hA
theorem grown_below {a b c : World} {r : Option Nat} (h : a.grownBy b r) (hb : Below b.heap.size b c) : a.grownBy c r :=
 h.trans ⟨hb.os, hb.tape, hb.output, hb.size, fun k hk _ => hb.block k hk⟩
structure CuB (W : World) (B gc : Nat) (AP AE AL : Option Addr) (cp ce cl p m l : Nat) (N : NetD) : Prop where
 blk : Blk W gc 125 #[.slice AP p cp, .slice AE m ce, .slice AL l cl]
 gB : gc < B
 sz : B ≤ W.heap.size
 op : Own W B 127 2 AP p cp (pcells (vP N p))
 oe : Own W B 127 2 AE m ce (pcells (vE N m))
 ol : Own W B 3 1 AL l cl (icells (List.replicate l (-1)))
 d1 : Dj AP AE
 d2 : Dj AP AL
 d3 : Dj AE AL
section
variable {W W' w' : World} {B gc cp ce cl p m l c' : Nat} {AP AE AL A' : Option Addr} {N : NetD}
theorem CuB.below (h : CuB W B gc AP AE AL cp ce cl p m l N) (hb : Below W.heap.size W W') : CuB W' B gc AP AE AL cp ce cl p m l N :=
 ⟨h.blk.below hb h.blk.lt, h.gB, Nat.le_trans h.sz hb.size, h.op.below hb, h.oe.below hb, h.ol.below hb, h.d1, h.d2, h.d3⟩
theorem CuB.pushP (h : CuB W B gc AP AE AL cp ce cl p m l N) (ho : Own w' B 127 2 A' (p + 1) c' (pcells (vP N (p + 1)))) (hg : W.grownBy w' (blkOf AP)) (hat : blkOf A' = blkOf AP ∨ blkOf A' = some W.heap.size) :
 CuB (w'.setCell ⟨gc, 0, none⟩ (.slice A' (p + 1) c')) B gc A' AE AL c' ce cl (p + 1) m l N :=
 ⟨by
  have := (h.blk.grown hg (h.op.ne h.gB)).set_ 0 (.slice A' (p + 1) c')
  simpa using this, h.gB, by simp [World.setCell]; exact Nat.le_trans h.sz hg.size, ho.setB h.gB _, (h.oe.far hg h.d1.far).setB h.gB _, (h.ol.far hg h.d2.far).setB h.gB _, h.d1.next h.oe hat, h.d2.next h.ol hat, h.d3⟩
theorem CuB.pushE (h : CuB W B gc AP AE AL cp ce cl p m l N) (ho : Own w' B 127 2 A' (m + 1) c' (pcells (vE N (m + 1)))) (hg : W.grownBy w' (blkOf AE)) (hat : blkOf A' = blkOf AE ∨ blkOf A' = some W.heap.size) :
 CuB (w'.setCell ⟨gc, 1, none⟩ (.slice A' (m + 1) c')) B gc AP A' AL cp c' cl p (m + 1) l N :=
 ⟨by
  have := (h.blk.grown hg (h.oe.ne h.gB)).set_ 1 (.slice A' (m + 1) c')
  simpa using this, h.gB, by simp [World.setCell]; exact Nat.le_trans h.sz hg.size, (h.op.far hg h.d1.symm.far).setB h.gB _, ho.setB h.gB _, (h.ol.far hg h.d3.far).setB h.gB _, (h.d1.symm.next h.op hat).symm, h.d2, h.d3.next h.ol hat⟩
theorem CuB.pushL (h : CuB W B gc AP AE AL cp ce cl p m l N) (ho : Own w' B 3 1 A' (l + 1) c' (icells (List.replicate (l + 1) (-1)))) (hg : W.grownBy w' (blkOf AL)) (hat : blkOf A' = blkOf AL ∨ blkOf A' = some W.heap.size) :
 CuB (w'.setCell ⟨gc, 2, none⟩ (.slice A' (l + 1) c')) B gc AP AE A' cp ce c' p m (l + 1) N :=
 ⟨by
  have := (h.blk.grown hg (h.ol.ne h.gB)).set_ 2 (.slice A' (l + 1) c')
  simpa using this, h.gB, by simp [World.setCell]; exact Nat.le_trans h.sz hg.size, (h.op.far hg h.d2.symm.far).setB h.gB _, (h.oe.far hg h.d3.symm.far).setB h.gB _, ho.setB h.gB _, h.d1, (h.d2.symm.next h.op hat).symm, (h.d3.symm.next h.oe hat).symm⟩
theorem CuB.done (h : CuB W B gc AP AE AL cp ce cl N.vs.length N.ar.length N.vs.length N) : ∃ cs, CtV W gc AP AE AL cp ce cl cs N := by
 obtain ⟨cs, hp⟩ := h.ol.plI
 have h1 : vP N N.vs.length = N.vs.map (fun v => (v.1, v.2.1)) := by unfold vP; rw [List.take_of_length_le (by simp)]
 have h2 : vE N N.ar.length = N.ar.map (fun v => (v.1, v.2.1)) := by unfold vE; rw [List.take_of_length_le (by simp)]
 have h3 := h.op.rds.rdP
 have h4 := h.oe.rds.rdP
 rw [h1] at h3
 rw [h2] at h4
 refine ⟨cs, h.blk, h3, h4, hp, by simp [NoPl], fun g hg => ⟨fun e => ?_, fun e => ?_, fun e => ?_⟩, fun b hb => ?_, h.op.cap, h.oe.cap, h.ol.cap⟩
 · have := (h.ol.lt g hg).1
   have := h.gB
   omega
 · rcases h.d2 with d | d | d
   · rw [d] at e; cases e
   · rw [d] at hg; cases hg
   · exact d (e.trans hg.symm)
 · rcases h.d3 with d | d | d
   · rw [d] at e; cases e
   · rw [d] at hg; cases hg
   · exact d (e.trans hg.symm)
 · rcases hb with hb | hb | hb
   · exact (h.op.lt b hb).2
   · exact (h.oe.lt b hb).2
   · exact (h.ol.lt b hb).2
end
theorem two_intsN (x y : Int) : ∀ u ∈ [Value.int .i64 x, .int .i64 y], u.oneCell' = true := by
 intro u hu
 simp at hu
 rcases hu with rfl | rfl <;> rfl
set_option maxHeartbeats 4000000 in
set_option maxRecDepth 20000 in
theorem newCutter_ok (g : Nat) (N : NetD) (w : World) (h : RdGr w g N) :
 Calls Tryz.prog 33 #[.pointer (some ⟨g, 0, none⟩)] w fun e w' => ∃ gc AP AE AL cp ce cl cs, e = .returned (.pointer (some ⟨gc, 0, none⟩)) ∧ w.heap.size ≤ gc ∧ (∀ b, blkOf AP = some b ∨ blkOf AE = some b ∨ blkOf AL = some b → w.heap.size ≤ b) ∧ CtV w' gc AP AE AL cp ce cl cs N ∧ Below w.heap.size w w' := by
 have HG := Lib.hid h
 have hok : NetOk N := by obtain ⟨A, B, C, I, O, P, n, m, k, c, d, e, ci, co, cp, h⟩ := h; exact h.ok
 have hv := hok.lv
 have ha := hok.la
 clear h hok
 go_enter Tryz.func33, Tryz.ntmps33
 go_wp2_with fail
 (refine calls_named ?_; intro w1 hw1)
 have hb1 : Below w.heap.size w w1 := by rw [hw1]; exact bELt
 have hJ : Blk w1 w.heap.size 125 #[.slice none 0 0, .slice none 0 0, .slice none 0 0] := by rw [hw1]; exact bLNt
 clear hw1
 with_reducible refine (gNet_any g N w1 (HG.out.below hb1)).mono ?_
 rintro r w2 ⟨VA, VB, VC, c, d, e, rfl, hN, hva, hb2⟩
 have hJ2 := hJ.below hb2 hJ.lt
 have HV := Lib.hid hN.1
 have HVA := Lib.hid hva
 obtain ⟨gc, hgc⟩ : ∃ gc, gc = w.heap.size := ⟨_, rfl⟩
 rw [← hgc] at hJ hJ2 ⊢
 have HC0 := Lib.hid (show CuB w2 w2.heap.size gc none none none 0 0 0 0 0 0 N from ⟨hJ2, hJ2.lt, Nat.le_refl _, by simpa [vP, pcells] using Own.nil _ _ _ _, by simpa [vE, pcells] using Own.nil _ _ _ _, by simpa [icells] using Own.nil _ _ _ _, .inl rfl, .inl rfl, .inl rfl⟩)
 have hbw2 := Bel.step hb1 hb2
 have HGC := Lib.hid (show w.heap.size ≤ gc by omega)
 have HW1 := Lib.hid (show gc < w1.heap.size from hJ.lt)
 clear hN hJ hJ2 hb2 hva hgc
 have hfd : ∀ V, (Instr.field 81 (.agg #[.slice VA N.vs.length c, .slice VB N.ar.length d, .slice VC N.ts.length e]) 0).run Tryz.prog V = .ok (.slice VA N.vs.length c) V := fun V => by kernel_rfl
 go_wp2_with fail
 go_loopw [13] (fun q W => w2.grownBy W (some gc) ∧ ∃ (i : Nat) (AP AL : Option Addr) (cp cl : Nat), i ≤ N.vs.length ∧ q = .int .i64 (i : Int) ∧ CuB W w2.heap.size gc AP none AL cp 0 cl i 0 i N) (fun q _ => N.vs.length - (intOf q).toNat)
 case atStart => exact ⟨World.grownBy.refl _ _, 0, none, none, 0, 0, Nat.zero_le _, rfl, HC0.out⟩
 case round =>
  obtain ⟨hg, i, AP, AL, cp, cl, hi, rfl, hC⟩ := hrel
  have HC := Lib.hid hC
  have HGR := Lib.hid hg
  clear hC hg
  by_cases hlt : i < N.vs.length
  · obtain ⟨b, o, x, y, z, rfl, hx, cx, cy, cz⟩ := HV.out.at_ hlt
    have hbg : b ≠ gc := fun e => by have := HVA.out b (by omega) rfl; have := HW1.out; omega
    have c0 := HGR.out.cell cx (by simp; omega)
    have c1 := HGR.out.cell cy (by simp; omega)
    have c2 := HGR.out.cell cz (by simp; omega)
    have i1 : (0 : Int) ≤ (i : Int) := by omega
    have i2 : (i : Int) < (N.vs.length : Int) := by omega
    have HX := Lib.hid hx
    clear cx cy cz hx
    go_wp2_with fail
    (refine wp_named ?_; intro w3 hw3)
    have hb3 : Below wr.heap.size wr w3 := by rw [hw3]; exact bELt
    have hT : Blk w3 wr.heap.size 120 #[.int .i64 x, .int .i64 y, .int .i64 z] := by rw [hw3]; exact bLNt
    clear hw3 c0 c1 c2
    have HC3 := Lib.hid (HC.out.below hb3)
    have HG3 := Lib.hid (grown_below HGR.out hb3)
    have p0 : w3.cell? ⟨gc, 0, none⟩ = some (.slice AP i cp) := by rw [HC3.out.blk.cell]; rfl
    obtain ⟨t0, t1, t2⟩ := hT.three
    refine wp_region_K 14 (S := fun V => V.cell? ⟨gc, 0, none⟩ = some (.slice AP i cp) ∧ V.cell? ⟨wr.heap.size, 0, none⟩ = some (.int .i64 x) ∧ V.cell? ⟨wr.heap.size, 1, none⟩ = some (.int .i64 y)) (by kernel_rfl) ⟨p0, t0, t1⟩ (fun _ => ?_)
    refine tkF 0 17 (h := ⟨_, tv, ?_⟩)
    simp only [pE, List.set]
    refine tkF 1 18 (h := ⟨_, tv, ?_⟩)
    simp only [pE, List.set]
    refine tkF 2 19 (h := ⟨_, tv, ?_⟩)
    simp only [pE, List.set]
    refine tkF 3 20 (h := ⟨_, tv, ?_⟩)
    simp only [pE, List.set]
    refine tkK 4 21 (h := ⟨_, tv, ?_⟩)
    simp only [pE, List.set]
    refine tkF 5 22 (h := ⟨_, tv, ?_⟩)
    simp only [pE, List.set]
    refine tkK 6 23 (h := ⟨_, tv, ?_⟩)
    simp only [pE, List.set]
    refine tkF 7 24 (h := ⟨_, tv, ?_⟩)
    simp only [pE, List.set]
    refine tkK 8 25 (h := ⟨_, tv, ?_⟩)
    simp only [pE, List.set]
    refine tkF 9 26 (h := ⟨_, tv, ?_⟩)
    simp only [pE, List.set]
    refine wpAnyK_one (i := 10) (by kernel_rfl) (by rfl) rfl (fun K hK => ?_)
    go_simp
    obtain ⟨W4, hW4⟩ : ∃ W, W = (w3.alloc (.cells #[.int .i64 x, .int .i64 y] 127)).drew := ⟨_, rfl⟩
    rw [← hW4]
    have hb4 : Below w3.heap.size w3 W4 := by rw [hW4]; exact bELt
    have hrd : Rds W4 2 (some ⟨w3.heap.size, 0, none⟩) 1 [.int .i64 x, .int .i64 y] := by rw [hW4]; exact (Blk.drew (Blk.new w3 127 #[.int .i64 x, .int .i64 y])).rds rfl
    have HC4 := Lib.hid (HC3.out.below hb4)
    have HG4 := Lib.hid (grown_below HG3.out hb4)
    have hT4 := hT.below hb4 hT.lt
    have p4 : W4.cell? ⟨gc, 0, none⟩ = some (.slice AP i cp) := by rw [HC4.out.blk.cell]; rfl
    obtain ⟨s0, s1, s2⟩ := hT4.three
    have hown := HC4.out.op
    have hsz := HC4.out.sz
    have HT4 := Lib.hid hT4
    clear hW4 t0 t1 t2 p0 hT hT4
    refine hK.out _ _ ⟨p4, s0, s1⟩ (fun _ => ?_)
    clear hK K
    refine wpAnyK_one (i := 11) (by kernel_rfl) (by rfl) rfl (fun K hK => ?_)
    with_reducible refine step_app' (some 28) rfl rfl (.tmp 21) (.tmp 27) 123 rfl 127 _ 2 16 infoPairN Tryz.underlying123 rfl (by omega) rfl rfl hown hrd (two_intsN _ _) (by omega) (by omega) hsz ?_
    intro A' c' w' hown' hg hat
    have hne : ∀ k, blkOf AP = some k → k ≠ wr.heap.size := fun k hk e => by
     have := (HC.out.op.lt k hk).2
     omega
    have hTw := HT4.out.grown hg (fun e => hne _ e rfl)
    have hBw := HC4.out.blk.grown hg (HC4.out.op.ne HC4.out.gB)
    obtain ⟨u0, u1, u2⟩ := hTw.three
    have p5 : w'.cell? ⟨gc, 0, none⟩ = some (.slice AP i cp) := by rw [hBw.cell]; rfl
    have pf := hBw.frozen 0
    have HC5 := Lib.hid (HC4.out.pushP (by rw [vP_next HX.out]; exact hown') hg hat)
    have HG5 := Lib.hid ((grown_far HG4.out hg (fun k hk => (HC4.out.op.lt k hk).1)).trans (grownBy_set w' gc 0 (.slice A' (i + 1) c')))
    clear hown hrd hsz hown' hg hat hne hTw hBw s0 s1 s2 p4
    refine hK.out _ _ ⟨p5, u0, u1⟩ (fun _ => ?_)
    clear hK K
    simp only [pE, List.set]
    refine tkF 12 29 (h := ⟨_, tv, ?_⟩)
    simp only [pE, List.set]
    refine tkF 13 30 (h := ⟨_, tv, ?_⟩)
    simp only [pE, List.set]
    refine wpAnyK_at (k := 14) (by kernel_rfl) rfl (fun K hK => ?_)
    go_simp
    refine hK.out _ _ ?_
    clear hK K
    refine wpAny_over (by kernel_rfl) ?_ _
    obtain ⟨W5, hW5⟩ : ∃ W, W = w'.setCell ⟨gc, 0, none⟩ (.slice A' (i + 1) c') := ⟨_, rfl⟩
    rw [← hW5] at HC5 HG5 ⊢
    obtain ⟨W6, hW6⟩ : ∃ W, W = W5.alloc (.cells #[.int .i64 (-1)] 3) := ⟨_, rfl⟩
    have hb6 : Below W5.heap.size W5 W6 := by rw [hW6]; exact bELt
    have hrd : Rds W6 1 (some ⟨W5.heap.size, 0, none⟩) 1 (icells [-1]) := by rw [hW6]; exact (Blk.new W5 3 #[.int .i64 (-1)]).rds rfl
    have HC6 := Lib.hid (HC5.out.below hb6)
    have HG6 := Lib.hid (grown_below HG5.out hb6)
    have HW6 := Lib.hid hW6
    have hown := HC6.out.ol
    have hsz := HC6.out.sz
    have q2 : W5.cell? ⟨gc, 2, none⟩ = some (.slice AL i cl) := by rw [HC5.out.blk.cell]; rfl
    have hlt5 := HC5.out.blk.lt
    clear hW5 hW6 u0 u1 u2 p5 pf hb6
    go_wp2_with (at_builtin; rw [← HW6.out]; with_reducible refine wpList_app rfl (.tmp 35) (.tmp 36) 27 rfl 3 _ 1 8 infoInt Tryz.underlying27 rfl (by omega) rfl rfl hown hrd (icells_one _) (by omega) (by omega) hsz ?_)
    intro A7 c7 w7 hown7 hg7 hat7
    have hBw := HC6.out.blk.grown hg7 (HC6.out.ol.ne HC6.out.gB)
    have p7 : w7.cell? ⟨gc, 2, none⟩ = some (.slice AL i cl) := by rw [hBw.cell]; rfl
    have pf := hBw.frozen 2
    have HC7 := Lib.hid (HC6.out.pushL (by rw [show List.replicate (i + 1) (-1 : Int) = List.replicate i (-1) ++ [-1] by rw [List.replicate_succ'], icells_app]; exact hown7) hg7 hat7)
    have HG7 := Lib.hid ((grown_far HG6.out hg7 (fun k hk => (HC6.out.ol.lt k hk).1)).trans (grownBy_set w7 gc 2 (.slice A7 (i + 1) c7)))
    clear hown hrd hsz hown7 hg7 hat7 hBw q2 hlt5
    go_wp2_with fail
    go_roundw
    case rel => exact ⟨HG7.out, i + 1, A', A7, c', c7, by omega, by go_num, HC7.out⟩
    case measure => simp [intOf]; omega
  obtain rfl : N.vs.length = i := by omega
  clear hlt hi hfd HC0
  have HBW := Lib.hid (Below.grown hbw2 HGR.out hbw2.size (fun k e => by cases e; exact HGC.out))
  clear hbw2 hb1
  go_wp2_with fail
  with_reducible refine (gArcs_any g N _ (HG.out.below HBW.out)).mono ?_
  rintro e w' ⟨rfl, rfl⟩
  go_wp2_with fail
  go_loopw [43] (fun q W => w2.grownBy W (some gc) ∧ Below w.heap.size w W ∧ ∃ (i : Nat) (AE : Option Addr) (ce : Nat), i ≤ N.ar.length ∧ q = .int .i64 (i : Int) ∧ CuB W w2.heap.size gc AP AE AL cp ce cl N.vs.length i N.vs.length N) (fun q _ => N.ar.length - (intOf q).toNat)
  case atStart => exact ⟨HGR.out, HBW.out, 0, none, 0, Nat.zero_le _, rfl, HC.out⟩
  case round =>
   clear HGR HC HBW
   obtain ⟨hg, hbw, i, AE, ce, hi, rfl, hC⟩ := hrel
   have HC := Lib.hid hC
   have HGR := Lib.hid hg
   have HBW := Lib.hid hbw
   clear hC hg hbw
   by_cases hlt : i < N.ar.length
   · obtain ⟨x, hx⟩ : ∃ x, N.ar[i]? = some x := ⟨_, List.getElem?_eq_getElem hlt⟩
     have HF := Lib.hid (gFrom_ok g i N x wr.drew ((HG.out.below HBW.out).below (Below.refl _ _).drew) hx)
     have HT := Lib.hid (gTo_ok g i N x wr.drew ((HG.out.below HBW.out).below (Below.refl _ _).drew) hx)
     have HX := Lib.hid hx
     have i1 : (i : Int) < (N.ar.length : Int) := by omega
     have p1 : wr.cell? ⟨gc, 1, none⟩ = some (.slice AE i ce) := by rw [HC.out.blk.cell]; rfl
     clear hx
     go_wp2_with fail
     refine wp_region_K 16 (S := fun V => V.cell? ⟨gc, 1, none⟩ = some (.slice AE i ce)) (by kernel_rfl) p1 (fun _ => ?_)
     refine tkF 0 46 (h := ⟨_, tv, ?_⟩)
     simp only [pE, List.set]
     refine tkF 1 47 (h := ⟨_, tv, ?_⟩)
     simp only [pE, List.set]
     refine tkF 2 48 (h := ⟨_, tv, ?_⟩)
     simp only [pE, List.set]
     refine tkF 3 49 (h := ⟨_, tv, ?_⟩)
     simp only [pE, List.set]
     refine tkK 4 50 (h := ⟨_, tv, ?_⟩)
     simp only [pE, List.set]
     refine tkF 5 51 (h := ⟨_, tv, ?_⟩)
     simp only [pE, List.set]
     refine tkF 6 52 (h := ⟨_, tv, ?_⟩)
     simp only [pE, List.set]
     refine tkF 8 54 (h := ⟨_, tv, ?_⟩)
     simp only [pE, List.set]
     refine tkF 9 55 (h := ⟨_, tv, ?_⟩)
     simp only [pE, List.set]
     refine wpAnyK_one (i := 7) (by kernel_rfl) (by rfl) rfl (fun K hK => ?_)
     go_simp
     with_reducible refine HF.out.mono ?_
     rintro e w4 ⟨rfl, rfl⟩
     go_simp
     refine hK.out _ _ p1 (fun _ => ?_)
     clear hK K
     refine wpAnyK_one (i := 10) (by kernel_rfl) (by rfl) rfl (fun K hK => ?_)
     go_simp
     with_reducible refine HT.out.mono ?_
     rintro e w4 ⟨rfl, rfl⟩
     go_simp
     refine hK.out _ _ p1 (fun _ => ?_)
     clear hK K HF HT
     refine tkF 11 57 (h := ⟨_, tv, ?_⟩)
     simp only [pE, List.set]
     refine wpAnyK_one (i := 12) (by kernel_rfl) (by rfl) rfl (fun K hK => ?_)
     go_simp
     obtain ⟨W4, hW4⟩ : ∃ W, W = (wr.alloc (.cells #[.int .i64 x.1, .int .i64 x.2.1] 127)).drew := ⟨_, rfl⟩
     rw [← hW4]
     have hb4 : Below wr.heap.size wr W4 := by rw [hW4]; exact bELt
     have hrd : Rds W4 2 (some ⟨wr.heap.size, 0, none⟩) 1 [.int .i64 x.1, .int .i64 x.2.1] := by rw [hW4]; exact (Blk.drew (Blk.new wr 127 #[.int .i64 x.1, .int .i64 x.2.1])).rds rfl
     have HC4 := Lib.hid (HC.out.below hb4)
     have HG4 := Lib.hid (grown_below HGR.out hb4)
     have p4 : W4.cell? ⟨gc, 1, none⟩ = some (.slice AE i ce) := by rw [HC4.out.blk.cell]; rfl
     have hown := HC4.out.oe
     have hsz := HC4.out.sz
     have HBW4 := Lib.hid (Bel.step HBW.out hb4)
     clear hW4 p1
     refine hK.out _ _ p4 (fun _ => ?_)
     clear hK K
     refine wpAnyK_one (i := 13) (by kernel_rfl) (by rfl) rfl (fun K hK => ?_)
     with_reducible refine step_app' (some 59) rfl rfl (.tmp 50) (.tmp 58) 123 rfl 127 _ 2 16 infoPairN Tryz.underlying123 rfl (by omega) rfl rfl hown hrd (two_intsN _ _) (by omega) (by omega) hsz ?_
     intro A' c' w' hown' hg hat
     have hBw := HC4.out.blk.grown hg (HC4.out.oe.ne HC4.out.gB)
     have p5 : w'.cell? ⟨gc, 1, none⟩ = some (.slice AE i ce) := by rw [hBw.cell]; rfl
     have pf := hBw.frozen 1
     have HC5 := Lib.hid (HC4.out.pushE (by rw [vE_next HX.out]; exact hown') hg hat)
     have HG5 := Lib.hid ((grown_far HG4.out hg (fun k hk => (HC4.out.oe.lt k hk).1)).trans (grownBy_set w' gc 1 (.slice A' (i + 1) c')))
     have hb5 : Below w.heap.size w w' := Below.grown HBW4.out hg HBW4.out.size (fun k e => by have := (HC4.out.oe.lt k e).1; have := HW1.out; have := HC4.out.gB; have := HGC.out; omega)
     have HB5 := Lib.hid (show Below w.heap.size w (w'.setCell ⟨gc, 1, none⟩ (.slice A' (i + 1) c')) from hb5.setCell HGC.out _)
     clear hown hrd hsz hown' hg hat hBw p4 hb5
     refine hK.out _ _ p5 (fun _ => ?_)
     clear hK K
     simp only [pE, List.set]
     refine tkF 14 60 (h := ⟨_, tv, ?_⟩)
     simp only [pE, List.set]
     refine tkF 15 61 (h := ⟨_, tv, ?_⟩)
     simp only [pE, List.set]
     refine wpAnyK_at (k := 16) (by kernel_rfl) rfl (fun K hK => ?_)
     go_simp
     refine hK.out _ _ ?_
     clear hK K
     refine wpAny_over (by kernel_rfl) ?_ _
     go_wp2_with fail
     go_roundw
     case rel => exact ⟨HG5.out, HB5.out, i + 1, A', c', by omega, by go_num, HC5.out⟩
     case measure => simp [intOf]; omega
   obtain rfl : N.ar.length = i := by omega
   obtain ⟨cs, hcs⟩ := HC.out.done
   have HCS := Lib.hid hcs
   have HLO := Lib.hid (show ∀ b, blkOf AP = some b ∨ blkOf AE = some b ∨ blkOf AL = some b → w.heap.size ≤ b from fun b hb => by
    have hz : w.heap.size ≤ w2.heap.size := by have := HW1.out; have := HC.out.gB; have := HGC.out; omega
    rcases hb with hb | hb | hb
    · exact Nat.le_trans hz (HC.out.op.lt b hb).1
    · exact Nat.le_trans hz (HC.out.oe.lt b hb).1
    · exact Nat.le_trans hz (HC.out.ol.lt b hb).1)
   clear hcs hlt
   go_wp2_with fail
   go_ret
   exact ⟨gc, AP, AE, AL, cp, ce, cl, cs, rfl, HGC.out, HLO.out, HCS.out, HBW.out⟩
end Go.Proofs.YtpffhoefmcpniaaGreatDoor

namespace Go.Proofs.YtpffhoefmcpniaaGreatDoor
open Go.RowKit

attribute [local go_sem ↓] Go.wp_at_zero Go.wp_at_succ

theorem RdK.ltN {k : IntKind} {W : World} {A : Option Addr} {n b : Nat} {l : List Int} (h : RdK k W A n l) (hn : 0 < n) (hb : blkOf A = some b) : b < W.heap.size := by
 obtain ⟨b', o, x, rfl, _, hc⟩ := h.at_ hn
 cases hb
 exact lt_of_cell hc
theorem RdK.grownX {k : IntKind} {w w' : World} {A : Option Addr} {n : Nat} {r : Option Nat} {l : List Int} (h : RdK k w A n l) (hg : w.grownBy w' r) (hne : ∀ g, 0 < n → blkOf A = some g → r ≠ some g) : RdK k w' A n l :=
 ⟨h.1, fun i x hx => by
  have hn : 0 < n := by rw [← h.1]; have := (List.getElem?_eq_some_iff.1 hx).1; omega
  obtain ⟨b, o, e, hc⟩ := h.2 i x hx
  subst e
  refine ⟨b, o, rfl, ?_⟩
  have := hg.block b (lt_of_cell hc) (fun e => hne b hn rfl e.symm)
  unfold World.cell? at hc ⊢
  rw [this]
  exact hc⟩
structure RdPc (N : NetD) (AL : Option Addr) (W : World) (A1 A2 : Option Addr) (c1 c2 : Nat) (vl : List Nat) : Prop where
 r1 : RdI W A1 vl.length (nats vl)
 r2 : RdI W A2 (arcsN N vl).length (nats (arcsN N vl))
 n1 : ∀ g, 0 < vl.length → blkOf A1 = some g → blkOf AL ≠ some g
 n2 : ∀ g, 0 < (arcsN N vl).length → blkOf A2 = some g → blkOf AL ≠ some g
 k1 : vl.length ≤ c1
 k2 : (arcsN N vl).length ≤ c2
 m1 : c1 ≤ 9223372036854775807
 m2 : c2 ≤ 9223372036854775807
section
variable {N : NetD} {AL A1 A2 : Option Addr} {W W' : World} {c1 c2 : Nat} {vl : List Nat}
theorem RdPc.below (h : RdPc N AL W A1 A2 c1 c2 vl) (hb : Below W.heap.size W W') : RdPc N AL W' A1 A2 c1 c2 vl := ⟨h.r1.below hb, h.r2.below hb, h.n1, h.n2, h.k1, h.k2, h.m1, h.m2⟩
theorem RdPc.grown {r : Option Nat} (h : RdPc N AL W A1 A2 c1 c2 vl) (hg : W.grownBy W' r) (h1 : ∀ g, 0 < vl.length → blkOf A1 = some g → r ≠ some g) (h2 : ∀ g, 0 < (arcsN N vl).length → blkOf A2 = some g → r ≠ some g) : RdPc N AL W' A1 A2 c1 c2 vl :=
 ⟨h.r1.grownX hg h1, h.r2.grownX hg h2, h.n1, h.n2, h.k1, h.k2, h.m1, h.m2⟩
end
set_option maxHeartbeats 1000000 in
theorem cClear_ok (gc cp ce cl : Nat) (AP AE AL AV : Option Addr) (cs : List Value) (N : NetD) (k cv : Nat) (vl : List Nat) (w : World) (h : CtL w gc AP AE AL cp ce cl cs N (plcL N.vs.length vl vl.length)) (hv : RdI w AV k (nats vl)) (hA : ∀ g, 0 < k → blkOf AV = some g → blkOf AL ≠ some g) (hok : PcOk N.vs.length vl) (hn : N.vs.length ≤ 4096) :
 Calls Tryz.prog 59 #[.pointer (some ⟨gc, 0, none⟩), .slice AV k cv] w fun e w' => e = .returned (.tuple #[]) ∧ CtV w' gc AP AE AL cp ce cl cs N ∧ w.grownBy w' (blkOf AL) := by
 have HV := Lib.hid hv
 have HA := Lib.hid hA
 have HOK := Lib.hid hok
 have HH := Lib.hid (show CtL w gc AP AE AL cp ce cl cs N (clrL N.vs.length vl 0) by rw [clrL_zero]; exact h)
 have HL := Lib.hid (show k = vl.length by rw [← hv.1, nats_len])
 have hk4 : k ≤ 4096 := by have := HL.out; have := hok.len; omega
 clear h hv hA hok
 go_enter Tryz.func59, Tryz.ntmps59
 go_wp2_with fail
 go_loopw [8] (fun q W => w.grownBy W (blkOf AL) ∧ ∃ j : Nat, j ≤ k ∧ q = .int .i64 (j : Int) ∧ CtL W gc AP AE AL cp ce cl cs N (clrL N.vs.length vl j)) (fun q _ => k - (intOf q).toNat)
 case atStart => exact ⟨World.grownBy.refl _ _, 0, Nat.zero_le _, rfl, HH.out⟩
 case round =>
  obtain ⟨hg, j, hj, rfl, hC⟩ := hrel
  have HC := Lib.hid hC
  have HGR := Lib.hid hg
  clear hC hg
  by_cases hlt : j < k
  · obtain ⟨b, o, x, rfl, hx, hc⟩ := HV.out.at_ hlt
    obtain ⟨v, hv, rfl⟩ := nats_inv hx
    have hvn := HOK.out.2 v (List.mem_of_getElem? hv)
    have hcW := HGR.out.cell hc (fun e => HA.out b (by omega) rfl e.symm)
    obtain ⟨gl, y, hy, hAL, cy, fy, gy, hset⟩ := HC.out.at_ hvn
    have p2 : wr.cell? ⟨gc, 2, none⟩ = some (.slice (some ⟨gl, 0, none⟩) N.vs.length cl) := by rw [HC.out.blk.cell, hAL]; rfl
    have HS := Lib.hid (show CtL (wr.setCell ⟨gl, v, none⟩ (.int .i64 (-1))) gc AP AE AL cp ce cl cs N (clrL N.vs.length vl (j + 1)) by rw [← clrL_next hv hvn]; exact hset (-1))
    have HG2 := Lib.hid (show w.grownBy (wr.setCell ⟨gl, v, none⟩ (.int .i64 (-1))) (blkOf AL) from HGR.out.trans (by rw [hAL]; exact grownBy_set wr gl v _))
    have i1 : (j : Int) < (k : Int) := by omega
    have i2 : (0 : Int) ≤ (j : Int) := by omega
    have i3 : (0 : Int) ≤ (v : Int) := by omega
    have i4 : (v : Int) < (N.vs.length : Int) := by omega
    clear hx hc hv hy hset hAL
    go_wp2_with fail
    go_roundw
    case rel => exact ⟨HG2.out, j + 1, by omega, by go_num, HS.out⟩
    case measure => simp [intOf]; omega
  obtain rfl : k = j := by omega
  have HD := Lib.hid (show CtV wr gc AP AE AL cp ce cl cs N by have := HC.out; rw [HL.out, clrL_all] at this; exact this)
  clear hlt HC
  go_wp2_with fail
  go_end0
  first | exact ⟨rfl, HD.out, HGR.out⟩ | exact ⟨rfl, rfl, HD.out, HGR.out⟩
set_option maxHeartbeats 1000000 in
theorem cClear_d (gc cp ce cl : Nat) (AP AE AL AV : Option Addr) (cs : List Value) (N : NetD) (k cv : Nat) (vl : List Nat) (u : FrameMode) (w : World) (h : CtL w gc AP AE AL cp ce cl cs N (plcL N.vs.length vl vl.length)) (hv : RdI w AV k (nats vl)) (hA : ∀ g, 0 < k → blkOf AV = some g → blkOf AL ≠ some g) (hok : PcOk N.vs.length vl) (hn : N.vs.length ≤ 4096) :
 CallsD Tryz.prog 59 #[.pointer (some ⟨gc, 0, none⟩), .slice AV k cv] u w fun e u' w' => u' = u ∧ (e = .returned (.tuple #[]) ∧ CtV w' gc AP AE AL cp ce cl cs N ∧ w.grownBy w' (blkOf AL)) := by
 have HV := Lib.hid hv
 have HA := Lib.hid hA
 have HOK := Lib.hid hok
 have HH := Lib.hid (show CtL w gc AP AE AL cp ce cl cs N (clrL N.vs.length vl 0) by rw [clrL_zero]; exact h)
 have HL := Lib.hid (show k = vl.length by rw [← hv.1, nats_len])
 have hk4 : k ≤ 4096 := by have := HL.out; have := hok.len; omega
 clear h hv hA hok
 go_enter_d Tryz.func59, Tryz.ntmps59
 go_wp2_with fail
 go_loopw [8] (fun q W => w.grownBy W (blkOf AL) ∧ ∃ j : Nat, j ≤ k ∧ q = .int .i64 (j : Int) ∧ CtL W gc AP AE AL cp ce cl cs N (clrL N.vs.length vl j)) (fun q _ => k - (intOf q).toNat)
 case atStart => exact ⟨World.grownBy.refl _ _, 0, Nat.zero_le _, rfl, HH.out⟩
 case round =>
  obtain ⟨hg, j, hj, rfl, hC⟩ := hrel
  have HC := Lib.hid hC
  have HGR := Lib.hid hg
  clear hC hg
  by_cases hlt : j < k
  · obtain ⟨b, o, x, rfl, hx, hc⟩ := HV.out.at_ hlt
    obtain ⟨v, hv, rfl⟩ := nats_inv hx
    have hvn := HOK.out.2 v (List.mem_of_getElem? hv)
    have hcW := HGR.out.cell hc (fun e => HA.out b (by omega) rfl e.symm)
    obtain ⟨gl, y, hy, hAL, cy, fy, gy, hset⟩ := HC.out.at_ hvn
    have p2 : wr.cell? ⟨gc, 2, none⟩ = some (.slice (some ⟨gl, 0, none⟩) N.vs.length cl) := by rw [HC.out.blk.cell, hAL]; rfl
    have HS := Lib.hid (show CtL (wr.setCell ⟨gl, v, none⟩ (.int .i64 (-1))) gc AP AE AL cp ce cl cs N (clrL N.vs.length vl (j + 1)) by rw [← clrL_next hv hvn]; exact hset (-1))
    have HG2 := Lib.hid (show w.grownBy (wr.setCell ⟨gl, v, none⟩ (.int .i64 (-1))) (blkOf AL) from HGR.out.trans (by rw [hAL]; exact grownBy_set wr gl v _))
    have i1 : (j : Int) < (k : Int) := by omega
    have i2 : (0 : Int) ≤ (j : Int) := by omega
    have i3 : (0 : Int) ≤ (v : Int) := by omega
    have i4 : (v : Int) < (N.vs.length : Int) := by omega
    clear hx hc hv hy hset hAL
    go_wp2_with fail
    go_roundw
    case rel => exact ⟨HG2.out, j + 1, by omega, by go_num, HS.out⟩
    case measure => simp [intOf]; omega
  obtain rfl : k = j := by omega
  have HD := Lib.hid (show CtV wr gc AP AE AL cp ce cl cs N by have := HC.out; rw [HL.out, clrL_all] at this; exact this)
  clear hlt HC
  go_wp2_with fail
  go_end0
  first | exact ⟨rfl, HD.out, HGR.out⟩ | exact ⟨rfl, rfl, HD.out, HGR.out⟩
end Go.Proofs.YtpffhoefmcpniaaGreatDoor
