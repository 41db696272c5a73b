/- Parts of the proof: RoR, RoI. -/
import Derived.Test.YtgkeolddpielpaaGreatM24
namespace Go.Proofs.YtgkeolddpielpaaGreat
open Go.RowKit

theorem addR_bd {x y : Int} (hx : 0 ≤ x) (hy : 0 ≤ y) : 0 ≤ addR x y ∧ addR x y ≤ 1152921504606846976 ∧ addR x y ≤ x + y ∧ (addR x y < 1152921504606846976 → addR x y = x + y) := by
 unfold addR
 split <;> omega
def sumN (d : List Int) : Nat := (d.map Int.toNat).sum
theorem sumN_set : ∀ (d : List Int) (b : Nat) (v x : Int), d[b]? = some x → 0 ≤ v → v < x → sumN (d.set b v) < sumN d
 | [], b, v, x, h, _, _ => by simp at h
 | z :: t, 0, v, x, h, h1, h2 => by
  simp at h
  subst h
  simp only [sumN, List.set_cons_zero, List.map_cons, List.sum_cons]
  omega
 | z :: t, b + 1, v, x, h, h1, h2 => by
  have := sumN_set t b v x (by simpa using h) h1 h2
  simp only [sumN, List.set_cons_succ, List.map_cons, List.sum_cons] at this ⊢
  omega
section
variable {N : NetD} {mk : List Bool} {s t : Nat} {d : List Int} {best : Int}
def Wi (mk : List Bool) (y : Tri) : Prop := mk.getD y.1.toNat false = true ∧ mk.getD y.2.1.toNat false = true
theorem stA_wi {a b : Nat} {y : Tri} {e : Int} (hy : N.ar[b]? = some y) : StA N mk a b e ↔ turnN N a b ≠ 1152921504606846976 ∧ y.2.2 ≠ 1152921504606846976 ∧ Wi mk y ∧ e = turnN N a b + y.2.2 := by
 constructor
 · rintro ⟨z, hz, h1, h2, h3, h4, h5⟩
   rw [hy] at hz
   cases hz
   exact ⟨h1, h2, ⟨h3, h4⟩, h5⟩
 · rintro ⟨h1, h2, h3, h4⟩
   exact ⟨y, hy, h1, h2, h3.1, h3.2, h4⟩
def BfS (N : NetD) (mk : List Bool) (s t : Nat) (d : List Int) (best : Int) (k : Nat) : Prop := ∀ (j b : Nat), j < k → (nxtI N s)[j]? = some (b : Int) → (∀ e, StA N mk s b e → dAt d b ≤ e) ∧ (b = t → best ≤ turnN N s b)
def minI (x y : Int) : Int := if y < x then y else x
theorem dAt_set {d : List Int} {b q : Nat} {v : Int} (hb : b < d.length) : dAt (d.set b v) q = if b = q then v else dAt d q := by
 unfold dAt
 simp only [List.getD_eq_getElem?_getD]
 by_cases e : b = q
 · subst e; rw [if_pos rfl, List.getElem?_set_self hb]; rfl
 · rw [if_neg e, List.getElem?_set_ne e]
theorem BfI.dir1 (h : BfI N mk s t d best) (hok : NetOk N) {b : Nat} (htn : turnN N s b ≠ 1152921504606846976) (hb : b = t) : BfI N mk s t d (minI best (turnN N s b)) := by
 have h1 := (turnN_bd hok s b).resolve_left htn
 unfold minI
 split
 · rename_i hlt
   subst hb
   have := h.out .start (Int.le_refl _) (show OuA N s b (turnN N s b) from ⟨htn, rfl⟩) h1.1 (by omega)
   rwa [Int.zero_add] at this
 · exact h
theorem BfI.dir2 (h : BfI N mk s t d best) (hok : NetOk N) {b : Nat} {y : Tri} (hy : N.ar[b]? = some y) (htn : turnN N s b ≠ 1152921504606846976) (hw : y.2.2 ≠ 1152921504606846976) (hwi : Wi mk y) : addR (turnN N s b) y.2.2 = turnN N s b + y.2.2 ∧ BfI N mk s t (d.set b (minI (dAt d b) (addR (turnN N s b) y.2.2))) best := by
 have hst := (stA_wi (a := s) (mk := mk) hy).2 ⟨htn, hw, hwi, rfl⟩
 have hbd := hst.bd hok
 have hbl : b < d.length := by rw [h.len]; exact (List.getElem?_eq_some_iff.1 hy).1
 have e : addR (turnN N s b) y.2.2 = turnN N s b + y.2.2 := by unfold addR; rw [if_neg (by omega)]
 refine ⟨e, ?_⟩
 rw [e]
 unfold minI
 split
 · have := h.less .start (Int.le_refl _) hst hbd.1 (by omega)
   rwa [Int.zero_add] at this
 · have : d.set b (dAt d b) = d := by
    apply List.ext_getElem?
    intro i
    by_cases e2 : b = i
    · subst e2
      rw [List.getElem?_set_self hbl, List.getElem?_eq_getElem hbl]
      unfold dAt
      rw [List.getD_eq_getElem?_getD, List.getElem?_eq_getElem hbl]
      rfl
    · rw [List.getElem?_set_ne e2]
   rw [this]
   exact h
theorem BfS.next {k b : Nat} {d' : List Int} {best' : Int} (h : BfS N mk s t d best k) (hb : (nxtI N s)[k]? = some (b : Int)) (hd : ∀ q, dAt d' q ≤ dAt d q) (hbb : best' ≤ best) (h1 : ∀ e, StA N mk s b e → dAt d' b ≤ e) (h2 : b = t → best' ≤ turnN N s b) : BfS N mk s t d' best' (k + 1) := fun j q hj hq => by
 by_cases e : j = k
 · subst e
   rw [hb] at hq
   have : (b : Int) = (q : Int) := Option.some.inj hq
   obtain rfl : b = q := by omega
   exact ⟨h1, h2⟩
 · obtain ⟨g1, g2⟩ := h j q (by omega) hq
   exact ⟨fun e he => Int.le_trans (hd q) (g1 e he), fun e => Int.le_trans hbb (g2 e)⟩
def BfR (N : NetD) (mk : List Bool) (t : Nat) (d : List Int) (best : Int) (a k : Nat) : Prop := ∀ (p j b : Nat), p < a ∨ p = a ∧ j < k → (nxtI N p)[j]? = some (b : Int) → dAt d p < 1152921504606846976 → (∀ e, StA N mk p b e → dAt d b ≤ dAt d p + e) ∧ (b = t → best ≤ dAt d p + turnN N p b)
theorem BfR.less {a k : Nat} {best' : Int} (h : BfR N mk t d best a k) (hb : best' ≤ best) : BfR N mk t d best' a k := fun p j b hp hj hd => by
 obtain ⟨h1, h2⟩ := h p j b hp hj hd
 exact ⟨h1, fun e => Int.le_trans hb (h2 e)⟩
theorem BfR.next {a k b : Nat} (h : BfR N mk t d best a k) (hb : (nxtI N a)[k]? = some (b : Int)) (h1 : dAt d a < 1152921504606846976 → (∀ e, StA N mk a b e → dAt d b ≤ dAt d a + e) ∧ (b = t → best ≤ dAt d a + turnN N a b)) : BfR N mk t d best a (k + 1) := fun p j q hp hq hd => by
 by_cases e : p = a ∧ j = k
 · obtain ⟨rfl, rfl⟩ := e
   rw [hb] at hq
   have : (b : Int) = (q : Int) := Option.some.inj hq
   obtain rfl : b = q := by omega
   exact h1 hd
 · exact h p j q (by omega) hq hd
theorem BfR.up {a k : Nat} (h : BfR N mk t d best a k) (hk : (nxtI N a).length ≤ k ∨ ¬ dAt d a < 1152921504606846976) : BfR N mk t d best (a + 1) 0 := fun p j b hp hj hd => by
 by_cases e : p = a
 · subst e
   rcases hk with hk | hk
   · exact h p j b (.inr ⟨rfl, by have := (List.getElem?_eq_some_iff.1 hj).1; omega⟩) hj hd
   · exact absurd hd hk
 · exact h p j b (by omega) hj hd
theorem BfI.fin (hok : NetOk N) (h : BfI N mk s t d best) (hS : BfS N mk s t d best (nxtI N s).length) (hR : BfR N mk t d best N.ar.length 0) : EntC N mk s t best := by
 have key : ∀ p b : Nat, turnN N p b ≠ 1152921504606846976 → ∃ j, (nxtI N p)[j]? = some (b : Int) := fun p b hb => List.getElem?_of_mem (mem_nxt.2 ⟨b, rfl, hb⟩)
 refine h.done hok (fun b e he => ?_) (fun e he => ?_) (fun a ha => ⟨fun b e he => ?_, fun e he => ?_⟩)
 · obtain ⟨y, _, h1, _⟩ := id he
   obtain ⟨j, hj⟩ := key s b h1
   exact (hS j b (List.getElem?_eq_some_iff.1 hj).1 hj).1 e he
 · obtain ⟨j, hj⟩ := key s t he.1
   rw [he.2]
   exact (hS j t (List.getElem?_eq_some_iff.1 hj).1 hj).2 rfl
 · obtain ⟨y, _, h1, _⟩ := id he
   obtain ⟨x, _, hx, _⟩ := turnN_meet h1
   obtain ⟨j, hj⟩ := key a b h1
   exact (hR a j b (.inl (List.getElem?_eq_some_iff.1 hx).1) hj ha).1 e he
 · obtain ⟨x, _, hx, _⟩ := turnN_meet he.1
   obtain ⟨j, hj⟩ := key a t he.1
   rw [he.2]
   exact (hR a j t (.inl (List.getElem?_eq_some_iff.1 hx).1) hj ha).2 rfl
theorem BfI.nb (h : BfI N mk s t d best) (hok : NetOk N) {a b : Nat} (ha : dAt d a < 1152921504606846976) (htn : turnN N a b ≠ 1152921504606846976) (hb : b = t) (hlt : addR (dAt d a) (turnN N a b) < best) : BfI N mk s t d (addR (dAt d a) (turnN N a b)) := by
 have h1 := (turnN_bd hok a b).resolve_left htn
 rcases h.at_ a with h2 | ⟨h2, _, c, e, hr⟩
 · omega
 · have hbl : best ≤ 1152921504606846976 := by rcases h.best with g | ⟨_, g, _⟩ <;> omega
   have e2 := (addR_bd h2 h1.1).2.2.2 (by omega)
   rw [e2] at hlt ⊢
   subst hb
   rw [e] at h2 hlt ⊢
   exact h.out hr h2 (show OuA N a b (turnN N a b) from ⟨htn, rfl⟩) h1.1 hlt
theorem BfI.nd (h : BfI N mk s t d best) (hok : NetOk N) {a b : Nat} {y : Tri} (ha : dAt d a < 1152921504606846976) (htn : turnN N a b ≠ 1152921504606846976) (hy : N.ar[b]? = some y) (hw0 : 0 ≤ y.2.2) (hwi : Wi mk y) (hlt : addR (addR (dAt d a) (turnN N a b)) y.2.2 < dAt d b) :
 BfI N mk s t (d.set b (addR (addR (dAt d a) (turnN N a b)) y.2.2)) best ∧ 0 ≤ addR (addR (dAt d a) (turnN N a b)) y.2.2 := by
 have h1 := (turnN_bd hok a b).resolve_left htn
 rcases h.at_ a with h2 | ⟨h2, _, c, e, hr⟩
 · omega
 · have hdb : dAt d b ≤ 1152921504606846976 := by rcases h.at_ b with g | ⟨_, g, _⟩ <;> omega
   have g1 := addR_bd h2 h1.1
   have g2 := addR_bd g1.1 hw0
   have e2 := g2.2.2.2 (by omega)
   have e3 := g1.2.2.2 (by omega)
   rw [e2, e3] at hlt ⊢
   have hst := (stA_wi (a := a) (mk := mk) hy).2 ⟨htn, by omega, hwi, rfl⟩
   rw [Int.add_assoc] at hlt ⊢
   rw [e] at h2 hlt ⊢
   exact ⟨h.less hr h2 hst (hst.bd hok).1 hlt, by omega⟩
theorem BfR.nx (hok : NetOk N) {a k b : Nat} {y : Tri} (h : BfR N mk t d best a k) (hb : (nxtI N a)[k]? = some (b : Int)) (hd0 : 0 ≤ dAt d a) (htn : turnN N a b ≠ 1152921504606846976) (hy : N.ar[b]? = some y) (hw0 : 0 ≤ y.2.2) (hbest : b = t → best ≤ addR (dAt d a) (turnN N a b)) (hno : Wi mk y → dAt d b ≤ addR (addR (dAt d a) (turnN N a b)) y.2.2) : BfR N mk t d best a (k + 1) := by
 have h1 := (turnN_bd hok a b).resolve_left htn
 have g1 := addR_bd hd0 h1.1
 have g2 := addR_bd g1.1 hw0
 refine h.next hb (fun _ => ⟨fun e he => ?_, fun e => ?_⟩)
 · obtain ⟨_, _, h4, h5⟩ := (stA_wi hy).1 he
   have := hno h4
   omega
 · have := hbest e
   omega
def rowOf (V : World) (D : Nat) : List Int := match V.heap[D]? with
 | some (.cells cs _ _) => cs.toList.map (fun v => match v with | .int _ x => x | _ => 0)
 | _ => []
theorem rowOf_blk {V : World} {D : Nat} {ty : TypeId} {l : List Int} (h : Blk V D ty (ints l)) : rowOf V D = l := by
 unfold rowOf
 rw [show V.heap[D]? = _ from h]
 simp only [ints, List.map_map]
 exact List.map_id l
end
end Go.Proofs.YtgkeolddpielpaaGreat

namespace Go.Proofs.YtgkeolddpielpaaGreat
open Go.RowKit

attribute [local go_sem ↓] Go.wp_at_zero Go.wp_at_succ

structure BfW (w : World) (D : Nat) (cs : Array Value) (V : World) (d : List Int) : Prop where
 bel : Below w.heap.size w V
 box : Blk V w.heap.size 99 cs
 row : Blk V D 2 (ints d)
 dB : w.heap.size < D
section
variable {w V V' : World} {D : Nat} {cs : Array Value} {d : List Int}
theorem BfW.below (h : BfW w D cs V d) (hb : Below V.heap.size V V') : BfW w D cs V' d := ⟨Bel.step h.bel hb, h.box.below hb h.box.lt, h.row.below hb h.row.lt, h.dB⟩
theorem BfW.set (h : BfW w D cs V d) (b : Nat) (v : Int) : BfW w D cs (V.setCell ⟨D, b, none⟩ (.int .i64 v)) (d.set b v) :=
 ⟨h.bel.setCell (by have := h.dB; simp only; omega) _, h.box.far_ (by have := h.dB; omega) _, h.row.setI rfl, h.dB⟩
end
theorem BfS.less {N : NetD} {mk : List Bool} {s t k : Nat} {d d' : List Int} {best best' : Int} (h : BfS N mk s t d best k) (hd : ∀ q, dAt d' q ≤ dAt d q) (hb : best' ≤ best) : BfS N mk s t d' best' k := fun j q hj hq => by
 obtain ⟨g1, g2⟩ := h j q hj hq
 exact ⟨fun e he => Int.le_trans (hd q) (g1 e he), fun e => Int.le_trans hb (g2 e)⟩
set_option maxRecDepth 20000 in
set_option maxHeartbeats 8000000 in
theorem refInside_ok (A B C NX TX : Option Addr) (n m k c d e cx ct s t : Nat) (N : NetD) (MA : Option Addr) (mc : Nat) (mk : List Bool) (w : World) (h : RdNet w A B C n m k N) (hok : NetOk N) (hnx : RdT w NX m (nxtAll N)) (htx : RdT w TX m (trnAll N)) (hmk : RdB w MA n mk) (hs : s < m) (ht : t < m) :
 Calls Tryz.prog 86 #[.agg #[.slice A n c, .slice B m d, .slice C k e, .slice NX m cx, .slice TX m ct], .int .i64 s, .int .i64 t, .slice MA n mc] w fun r w' => (∃ v, r = .returned (.int .i64 v) ∧ EntC N mk s t v) ∧ Below w.heap.size w w' := by
 have HH := Lib.hid h
 have hlm : N.ar.length = m := h.2.1.1
 have hln : N.vs.length = n := h.1.1
 have hm : m ≤ 16384 := by rw [← hlm]; exact hok.la
 have HNX := Lib.hid hnx
 have HTX := Lib.hid htx
 have HMK := Lib.hid hmk
 have HLM := Lib.hid hlm
 have HLN := Lib.hid hln
 have i1 : (0 : Int) ≤ (s : Int) := by omega
 have i2 : (s : Int) < (m : Int) := by omega
 have i3 : (0 : Int) ≤ (t : Int) := by omega
 have i4 : (t : Int) < (m : Int) := by omega
 have HTB := Lib.hid (fun a b : Nat => turnN_bd hok a b)
 clear h hnx htx hmk hlm hln
 go_enter Tryz.func86, Tryz.ntmps86
 go_wp2_with fail
 (refine calls_named ?_; intro w1 hw1)
 have hb1 : Below w.heap.size w w1 := by rw [hw1]; exact bELt
 have hX1 : Blk w1 w.heap.size 99 #[.slice A n c, .slice B m d, .slice C k e, .slice NX m cx, .slice TX m ct] := by rw [hw1]; refine Blk.new' _ _ _ ?_; rfl
 clear hw1
 with_reducible refine (refThere_ok A B C n m k c d e (s : Int) w1 i1 i2).mono ?_
 rintro r w2 ⟨rfl, hb2⟩
 have hX2 := hX1.below hb2 hX1.lt
 have hb2' := Bel.step hb1 hb2
 clear hb1 hb2 hX1
 have x0 : w2.cell? ⟨w.heap.size, 0, none⟩ = some (.slice A n c) := by rw [hX2.cell]; rfl
 have x1 : w2.cell? ⟨w.heap.size, 1, none⟩ = some (.slice B m d) := by rw [hX2.cell]; rfl
 have x2 : w2.cell? ⟨w.heap.size, 2, none⟩ = some (.slice C k e) := by rw [hX2.cell]; rfl
 go_wp2_with fail
 with_reducible refine (refThere_ok A B C n m k c d e (t : Int) w2 i3 i4).mono ?_
 rintro r w3 ⟨rfl, hb3⟩
 have hX3 := hX2.below hb3 hX2.lt
 have hb3' := Bel.step hb2' hb3
 clear hb2' hb3 hX2 x0 x1 x2
 have x1 : w3.cell? ⟨w.heap.size, 1, none⟩ = some (.slice B m d) := by rw [hX3.cell]; rfl
 go_wp2_with fail
 with_reducible refine (never_ok m w3 (by omega)).mono ?_
 rintro r w4 ⟨rfl, hD4, hb4⟩
 obtain ⟨D, hDe⟩ : ∃ D, D = w3.heap.size := ⟨_, rfl⟩
 rw [← hDe] at hD4 ⊢
 have HW4 := Lib.hid (show BfW w D #[.slice A n c, .slice B m d, .slice C k e, .slice NX m cx, .slice TX m ct] w4 (List.replicate m 1152921504606846976) from ⟨Bel.step hb3' hb4, hX3.below hb4 hX3.lt, hD4, by rw [hDe]; exact hX3.lt⟩)
 have HI0 := Lib.hid (BfI.start N mk s t)
 rw [HLM.out] at HI0
 clear hDe hD4 hb4 hb3' hX3 x1
 -- the rows of the start
 have HRW := Lib.hid (show ∀ a, a < m → ∃ nb no na nc tb to_ ta tc, NX = some ⟨nb, no, none⟩ ∧ TX = some ⟨tb, to_, none⟩ ∧ ∀ V, Below w.heap.size w V → V.cell? ⟨nb, no + a, none⟩ = some (.slice na (nxtI N a).length nc) ∧ V.cell? ⟨tb, to_ + a, none⟩ = some (.slice ta (nxtI N a).length tc) ∧ RdI V na (nxtI N a).length (nxtI N a) ∧ RdI V ta (nxtI N a).length (trnI N a) from fun a ha => by
  obtain ⟨nb, no, na, n1, nc, l1, e1, g1, g2, g3, _, _⟩ := HNX.out.at_ ha
  obtain ⟨tb, to_, ta, n2, tc, l2, e2, f1, f2, f3, _, _⟩ := HTX.out.at_ ha
  rw [nxtAll_get (by rw [HLM.out]; exact ha)] at g1
  cases g1
  rw [trnAll_get (by rw [HLM.out]; exact ha)] at f1
  cases f1
  have q1 : n1 = (nxtI N a).length := g3.1.symm
  have q2 : n2 = (nxtI N a).length := by rw [← trn_len]; exact f3.1.symm
  subst q1
  rw [q2] at f2 f3
  exact ⟨nb, no, na, nc, tb, to_, ta, tc, e1, e2, fun V hV => ⟨Below.cellOf hV (Nat.le_refl _) g2, Below.cellOf hV (Nat.le_refl _) f2, g3.below hV, f3.below hV⟩⟩)
 obtain ⟨nb, no, na, nc, tb, to_, ta, tc, rfl, rfl, hrow⟩ := HRW.out s hs
 have HS := Lib.hid hrow
 obtain ⟨ln, hlne⟩ : ∃ ln, ln = (nxtI N s).length := ⟨_, rfl⟩
 rw [← hlne] at HS
 have hln4 : ln ≤ 16384 := by rw [hlne]; have := nxt_len N s; have := HLM.out; omega
 have HLE := Lib.hid hlne
 clear hrow hlne
 go_wp2_with fail
 go_loopw [10, 11] (fun ub uk V => ∃ (kk : Nat) (dl : List Int) (best : Int), kk ≤ ln ∧ uk = .int .i64 kk ∧ ub = .int .i64 best ∧ BfW w D #[.slice A n c, .slice B m d, .slice C k e, .slice (some ⟨nb, no, none⟩) m cx, .slice (some ⟨tb, to_, none⟩) m ct] V dl ∧ BfI N mk s t dl best ∧ BfS N mk s t dl best kk) (fun _ uk _ => ln - (intOf uk).toNat)
 case atStart => exact ⟨0, _, _, Nat.zero_le _, rfl, rfl, HW4.out, HI0.out, fun j b hj => absurd hj (Nat.not_lt_zero _)⟩
 case round =>
  obtain ⟨kk, dl, best, hkk, rfl, rfl, hW, hI, hS⟩ := hrel
  have HW := Lib.hid hW
  have HI := Lib.hid hI
  have HSS := Lib.hid hS
  obtain ⟨r1, r2, r3, r4⟩ := HS.out wr hW.bel
  have x3 : wr.cell? ⟨w.heap.size, 3, none⟩ = some (.slice (some ⟨nb, no, none⟩) m cx) := by rw [hW.box.cell]; rfl
  have x4 : wr.cell? ⟨w.heap.size, 4, none⟩ = some (.slice (some ⟨tb, to_, none⟩) m ct) := by rw [hW.box.cell]; rfl
  have x1 : wr.cell? ⟨w.heap.size, 1, none⟩ = some (.slice B m d) := by rw [hW.box.cell]; rfl
  have hXl := hW.box.lt
  by_cases hlt : kk < ln
  · obtain ⟨b, hb1, hb2, hb3, hb4⟩ := nxt_at (N := N) (a := s) (k := kk) (by rw [← HLE.out]; exact hlt)
    obtain ⟨ab, ao, z1, rfl, hz1, c1⟩ := r3.at_ hlt
    rw [hb1] at hz1
    cases hz1
    obtain ⟨bb, bo, z2, rfl, hz2, c2⟩ := r4.at_ hlt
    rw [hb2] at hz2
    cases hz2
    obtain ⟨⟨yu, yv, z⟩, hy⟩ : ∃ y, N.ar[b]? = some y := ⟨_, List.getElem?_eq_getElem hb4⟩
    have ho := hok.arcs _ (List.mem_of_getElem? hy)
    have f0 := ho.f0; have f1 := ho.f1; have g0 := ho.g0; have g1 := ho.g1; have hzw := wOk_bd ho.w
    simp only at f0 f1 g0 g1 hzw
    rw [HLN.out] at f1 g1
    obtain ⟨u, rfl⟩ : ∃ u : Nat, yu = (u : Int) := ⟨yu.toNat, by omega⟩
    obtain ⟨v, rfl⟩ : ∃ v : Nat, yv = (v : Int) := ⟨yv.toNat, by omega⟩
    have hun : u < n := by omega
    have hvn : v < n := by omega
    have j1 : (kk : Int) < (ln : Int) := by omega
    have j2 : (b : Int) < (m : Int) := by have := HLM.out; omega
    have HB1 := Lib.hid hb1
    have HTR := Lib.hid hb2
    have HB3 := Lib.hid hb3
    have HY := Lib.hid hy
    have HZW := Lib.hid hzw
    obtain ⟨yb, yo, rfl, y0, y1, y2⟩ := (HH.out.below hW.bel).2.1.2 b _ hy
    simp only at y0 y1 y2
    have hub := (HTB.out s b).resolve_left hb3
    have HUB := Lib.hid hub
    clear hW hI hS hb1 hb2 hb3 hy r3 r4 ho f0 f1 g0 g1 hzw
    have key : ((((b : Int) == (t : Int)) = true) ∧ (turnN N s b < best ∧ min best (turnN N s b) = turnN N s b) ∧ Hid (BfI N mk s t dl (turnN N s b)) ∧ Hid (turnN N s b ≤ best ∧ (b = t → turnN N s b ≤ turnN N s b))) ∨ ((((b : Int) == (t : Int)) = true) ∧ (¬ turnN N s b < best ∧ min best (turnN N s b) = best) ∧ Hid (BfI N mk s t dl best) ∧ Hid (best ≤ best ∧ (b = t → best ≤ turnN N s b))) ∨ ((((b : Int) == (t : Int)) = false) ∧ True ∧ Hid (BfI N mk s t dl best) ∧ Hid (best ≤ best ∧ (b = t → best ≤ turnN N s b))) := by
     by_cases hbt : b = t
     · have e1 : ((b : Int) == (t : Int)) = true := by simp; omega
       by_cases hmn : turnN N s b < best
       · exact .inl ⟨e1, ⟨hmn, by omega⟩, Lib.hid (by have := HI.out.dir1 hok HB3.out hbt; unfold minI at this; rwa [if_pos hmn] at this), Lib.hid ⟨by omega, fun _ => Int.le_refl _⟩⟩
       · exact .inr (.inl ⟨e1, ⟨hmn, by omega⟩, Lib.hid HI.out, Lib.hid ⟨Int.le_refl _, fun _ => by omega⟩⟩)
     · exact .inr (.inr ⟨by simp; omega, trivial, Lib.hid HI.out, Lib.hid ⟨Int.le_refl _, fun e => absurd e hbt⟩⟩)
    obtain ⟨e1, ⟨hmn, hmin⟩, HBI, HB2⟩ | ⟨e1, ⟨hmn, hmin⟩, HBI, HB2⟩ | ⟨e1, hmn, HBI, HB2⟩ := key
    all_goals as_aux_lemma =>
     go_wp2_with fail
     (refine calls_named ?_; intro w5 hw5)
     have hb5 : Below wr.heap.size wr w5 := by rw [hw5]; exact bELt
     have hA5 : Blk w5 wr.heap.size 107 #[.int .i64 u, .int .i64 v, .int .i64 z] := by rw [hw5]; exact Blk.new _ _ _
     clear hw5
     have HW5 := Lib.hid (HW.out.below hb5)
     clear r1 r2 c1 c2 y0 y1 y2 x1 x3 x4 hb5
     have a0 : w5.cell? ⟨wr.heap.size, 0, none⟩ = some (.int .i64 u) := by rw [hA5.cell]; rfl
     have a1 : w5.cell? ⟨wr.heap.size, 1, none⟩ = some (.int .i64 v) := by rw [hA5.cell]; rfl
     have a2 : w5.cell? ⟨wr.heap.size, 2, none⟩ = some (.int .i64 z) := by rw [hA5.cell]; rfl
     with_reducible refine (refMarked_ok MA n mc u mk w5 (HMK.out.below HW5.out.bel) hun).mono ?_
     rintro r w' ⟨rfl, rfl⟩
     cases hmu : mk.getD u false with
     | false =>
      have HSN := Lib.hid (HSS.out.next HB1.out (fun q => Int.le_refl _) HB2.out.1 (fun e he => absurd ((stA_wi HY.out).1 he).2.2.1.1 (by simp only [Int.toNat_natCast]; rw [hmu]; decide)) HB2.out.2)
      clear hmu a0 a1 a2
      go_wp2_with fail
      go_roundw
      case rel => exact ⟨kk + 1, dl, _, by omega, by go_num, rfl, HW5.out, HBI.out, HSN.out⟩
      case measure => simp [intOf]; omega
     | true =>
      have HMU := Lib.hid hmu
      clear hmu
      go_wp2_with fail
      with_reducible refine (refMarked_ok MA n mc v mk w5 (HMK.out.below HW5.out.bel) hvn).mono ?_
      rintro r w' ⟨rfl, rfl⟩
      cases hmv : mk.getD v false with
      | false =>
       have HSN := Lib.hid (HSS.out.next HB1.out (fun q => Int.le_refl _) HB2.out.1 (fun e he => absurd ((stA_wi HY.out).1 he).2.2.1.2 (by simp only [Int.toNat_natCast]; rw [hmv]; decide)) HB2.out.2)
       clear hmv a0 a1 a2
       go_wp2_with fail
       go_roundw
       case rel => exact ⟨kk + 1, dl, _, by omega, by go_num, rfl, HW5.out, HBI.out, HSN.out⟩
       case measure => simp [intOf]; omega
      | true =>
       have HWI := Lib.hid (show Wi mk ((u : Int), (v : Int), z) from ⟨by simp only [Int.toNat_natCast]; exact HMU.out, by simp only [Int.toNat_natCast]; exact hmv⟩)
       clear hmv
       by_cases hzi : z = 1152921504606846976
       · have HSN := Lib.hid (HSS.out.next HB1.out (fun q => Int.le_refl _) HB2.out.1 (fun e he => absurd hzi ((stA_wi HY.out).1 he).2.1) HB2.out.2)
         subst hzi
         clear a0 a1
         go_wp2_with fail
         go_roundw
         case rel => exact ⟨kk + 1, dl, _, by omega, by go_num, rfl, HW5.out, HBI.out, HSN.out⟩
         case measure => simp [intOf]; omega
       · have e2 : (z != 1152921504606846976) = true := by simpa using hzi
         have HZI := Lib.hid hzi
         clear hzi
         obtain ⟨r1, r2, r3, r4⟩ := HS.out w5 HW5.out.bel
         obtain ⟨bb', bo', eb, c2⟩ := r4.2 kk _ HTR.out
         cases eb
         obtain ⟨dx, hdx⟩ : ∃ dx, dl[b]? = some dx := ⟨_, List.getElem?_eq_getElem (by rw [HI.out.len, HLM.out]; omega)⟩
         have d0 := HW5.out.row.cellI hdx
         have df := HW5.out.row.frozen b
         have x4 : w5.cell? ⟨w.heap.size, 4, none⟩ = some (.slice (some ⟨tb, to_, none⟩) m ct) := by rw [HW5.out.box.cell]; rfl
         have hzb := HZW.out.resolve_left HZI.out
         have HAD := Lib.hid (fun V => refAdd_ok (turnN N s b) z V (by have := HUB.out; omega) (by omega))
         have hd2 := HBI.out.dir2 hok HY.out HB3.out HZI.out HWI.out
         rw [dAt_get hdx] at hd2
         have HD2 := Lib.hid hd2
         have HDX := Lib.hid hdx
         clear r1 r3 r4 hdx hzb hd2 a0 a1
         go_wp2_with fail
         refine wp_region_K 19 (S := fun V => V = w5.drew) (by kernel_rfl) rfl (fun _ => ?_)
         refine tkF 0 89 (h := ⟨_, tv, ?_⟩)
         simp only [pE, List.set]
         refine tkF 1 90 (h := ⟨_, tv, ?_⟩)
         simp only [pE, List.set]
         refine tkF 2 91 (h := ⟨_, tv, ?_⟩)
         simp only [pE, List.set]
         refine tkF 3 92 (h := ⟨_, tv, ?_⟩)
         simp only [pE, List.set]
         refine tkF 4 93 (h := ⟨_, tv, ?_⟩)
         simp only [pE, List.set]
         refine tkK 5 94 (h := ⟨_, tv, ?_⟩)
         simp only [pE, List.set]
         refine tkF 6 95 (h := ⟨_, tv, ?_⟩)
         simp only [pE, List.set]
         refine tkK 7 96 (h := ⟨_, tv, ?_⟩)
         simp only [pE, List.set]
         refine tkF 8 97 (h := ⟨_, tv, ?_⟩)
         simp only [pE, List.set]
         refine tkF 9 98 (h := ⟨_, tv, ?_⟩)
         simp only [pE, List.set]
         refine tkK 10 99 (h := ⟨_, tv, ?_⟩)
         simp only [pE, List.set]
         refine tkF 11 100 (h := ⟨_, tv, ?_⟩)
         simp only [pE, List.set]
         refine tkF 12 101 (h := ⟨_, tv, ?_⟩)
         simp only [pE, List.set]
         refine tkK 13 102 (h := ⟨_, tv, ?_⟩)
         simp only [pE, List.set]
         refine tkF 14 103 (h := ⟨_, tv, ?_⟩)
         simp only [pE, List.set]
         refine tkK 15 104 (h := ⟨_, tv, ?_⟩)
         simp only [pE, List.set]
         refine wpAnyK_one (i := 16) (by kernel_rfl) (by rfl) rfl (fun K hK => ?_)
         go_simp
         with_reducible refine (HAD.out _).mono ?_
         rintro e w' ⟨rfl, rfl⟩
         go_simp
         refine hK.out _ _ rfl (fun _ => ?_)
         clear hK K
         refine tkF 17 106 (h := ⟨_, tv, ?_⟩)
         simp only [pE, List.set]
         refine tkF 18 107 (h := ⟨_, tv, ?_⟩)
         simp only [pE, List.set]
         refine wpAnyK_at (k := 19) (by kernel_rfl) rfl (fun K hK => ?_)
         go_simp
         refine hK.out _ _ ?_
         clear hK K
         refine wpAny_over (by kernel_rfl) ?_ _
         first | rw [show (if addR (turnN N s b) z < dx then addR (turnN N s b) z else dx) = minI dx (addR (turnN N s b) z) from rfl] | rw [show min dx (addR (turnN N s b) z) = minI dx (addR (turnN N s b) z) from by unfold minI; split <;> omega]
         have hbl : b < dl.length := (List.getElem?_eq_some_iff.1 HDX.out).1
         have hmi : minI dx (addR (turnN N s b) z) ≤ dx ∧ minI dx (addR (turnN N s b) z) ≤ addR (turnN N s b) z := by unfold minI; split <;> omega
         have HW6 := Lib.hid ((HW5.out.set b (minI dx (addR (turnN N s b) z))).below (Below.refl _ _).drew)
         have HSN := Lib.hid (HSS.out.next HB1.out (d' := dl.set b (minI dx (addR (turnN N s b) z))) (fun q => by
          rw [dAt_set hbl]
          split
          · rename_i e; rw [← e, dAt_get HDX.out]; exact hmi.1
          · exact Int.le_refl _) HB2.out.1 (fun e he => by
          have := ((stA_wi HY.out).1 he).2.2.2
          simp only at this
          have h2 := HD2.out.1
          rw [dAt_set hbl, if_pos rfl]
          omega) HB2.out.2)
         clear hbl hmi a2 r2 c2 d0 df x4
         go_wp2_with fail
         go_roundw
         case rel => exact ⟨kk + 1, _, _, by omega, by go_num, rfl, HW6.out, HD2.out.2, HSN.out⟩
         case measure => simp [intOf]; omega
  · obtain rfl : kk = ln := by omega
    have HSF := Lib.hid (show BfS N mk s t dl best (nxtI N s).length by rw [← HLE.out]; exact hS)
    have j1 : ¬ ((kk : Int) < (kk : Int)) := by omega
    clear hI hS r3 r4 HSS
    go_wp2_with fail
    go_loopw [10, 14] (fun ub um V => ∃ (dl : List Int) (best : Int) (more : Bool), um = .bool more ∧ ub = .int .i64 best ∧ BfW w D #[.slice A n c, .slice B m d, .slice C k e, .slice (some ⟨nb, no, none⟩) m cx, .slice (some ⟨tb, to_, none⟩) m ct] V dl ∧ BfI N mk s t dl best ∧ BfS N mk s t dl best (nxtI N s).length ∧ (more = false → BfR N mk t dl best m 0)) (fun _ um V => 2 * sumN (rowOf V D) + (match um with | .bool true => 1 | _ => 0))
    case atStart => exact ⟨dl, best, true, rfl, rfl, HW.out, HI.out, HSF.out, fun h => by cases h⟩
    case round =>
     clear HW HI HSF
     obtain ⟨dl, best, more, rfl, rfl, hW, hI, hS, hR⟩ := hrel
     have HW := Lib.hid hW
     have HI := Lib.hid hI
     have HSS := Lib.hid hS
     cases more with
     | false =>
      have hfin := hI.fin hok hS (by rw [HLM.out]; exact hR rfl)
      clear hW hI hS hR
      go_wp2_with fail
      go_ret
      exact ⟨⟨best, rfl, hfin⟩, HW.out.bel⟩
     | true =>
      clear hW hI hS hR
      go_wp2_with fail
      obtain ⟨wo, hwo⟩ : ∃ wo, wo = wr := ⟨_, rfl⟩
      subst hwo
      go_loopw [10, 14, 15] (fun ub um ua V => ∃ (dl2 : List Int) (best2 : Int) (more : Bool) (a : Nat), a ≤ m ∧ um = .bool more ∧ ub = .int .i64 best2 ∧ ua = .int .i64 a ∧ BfW w D #[.slice A n c, .slice B m d, .slice C k e, .slice (some ⟨nb, no, none⟩) m cx, .slice (some ⟨tb, to_, none⟩) m ct] V dl2 ∧ BfI N mk s t dl2 best2 ∧ BfS N mk s t dl2 best2 (nxtI N s).length ∧ sumN dl2 ≤ sumN dl ∧ (more = true → sumN dl2 < sumN dl) ∧ (more = false → BfR N mk t dl2 best2 a 0)) (fun _ _ ua _ => m - (intOf ua).toNat)
      case atStart => exact ⟨dl, best, false, 0, Nat.zero_le _, rfl, rfl, rfl, HW.out, HI.out, HSS.out, Nat.le_refl _, (fun h => by cases h), fun _ p j b hp => by omega⟩
      case round =>
       obtain ⟨dl2, best2, more, a, ha, rfl, rfl, rfl, hW2, hI2, hS2, hle2, hlt2, hR2⟩ := hrel
       have HW2 := Lib.hid hW2
       have HI2 := Lib.hid hI2
       have HS2 := Lib.hid hS2
       have HR2 := Lib.hid hR2
       have HLT2 := Lib.hid hlt2
       by_cases ham : a < m
       rotate_left
       · obtain rfl : a = m := by omega
         have j2 : ¬ ((a : Int) < (a : Int)) := by omega
         have hm1 := rowOf_blk HW.out.row
         have hm2 := rowOf_blk hW2.row
         clear hW2 hI2 hS2 hR2 hlt2
         go_wp2_with fail
         go_roundw
         case rel => exact ⟨dl2, best2, more, rfl, rfl, HW2.out, HI2.out, HS2.out, HR2.out⟩
         case measure =>
          rw [hm1, hm2]
          cases more with
          | false => simp; omega
          | true => have := HLT2.out rfl; simp; omega
       · obtain ⟨nb2, no2, na2, nc2, tb2, to2, ta2, tc2, e1, e2, hrow⟩ := HRW.out a ham
         cases e1
         cases e2
         have HS3 := Lib.hid hrow
         obtain ⟨ln2, hlne⟩ : ∃ ln2, ln2 = (nxtI N a).length := ⟨_, rfl⟩
         rw [← hlne] at HS3
         have hln5 : ln2 ≤ 16384 := by rw [hlne]; have := nxt_len N a; have := HLM.out; omega
         have HLE2 := Lib.hid hlne
         have j1 : (a : Int) < (m : Int) := by omega
         have j0 : (0 : Int) ≤ (a : Int) := by omega
         clear hrow hlne hW2 hI2 hS2 hR2 hlt2
         go_wp2_with fail
         go_loopw [10, 14, 16] (fun ub um uk V => ∃ (kk : Nat) (dl3 : List Int) (best3 : Int) (more3 : Bool), kk ≤ ln2 ∧ uk = .int .i64 kk ∧ um = .bool more3 ∧ ub = .int .i64 best3 ∧ BfW w D #[.slice A n c, .slice B m d, .slice C k e, .slice (some ⟨nb, no, none⟩) m cx, .slice (some ⟨tb, to_, none⟩) m ct] V dl3 ∧ BfI N mk s t dl3 best3 ∧ BfS N mk s t dl3 best3 (nxtI N s).length ∧ sumN dl3 ≤ sumN dl ∧ (more3 = true → sumN dl3 < sumN dl) ∧ (more3 = false → BfR N mk t dl3 best3 a kk)) (fun _ _ uk _ => ln2 - (intOf uk).toNat)
         case atStart => exact ⟨0, dl2, best2, more, Nat.zero_le _, rfl, rfl, rfl, HW2.out, HI2.out, HS2.out, hle2, HLT2.out, HR2.out⟩
         case round =>
          obtain ⟨kk, dl3, best3, more3, hkk, rfl, rfl, rfl, hW3, hI3, hS3, hle3, hlt3, hR3⟩ := hrel
          have HW3 := Lib.hid hW3
          have HI3 := Lib.hid hI3
          have HBS3 := Lib.hid hS3
          have HLE3 := Lib.hid hle3
          have HLT3 := Lib.hid hlt3
          have HR3 := Lib.hid hR3
          obtain ⟨r1, r2, r3, r4⟩ := HS3.out wr hW3.bel
          have x3 : wr.cell? ⟨w.heap.size, 3, none⟩ = some (.slice (some ⟨nb, no, none⟩) m cx) := by rw [hW3.box.cell]; rfl
          have x4 : wr.cell? ⟨w.heap.size, 4, none⟩ = some (.slice (some ⟨tb, to_, none⟩) m ct) := by rw [hW3.box.cell]; rfl
          have hXl := hW3.box.lt
          obtain ⟨da, hda⟩ : ∃ da, dl3[a]? = some da := ⟨_, List.getElem?_eq_getElem (by rw [HI3.out.len, HLM.out]; exact ham)⟩
          have d0 := hW3.row.cellI hda
          have HDA := Lib.hid hda
          clear hW3 hI3 hS3 hle3 hlt3 hR3 hda HW2 HI2 HS2 HR2 HLT2 hle2
          by_cases hlt : kk < ln2
          rotate_left
          · obtain rfl : kk = ln2 := by omega
            have j2 : ¬ ((kk : Int) < (kk : Int)) := by omega
            have HEX := Lib.hid (fun h => (HR3.out h).up (.inl (by rw [← HLE2.out]; exact Nat.le_refl _)))
            clear r3 r4
            go_wp2_with fail
            go_roundw
            case rel => exact ⟨dl3, best3, more3, a + 1, by omega, rfl, rfl, by go_num, HW3.out, HI3.out, HBS3.out, HLE3.out, HLT3.out, HEX.out⟩
            case measure => simp [intOf]; omega
          have j2 : (kk : Int) < (ln2 : Int) := by omega
          by_cases hdl : da < 1152921504606846976
          rotate_left
          · have HEX := Lib.hid (fun h => (HR3.out h).up (.inr (by rw [dAt_get HDA.out]; exact hdl)))
            clear r3 r4
            go_wp2_with fail
            go_roundw
            case rel => exact ⟨dl3, best3, more3, a + 1, by omega, rfl, rfl, by go_num, HW3.out, HI3.out, HBS3.out, HLE3.out, HLT3.out, HEX.out⟩
            case measure => simp [intOf]; omega
          obtain ⟨b, hb1, hb2, hb3, hb4⟩ := nxt_at (N := N) (a := a) (k := kk) (by rw [← HLE2.out]; exact hlt)
          obtain ⟨ab, ao, z1, rfl, hz1, c1⟩ := r3.at_ hlt
          rw [hb1] at hz1
          cases hz1
          obtain ⟨bb, bo, z2, rfl, hz2, c2⟩ := r4.at_ hlt
          rw [hb2] at hz2
          cases hz2
          obtain ⟨⟨yu, yv, z⟩, hy⟩ : ∃ y, N.ar[b]? = some y := ⟨_, List.getElem?_eq_getElem hb4⟩
          have ho := hok.arcs _ (List.mem_of_getElem? hy)
          have f0 := ho.f0; have f1 := ho.f1; have g0 := ho.g0; have g1 := ho.g1; have hzw := wOk_bd ho.w
          simp only at f0 f1 g0 g1 hzw
          rw [HLN.out] at f1 g1
          obtain ⟨u, rfl⟩ : ∃ u : Nat, yu = (u : Int) := ⟨yu.toNat, by omega⟩
          obtain ⟨v, rfl⟩ : ∃ v : Nat, yv = (v : Int) := ⟨yv.toNat, by omega⟩
          have hun : u < n := by omega
          have hvn : v < n := by omega
          have j3 : (0 : Int) ≤ (kk : Int) := by omega
          have j4 : (b : Int) < (m : Int) := by have := HLM.out; omega
          have j5 : (0 : Int) ≤ (b : Int) := by omega
          have hz0 : 0 ≤ z := by omega
          have hz9 : z ≤ 1152921504606846976 := by omega
          have hda0 : 0 ≤ da := by
           rcases HI3.out.at_ a with h | ⟨h, _, _⟩ <;> rw [dAt_get HDA.out] at h <;> omega
          have hub := (HTB.out a b).resolve_left hb3
          have hub9 : turnN N a b ≤ 1152921504606846976 := by omega
          have hcb := addR_bd hda0 hub.1
          have HAD := Lib.hid (fun V => refAdd_ok da (turnN N a b) V ⟨hda0, by omega⟩ ⟨hub.1, hub9⟩)
          obtain ⟨cc, hcc⟩ : ∃ cc, cc = addR da (turnN N a b) := ⟨_, rfl⟩
          rw [← hcc] at hcb
          have HAZ := Lib.hid (fun V => refAdd_ok cc z V ⟨hcb.1, hcb.2.1⟩ ⟨hz0, hz9⟩)
          have HCC := Lib.hid hcc
          have HCD := Lib.hid (show addR (dAt dl3 a) (turnN N a b) = cc by rw [dAt_get HDA.out]; exact hcc.symm)
          have HDI := Lib.hid (show dAt dl3 a < 1152921504606846976 by rw [dAt_get HDA.out]; exact hdl)
          have HD0 := Lib.hid (show 0 ≤ dAt dl3 a by rw [dAt_get HDA.out]; exact hda0)
          obtain ⟨db, hdb⟩ : ∃ db, dl3[b]? = some db := ⟨_, List.getElem?_eq_getElem (by rw [HI3.out.len]; exact hb4)⟩
          have HDB := Lib.hid hdb
          have HZ0 := Lib.hid (show 0 ≤ (((u : Int), (v : Int), z) : Tri).2.2 from hz0)
          have HB1 := Lib.hid hb1
          have HB3 := Lib.hid hb3
          have HY := Lib.hid hy
          clear hb1 hb2 hb3 hb4 hy r3 r4 ho f0 f1 g0 g1 hzw hub hub9 hcc hdb hcb
          go_wp2_with fail
          refine wp_region_held_drew (S := fun V => V = wr.drew) (by kernel_rfl) rfl (fun _ => ?_)
          refine tk 0 140 (h := ⟨_, tv, ?_⟩)
          simp only [pE, List.set]
          refine tk 1 141 (h := ⟨_, tv, ?_⟩)
          simp only [pE, List.set]
          refine tk 2 142 (h := ⟨_, tv, ?_⟩)
          simp only [pE, List.set]
          refine tk 3 143 (h := ⟨_, tv, ?_⟩)
          simp only [pE, List.set]
          refine tk 4 144 (h := ⟨_, tv, ?_⟩)
          simp only [pE, List.set]
          refine tk 5 145 (h := ⟨_, tv, ?_⟩)
          simp only [pE, List.set]
          refine tk 6 146 (h := ⟨_, tv, ?_⟩)
          simp only [pE, List.set]
          refine tk 7 147 (h := ⟨_, tv, ?_⟩)
          simp only [pE, List.set]
          refine tk 8 148 (h := ⟨_, tv, ?_⟩)
          simp only [pE, List.set]
          refine tk 9 149 (h := ⟨_, tv, ?_⟩)
          simp only [pE, List.set]
          refine tk 10 150 (h := ⟨_, tv, ?_⟩)
          simp only [pE, List.set]
          refine tk 11 151 (h := ⟨_, tv, ?_⟩)
          simp only [pE, List.set]
          refine wpAnyH_ready (rs := [12]) (by kernel_rfl) (by simp) ?_
          refine AllReadyH.cons (o := _) rfl (fun K hK => ?_) AllReadyH.nil
          go_simp
          with_reducible refine (HAD.out _).mono ?_
          rintro r w' ⟨rfl, rfl⟩
          rw [← HCC.out]
          go_simp
          refine hK.out _ _ rfl (fun _ => ?_)
          clear hK K
          refine tk 13 18 (h := ⟨_, tv, ?_⟩)
          simp only [pE, List.set]
          refine wpAnyH_done (by kernel_rfl) ?_ _
          obtain ⟨w4, hw4⟩ : ∃ w4, w4 = wr.drew := ⟨_, rfl⟩
          rw [← hw4]
          have hb4 : Below wr.heap.size wr w4 := by rw [hw4]; exact (Below.refl _ _).drew
          have HW4 := Lib.hid (HW3.out.below hb4)
          clear hw4 hb4 HAD r1 r2 c1 c2 x3 x4 d0 hXl
          obtain ⟨yb, yo, rfl, y0, y1, y2⟩ := (HH.out.below HW4.out.bel).2.1.2 b _ HY.out
          simp only at y0 y1 y2
          have x1 : w4.cell? ⟨w.heap.size, 1, none⟩ = some (.slice (some ⟨yb, yo, none⟩) m d) := by rw [HW4.out.box.cell]; rfl
          have hXl := HW4.out.box.lt
          have key : ((((b : Int) == (t : Int)) = true) ∧ cc < best3 ∧ Hid (BfI N mk s t dl3 cc) ∧ Hid (BfS N mk s t dl3 cc (nxtI N s).length) ∧ Hid (more3 = false → BfR N mk t dl3 cc a kk) ∧ Hid (b = t → cc ≤ cc)) ∨ ((((b : Int) == (t : Int)) = true) ∧ ¬ cc < best3 ∧ Hid (BfI N mk s t dl3 best3) ∧ Hid (BfS N mk s t dl3 best3 (nxtI N s).length) ∧ Hid (more3 = false → BfR N mk t dl3 best3 a kk) ∧ Hid (b = t → best3 ≤ cc)) ∨ ((((b : Int) == (t : Int)) = false) ∧ True ∧ Hid (BfI N mk s t dl3 best3) ∧ Hid (BfS N mk s t dl3 best3 (nxtI N s).length) ∧ Hid (more3 = false → BfR N mk t dl3 best3 a kk) ∧ Hid (b = t → best3 ≤ cc)) := by
           by_cases hbt : b = t
           · have e3 : ((b : Int) == (t : Int)) = true := by simp; omega
             by_cases hmn : cc < best3
             · refine .inl ⟨e3, hmn, Lib.hid ?_, Lib.hid (HBS3.out.less (fun q => Int.le_refl _) (Int.le_of_lt hmn)), Lib.hid (fun h => (HR3.out h).less (Int.le_of_lt hmn)), Lib.hid (fun _ => Int.le_refl _)⟩
               have := HI3.out.nb hok HDI.out HB3.out hbt (by rw [HCD.out]; exact hmn)
               rwa [HCD.out] at this
             · exact .inr (.inl ⟨e3, hmn, Lib.hid HI3.out, Lib.hid HBS3.out, Lib.hid HR3.out, Lib.hid (fun _ => by omega)⟩)
           · exact .inr (.inr ⟨by simp; omega, trivial, Lib.hid HI3.out, Lib.hid HBS3.out, Lib.hid HR3.out, Lib.hid (fun e => absurd e hbt)⟩)
          obtain ⟨e3, hmn, HBI, HBS, HBR, HBB⟩ | ⟨e3, hmn, HBI, HBS, HBR, HBB⟩ | ⟨e3, hmn, HBI, HBS, HBR, HBB⟩ := key
          all_goals as_aux_lemma =>
           clear HI3 HBS3 HR3
           go_wp2_with fail
           (refine wp_named ?_; intro w5 hw5)
           have hb5 : Below w4.heap.size w4 w5 := by rw [hw5]; exact bELt
           have hA5 : Blk w5 w4.heap.size 107 #[.int .i64 u, .int .i64 v, .int .i64 z] := by rw [hw5]; exact Blk.new _ _ _
           clear hw5
           have HW5 := Lib.hid (HW4.out.below hb5)
           clear y0 y1 y2 x1 hb5
           have a0 : w5.cell? ⟨w4.heap.size, 0, none⟩ = some (.int .i64 u) := by rw [hA5.cell]; rfl
           have a1 : w5.cell? ⟨w4.heap.size, 1, none⟩ = some (.int .i64 v) := by rw [hA5.cell]; rfl
           have a2 : w5.cell? ⟨w4.heap.size, 2, none⟩ = some (.int .i64 z) := by rw [hA5.cell]; rfl
           have d0 := HW5.out.row.cellI HDB.out
           have df := HW5.out.row.frozen b
           obtain ⟨m1, hm1⟩ : ∃ m1, m1 = mk.getD u false := ⟨_, rfl⟩
           obtain ⟨m2, hm2⟩ : ∃ m2, m2 = mk.getD v false := ⟨_, rfl⟩
           have HM1 := Lib.hid (show Calls Tryz.prog 129 #[.slice MA n mc, .int .i64 u] w5.drew (fun e w' => e = .returned (.bool m1) ∧ w5.drew = w') from hm1 ▸ refMarked_ok MA n mc u mk w5.drew (HMK.out.below HW5.out.bel.drew) hun)
           have HM2 := Lib.hid (show Calls Tryz.prog 129 #[.slice MA n mc, .int .i64 v] w5.drew (fun e w' => e = .returned (.bool m2) ∧ w5.drew = w') from hm2 ▸ refMarked_ok MA n mc v mk w5.drew (HMK.out.below HW5.out.bel.drew) hvn)
           have HE1 := Lib.hid hm1
           have HE2 := Lib.hid hm2
           clear hm1 hm2 hA5
           refine wp_region_held_drew (S := fun V => V = w5.drew) (by kernel_rfl) rfl (fun _ => ?_)
           refine tk 0 168 (h := ⟨_, tv, ?_⟩)
           simp only [pE, List.set]
           refine tk 1 169 (h := ⟨_, tv, ?_⟩)
           simp only [pE, List.set]
           refine tk 2 170 (h := ⟨_, tv, ?_⟩)
           simp only [pE, List.set]
           refine wpAnyH_ready (rs := [3]) (by kernel_rfl) (by simp) ?_
           refine AllReadyH.cons (o := _) rfl (fun K hK => ?_) AllReadyH.nil
           go_simp
           with_reducible refine HM1.out.mono ?_
           rintro r w' ⟨rfl, rfl⟩
           go_simp
           refine hK.out _ _ rfl (fun _ => ?_)
           clear hK K
           cases m1 with
           | false =>
            refine tk 4 172 (h := ⟨_, tv, ?_⟩)
            simp only [pE, List.set]
            refine tu 5 173 (h := ?_)
            simp only [pE, List.set]
            refine tu 6 174 (h := ?_)
            simp only [pE, List.set]
            refine tu 7 175 (h := ?_)
            simp only [pE, List.set]
            refine tu 8 176 (h := ?_)
            simp only [pE, List.set]
            refine tk 9 177 (h := ⟨_, tv, ?_⟩)
            simp only [pE, List.set]
            refine tk 10 178 (h := ⟨_, tv, ?_⟩)
            simp only [pE, List.set]
            refine tu 11 179 (h := ?_)
            simp only [pE, List.set]
            refine tu 12 180 (h := ?_)
            simp only [pE, List.set]
            refine tu 13 181 (h := ?_)
            simp only [pE, List.set]
            refine tu 14 182 (h := ?_)
            simp only [pE, List.set]
            refine tu 15 183 (h := ?_)
            simp only [pE, List.set]
            refine tu 16 184 (h := ?_)
            simp only [pE, List.set]
            refine tu 17 185 (h := ?_)
            simp only [pE, List.set]
            refine tu 18 186 (h := ?_)
            simp only [pE, List.set]
            refine tu 19 187 (h := ?_)
            simp only [pE, List.set]
            refine tk 20 188 (h := ⟨_, tv, ?_⟩)
            simp only [pE, List.set]
            refine wpAnyH_done (by kernel_rfl) ?_ _
            have HNO := Lib.hid (show Wi mk ((u : Int), (v : Int), z) → dAt dl3 b ≤ addR cc z from fun h => by have := h.1; simp only [Int.toNat_natCast] at this; rw [← HE1.out] at this; cases this)
            have HRN := Lib.hid (fun h => BfR.nx (y := ((u : Int), (v : Int), z)) hok (HBR.out h) HB1.out HD0.out HB3.out HY.out HZ0.out (by rw [HCD.out]; exact HBB.out) (by rw [HCD.out]; exact HNO.out))
            have HW6 := Lib.hid (HW5.out.below (Below.refl _ _).drew)
            clear a0 a1 a2 d0 df HM1 HM2
            go_wp2_with fail
            go_roundw
            case rel => exact ⟨kk + 1, dl3, _, more3, by omega, by go_num, rfl, rfl, HW6.out, HBI.out, HBS.out, HLE3.out, HLT3.out, HRN.out⟩
            case measure => simp [intOf]; omega
           | true =>
            refine tk 4 172 (h := ⟨_, tv, ?_⟩)
            simp only [pE, List.set]
            refine tk 5 173 (h := ⟨_, tv, ?_⟩)
            simp only [pE, List.set]
            refine tk 6 174 (h := ⟨_, tv, ?_⟩)
            simp only [pE, List.set]
            refine tk 7 175 (h := ⟨_, tv, ?_⟩)
            simp only [pE, List.set]
            refine wpAnyH_ready (rs := [8]) (by kernel_rfl) (by simp) ?_
            refine AllReadyH.cons (o := _) rfl (fun K hK => ?_) AllReadyH.nil
            go_simp
            with_reducible refine HM2.out.mono ?_
            rintro r w' ⟨rfl, rfl⟩
            go_simp
            refine hK.out _ _ rfl (fun _ => ?_)
            clear hK K
            cases m2 with
            | false =>
             refine tk 9 177 (h := ⟨_, tv, ?_⟩)
             simp only [pE, List.set]
             refine tk 10 178 (h := ⟨_, tv, ?_⟩)
             simp only [pE, List.set]
             refine tu 11 179 (h := ?_)
             simp only [pE, List.set]
             refine tu 12 180 (h := ?_)
             simp only [pE, List.set]
             refine tu 13 181 (h := ?_)
             simp only [pE, List.set]
             refine tu 14 182 (h := ?_)
             simp only [pE, List.set]
             refine tu 15 183 (h := ?_)
             simp only [pE, List.set]
             refine tu 16 184 (h := ?_)
             simp only [pE, List.set]
             refine tu 17 185 (h := ?_)
             simp only [pE, List.set]
             refine tu 18 186 (h := ?_)
             simp only [pE, List.set]
             refine tu 19 187 (h := ?_)
             simp only [pE, List.set]
             refine tk 20 188 (h := ⟨_, tv, ?_⟩)
             simp only [pE, List.set]
             refine wpAnyH_done (by kernel_rfl) ?_ _
             have HNO := Lib.hid (show Wi mk ((u : Int), (v : Int), z) → dAt dl3 b ≤ addR cc z from fun h => by have := h.2; simp only [Int.toNat_natCast] at this; rw [← HE2.out] at this; cases this)
             have HRN := Lib.hid (fun h => BfR.nx (y := ((u : Int), (v : Int), z)) hok (HBR.out h) HB1.out HD0.out HB3.out HY.out HZ0.out (by rw [HCD.out]; exact HBB.out) (by rw [HCD.out]; exact HNO.out))
             have HW6 := Lib.hid (HW5.out.below (Below.refl _ _).drew)
             clear a0 a1 a2 d0 df HM1 HM2
             go_wp2_with fail
             go_roundw
             case rel => exact ⟨kk + 1, dl3, _, more3, by omega, by go_num, rfl, rfl, HW6.out, HBI.out, HBS.out, HLE3.out, HLT3.out, HRN.out⟩
             case measure => simp [intOf]; omega
            | true =>
             refine tk 9 177 (h := ⟨_, tv, ?_⟩)
             simp only [pE, List.set]
             refine tk 10 178 (h := ⟨_, tv, ?_⟩)
             simp only [pE, List.set]
             refine tk 11 179 (h := ⟨_, tv, ?_⟩)
             simp only [pE, List.set]
             refine tk 12 180 (h := ⟨_, tv, ?_⟩)
             simp only [pE, List.set]
             refine tk 13 181 (h := ⟨_, tv, ?_⟩)
             simp only [pE, List.set]
             refine tk 15 183 (h := ⟨_, tv, ?_⟩)
             simp only [pE, List.set]
             refine tk 16 184 (h := ⟨_, tv, ?_⟩)
             simp only [pE, List.set]
             refine tk 17 185 (h := ⟨_, tv, ?_⟩)
             simp only [pE, List.set]
             refine tk 18 186 (h := ⟨_, tv, ?_⟩)
             simp only [pE, List.set]
             refine wpAnyH_ready (rs := [14]) (by kernel_rfl) (by simp) ?_
             refine AllReadyH.cons (o := _) rfl (fun K hK => ?_) AllReadyH.nil
             go_simp
             with_reducible refine (HAZ.out _).mono ?_
             rintro r w' ⟨rfl, rfl⟩
             go_simp
             refine hK.out _ _ rfl (fun _ => ?_)
             clear hK K
             refine tk 19 187 (h := ⟨_, tv, ?_⟩)
             simp only [pE, List.set]
             refine tk 20 188 (h := ⟨_, tv, ?_⟩)
             simp only [pE, List.set]
             refine wpAnyH_done (by kernel_rfl) ?_ _
             by_cases hls : addR cc z < db
             rotate_left
             · have HNO := Lib.hid (show Wi mk ((u : Int), (v : Int), z) → dAt dl3 b ≤ addR cc z from fun _ => by rw [dAt_get HDB.out]; omega)
               have HRN := Lib.hid (fun h => BfR.nx (y := ((u : Int), (v : Int), z)) hok (HBR.out h) HB1.out HD0.out HB3.out HY.out HZ0.out (by rw [HCD.out]; exact HBB.out) (by rw [HCD.out]; exact HNO.out))
               have HW6 := Lib.hid (HW5.out.below (Below.refl _ _).drew)
               clear a0 a1 a2 d0 df HM1 HM2
               go_wp2_with fail
               go_roundw
               case rel => exact ⟨kk + 1, dl3, _, more3, by omega, by go_num, rfl, rfl, HW6.out, HBI.out, HBS.out, HLE3.out, HLT3.out, HRN.out⟩
               case measure => simp [intOf]; omega
             · have HWI := Lib.hid (show Wi mk ((u : Int), (v : Int), z) from ⟨by simp only [Int.toNat_natCast]; exact HE1.out.symm, by simp only [Int.toNat_natCast]; exact HE2.out.symm⟩)
               have hnd := HBI.out.nd (b := b) (y := ((u : Int), (v : Int), z)) hok HDI.out HB3.out HY.out HZ0.out HWI.out
               rw [HCD.out, dAt_get HDB.out] at hnd
               have HND := Lib.hid (hnd hls)
               have HSU := Lib.hid (sumN_set dl3 b (addR cc z) db HDB.out HND.out.2 hls)
               have HDS := Lib.hid (show ∀ q, dAt (dl3.set b (addR cc z)) q ≤ dAt dl3 q from fun q => by
                rw [dAt_set (List.getElem?_eq_some_iff.1 HDB.out).1]
                split
                · rename_i e; rw [← e, dAt_get HDB.out]; omega
                · exact Int.le_refl _)
               have HSN := Lib.hid (HBS.out.less HDS.out (Int.le_refl _))
               have HW6 := Lib.hid ((HW5.out.below (Below.refl _ _).drew).set b (addR cc z))
               clear hnd
               go_wp2_with fail
               with_reducible refine (HAZ.out _).mono ?_
               rintro r w' ⟨rfl, rfl⟩
               go_wp2_with fail
               go_roundw
               case rel => exact ⟨kk + 1, _, _, true, by omega, by go_num, rfl, rfl, HW6.out, HND.out.1, HSN.out, by have := HSU.out; have := HLE3.out; omega, fun _ => by have := HSU.out; have := HLE3.out; omega, fun h => by cases h⟩
               case measure => simp [intOf]; omega
end Go.Proofs.YtgkeolddpielpaaGreat
