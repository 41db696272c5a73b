/- Parts of the proof: QChP, QSe, NeS, Si, QMkO. -/
import Derived.Test.YtpffhoefmcpniaaGreatDoorW1
import Derived.Test.YtpffhoefmcpniaaGreatDoorW3
import Derived.Test.YtpffhoefmcpniaaGreatDoorW19
import Derived.Test.YtpffhoefmcpniaaGreatDoorW22
import Derived.Test.YtpffhoefmcpniaaGreatDoorW23
import Derived.Test.YtpffhoefmcpniaaGreatDoorW24
import Derived.Test.YtpffhoefmcpniaaGreatDoorW29
import Derived.Test.YtpffhoefmcpniaaGreatDoorW44
import Derived.Test.YtpffhoefmcpniaaGreatDoorW47
/- Changed nets; the number of an entry, one by one: plain. -/
namespace Go.Proofs.YtpffhoefmcpniaaGreatDoor
open Go.RowKit

theorem idx_congrZ (f : Tri → Int) (v : Int) : ∀ (l m : List Tri) (k : Nat), l.map f = m.map f → ((l.zipIdx k).filter (fun p => f p.1 == v)).map (fun p => (p.2 : Int)) = ((m.zipIdx k).filter (fun p => f p.1 == v)).map (fun p => (p.2 : Int))
  | [], [], _, _ => rfl
  | [], _ :: _, _, h => by simp at h
  | _ :: _, [], _, h => by simp at h
  | a :: l, b :: m, k, h => by
    simp only [List.map_cons, List.cons.injEq] at h
    have ih := idx_congrZ f v l m (k + 1) h.2
    simp only [List.zipIdx_cons, List.filter_cons, h.1]
    split
    · simp only [List.map_cons, ih]
    · exact ih
theorem idx_congr {f : Tri → Int} {l m : List Tri} (h : l.map f = m.map f) (v : Int) : idx f l v = idx f m v := idx_congrZ f v l m 0 h
theorem idxs_congr {f : Tri → Int} {l m : List Tri} (h : l.map f = m.map f) (n : Nat) : idxs f l n = idxs f m n := by
  unfold idxs
  simp only [idx_congr h]
/-- Rows of arcs that go alike. -/
def Alike (l m : List Tri) : Prop := l.map (·.1) = m.map (·.1) ∧ l.map (·.2.1) = m.map (·.2.1)
theorem Alike.len {l m : List Tri} (h : Alike l m) : l.length = m.length := by
  have := congrArg List.length h.1
  simpa using this
theorem Alike.take {l m : List Tri} (h : Alike l m) (k : Nat) : Alike (l.take k) (m.take k) := ⟨by rw [List.map_take, List.map_take, h.1], by rw [List.map_take, List.map_take, h.2]⟩
theorem Alike.get {l m : List Tri} (h : Alike l m) {i : Nat} {a : Tri} (ha : l[i]? = some a) : ∃ b, m[i]? = some b ∧ b.1 = a.1 ∧ b.2.1 = a.2.1 := by
  have hi := (List.getElem?_eq_some_iff.1 ha).1
  have him : i < m.length := by rw [← h.len]; exact hi
  have hm : m[i]? = some m[i] := List.getElem?_eq_getElem him
  have e1 := congrArg (·[i]?) h.1
  have e2 := congrArg (·[i]?) h.2
  simp only [List.getElem?_map, ha, hm, Option.map_some, Option.some.injEq] at e1 e2
  exact ⟨_, hm, e1.symm, e2.symm⟩
theorem Alike.symm {l m : List Tri} (h : Alike l m) : Alike m l := ⟨h.1.symm, h.2.symm⟩
theorem alike_set {l : List Tri} {a : Nat} {x y z : Int} (h : l[a]? = some (x, y, z)) (u : Int) : Alike (l.set a (x, y, u)) l := by
  have hl := (List.getElem?_eq_some_iff.1 h).1
  refine ⟨?_, ?_⟩ <;>
  · apply List.ext_getElem?
    intro i
    simp only [List.getElem?_map]
    by_cases e : a = i
    · subst e
      rw [List.getElem?_set_self hl, h]
      rfl
    · rw [List.getElem?_set_ne e]
theorem plcs_congr {l m : List Tri} (h : Alike l m) : plcs l = plcs m := by
  apply List.ext_getElem?
  intro i
  rcases Nat.lt_or_ge i l.length with hi | hi
  · have ha : l[i]? = some l[i] := List.getElem?_eq_getElem hi
    obtain ⟨b, hb, e1, e2⟩ := h.get ha
    rw [plcs_get ha, plcs_get hb]
    unfold plcOf
    rw [idx_congr (h.take i).2, idx_congr (h.take i).1, e1, e2]
  · rw [List.getElem?_eq_none (by rw [plcs_len]; exact hi), List.getElem?_eq_none (by rw [plcs_len, ← h.len]; exact hi)]
theorem cnt_congr {f : Tri → Int} {l m : List Tri} (h : l.map f = m.map f) (v : Int) : l.countP (fun a => f a == v) = m.countP (fun a => f a == v) := by
  rw [← idx_len, ← idx_len, idx_congr h]
/-- A net of which arc a, that goes from x to y, costs u. -/
def NetD.setW (N : NetD) (a : Nat) (x y u : Int) : NetD := ⟨N.vs, N.ar.set a (x, y, u), N.ts⟩
/-- A net of which table p is t. -/
def NetD.bend (N : NetD) (p : Nat) (t : TabD) : NetD := ⟨N.vs, N.ar, N.ts.set p t⟩
/-- A table of which one turn costs c. -/
def TabD.turn (t : TabD) (i : Nat) (c : Int) : TabD := ⟨t.ins, t.outs, t.costs.set i c⟩
theorem NetOk.setW {N : NetD} (h : NetOk N) {a : Nat} {x y z u : Int} (ha : N.ar[a]? = some (x, y, z)) (hu : wOk u = true) : NetOk (N.setW a x y u) where
  lv := h.lv
  la := by show (N.ar.set a (x, y, u)).length ≤ _; rw [List.length_set]; exact h.la
  lt := h.lt
  tabs := h.tabs
  verts := h.verts
  arcs := fun t ht => by
    rcases List.mem_or_eq_of_mem_set ht with ht | rfl
    · exact h.arcs t ht
    · have := h.arcs _ (List.mem_of_getElem? ha)
      exact ⟨this.f0, this.f1, this.g0, this.g1, hu⟩
  meet := fun i v t hv ht => by
    have h1 := h.meet i v t hv ht
    have hA := alike_set ha u
    unfold cntTo cntFr at *
    show ((List.countP _ (N.ar.set a (x, y, u)) : Nat) : Int) = _ ∧ ((List.countP _ (N.ar.set a (x, y, u)) : Nat) : Int) = _
    rw [cnt_congr hA.2, cnt_congr hA.1]
    exact h1
theorem TabOk.turn {t : TabD} (h : TabOk t) {i : Nat} {c : Int} (hc : wOk c = true) : TabOk (t.turn i c) where
  i0 := h.i0
  i16 := h.i16
  o0 := h.o0
  o16 := h.o16
  len := by show ((t.costs.set i c).length : Int) = _; rw [List.length_set]; exact h.len
  ok := fun d hd => by
    rcases List.mem_or_eq_of_mem_set hd with hd | rfl
    · exact h.ok d hd
    · exact hc
theorem NetOk.bend {N : NetD} (h : NetOk N) {p : Nat} {t : TabD} (ht : N.ts[p]? = some t) {i : Nat} {c : Int} (hc : wOk c = true) : NetOk (N.bend p (t.turn i c)) where
  lv := h.lv
  la := h.la
  lt := by show (N.ts.set p _).length ≤ _; rw [List.length_set]; exact h.lt
  tabs := fun s hs => by
    rcases List.mem_or_eq_of_mem_set hs with hs | rfl
    · exact h.tabs s hs
    · exact (h.tabs t (List.mem_of_getElem? ht)).turn hc
  verts := fun v hv => by
    have := h.verts v hv
    have hl : (N.ts.set p (t.turn i c)).length = N.ts.length := List.length_set ..
    exact ⟨this.x, this.y, this.t0, by show v.2.2 < ((N.ts.set p (t.turn i c)).length : Int); rw [hl]; exact this.t1⟩
  arcs := h.arcs
  meet := fun j v s hv hs => by
    have hs : (N.ts.set p (t.turn i c))[v.2.2.toNat]? = some s := hs
    by_cases e : p = v.2.2.toNat
    · rw [e, List.getElem?_set_self (by rw [← e]; exact (List.getElem?_eq_some_iff.1 ht).1)] at hs
      cases hs
      exact h.meet j v t hv (by rw [← e]; exact ht)
    · rw [List.getElem?_set_ne e] at hs
      exact h.meet j v s hv hs
theorem FewOk.setW {N : NetD} (h : FewOk N) (a : Nat) (x y u : Int) : FewOk (N.setW a x y u) :=
  ⟨h.v, by show (N.ar.set a (x, y, u)).length ≤ _; rw [List.length_set]; exact h.a, h.t, h.c⟩
theorem FewOk.bend {N : NetD} (h : FewOk N) {p : Nat} {t : TabD} (ht : N.ts[p]? = some t) (i : Nat) (c : Int) : FewOk (N.bend p (t.turn i c)) :=
  ⟨h.v, h.a, by show (N.ts.set p _).length ≤ _; rw [List.length_set]; exact h.t, fun s hs => by
    rcases List.mem_or_eq_of_mem_set hs with hs | rfl
    · exact h.c s hs
    · show (t.costs.set i c).length ≤ _
      rw [List.length_set]
      exact h.c t (List.mem_of_getElem? ht)⟩
theorem setW_same {N : NetD} {a : Nat} {x y z : Int} (h : N.ar[a]? = some (x, y, z)) (u : Int) : (N.setW a x y u).vs = N.vs ∧ Alike (N.setW a x y u).ar N.ar := ⟨rfl, alike_set h u⟩

/-! the number of an entry, one by one -/
end Go.Proofs.YtpffhoefmcpniaaGreatDoor

/- graph.Set: a weight that is set. -/
namespace Go.Proofs.YtpffhoefmcpniaaGreatDoor
open Go.RowKit

attribute [local go_sem ↓] Go.wp_at_zero Go.wp_at_succ

/-! a weight that is set -/
theorem Rd3.setW {W : World} {b o m a : Nat} {x y z u : Int} {l : List Tri} (h : Rd3 W (some ⟨b, o, none⟩) m l) (ha : l[a]? = some (x, y, z)) :
    Rd3 (W.setCell ⟨b, o + a * 3 + 2, none⟩ (.int .i64 u)) (some ⟨b, o, none⟩) m (l.set a (x, y, u)) := by
  refine ⟨by rw [List.length_set]; exact h.1, fun i p hp => ?_⟩
  by_cases e : a = i
  · subst e
    rw [List.getElem?_set_self (List.getElem?_eq_some_iff.1 ha).1] at hp
    cases hp
    obtain ⟨b', o', e', h1, h2, h3⟩ := h.2 a _ ha
    cases e'
    refine ⟨b, o, rfl, ?_, ?_, World.cell?_setCell_same _ _ _ h3⟩
    · rw [World.cell?_setCell_other _ _ _ _ (by intro h; simp only [Addr.mk.injEq] at h; omega)]; exact h1
    · rw [World.cell?_setCell_other _ _ _ _ (by intro h; simp only [Addr.mk.injEq] at h; omega)]; exact h2
  · rw [List.getElem?_set_ne e] at hp
    obtain ⟨b', o', e', h1, h2, h3⟩ := h.2 i _ hp
    cases e'
    refine ⟨b, o, rfl, ?_, ?_, ?_⟩
    · rw [World.cell?_setCell_other _ _ _ _ (by intro h; simp only [Addr.mk.injEq] at h; omega)]; exact h1
    · rw [World.cell?_setCell_other _ _ _ _ (by intro h; simp only [Addr.mk.injEq] at h; omega)]; exact h2
    · rw [World.cell?_setCell_other _ _ _ _ (by intro h; simp only [Addr.mk.injEq] at h; omega)]; exact h3
theorem Warm.set {W : World} {A : Option Addr} (h : Warm W A) (p : Addr) (v : Value) : Warm (W.setCell p v) A := fun b hb =>
  ⟨Nat.lt_of_lt_of_le (h b hb).1 (by simp [World.setCell]), fun o => by rw [World.frozen?_setCell]; exact (h b hb).2 o⟩
theorem GrR.setW {W : World} {F G : Nat → Prop} {g b o : Nat} {A C I O P : Option Addr} {n m k c d e ci co cp : Nat} {N : NetD} {a : Nat} {x y z u : Int}
    (h : GrR W F G g A (some ⟨b, o, none⟩) C I O P n m k c d e ci co cp N) (ha : N.ar[a]? = some (x, y, z)) (hu : wOk u = true) :
    GrR (W.setCell ⟨b, o + a * 3 + 2, none⟩ (.int .i64 u)) F G g A (some ⟨b, o, none⟩) C I O P n m k c d e ci co cp (N.setW a x y u) := by
  have hk : Kept G W (W.setCell ⟨b, o + a * 3 + 2, none⟩ (.int .i64 u)) := Kept.set W b _ _ (h.net.ga b rfl)
  have hA := alike_set ha u
  have hz : (W.setCell ⟨b, o + a * 3 + 2, none⟩ (.int .i64 u)).heap.size = W.heap.size := by simp [World.setCell]
  refine ⟨⟨h.net.vs.le hk.msk, h.net.ar.setW ha, h.net.ts.le (fun c' o' v hc' hc => ?_) hk.msk, h.net.wa.set _ _, h.net.wt.set _ _, h.net.ga, h.net.gt, h.net.ac⟩, (hk g h.gg h.blk.lt).trans h.blk, h.gg, ?_, ?_, ?_, h.sub, fun b' hb' => by rw [hz]; exact h.lt b' hb', h.ok.setW ha hu, h.c0, h.c1, h.c2⟩
  · have : b ≠ c' := fun e => h.net.ac b rfl (by rw [e]; exact hc')
    rw [World.cell?_setCell_other _ _ _ _ (by intro h; simp only [Addr.mk.injEq] at h; omega)]; exact hc
  · show RdT _ I n (idxs (·.2.1) (N.ar.set a (x, y, u)) n)
    rw [idxs_congr hA.2]
    exact h.ins.le hk.msk
  · show RdT _ O n (idxs (·.1) (N.ar.set a (x, y, u)) n)
    rw [idxs_congr hA.1]
    exact h.outs.le hk.msk
  · show RdP _ P m (plcs (N.ar.set a (x, y, u)))
    rw [plcs_congr hA]
    exact h.plc.le hk.msk
theorem below_set {B : Nat} {W : World} {p : Addr} (h : B ≤ p.block) (v : Value) : Below B W (W.setCell p v) := (Below.refl _ _).setCell h v

set_option maxHeartbeats 1000000 in
theorem gSet_ok (g a : Nat) (x y z u : Int) (N : NetD) (F : Nat → Prop) (w : World) (h : GrO w F g N) (ha : N.ar[a]? = some (x, y, z)) (hu : wOk u = true) :
    Calls Tryz.prog 26 #[.pointer (some ⟨g, 0, none⟩), .int .i64 a, .int .i64 u] w fun e w' => e = .returned .nilIface ∧ GrO w' F g (N.setW a x y u) ∧ Kept (fun b => ¬ F b) w w' ∧ w.heap.size ≤ w'.heap.size ∧ ∀ B, (∀ b, F b → B ≤ b) → Below B w w' := by
  have hla := (List.getElem?_eq_some_iff.1 ha).1
  have HA := Lib.hid (gArc_ok g N a w h.rd (by omega) (by omega))
  have HW := Lib.hid (show ∀ V, Calls Tryz.prog 48 #[.int .i64 u] V fun e w' => e = .returned (.bool true) ∧ V = w' from fun V => by
    have := costWeight_any u V
    rw [hu] at this
    exact this)
  obtain ⟨G, A, B, C, I, O, P, n, m, k, c, d, e, ci, co, cp, hR⟩ := h
  have hlm : a < m := by rw [hR.net.ar.1] at hla; exact hla
  obtain ⟨b, o, eB, c0, c1, c2⟩ := hR.net.ar.2 a _ ha
  subst eB
  have n1 : w.cell? ⟨g, 1, none⟩ = some (.slice (some ⟨b, o, none⟩) m d) := by rw [hR.blk.cell]; rfl
  have HN := Lib.hid (hR.setW ha hu)
  have hf := (hR.net.wa b rfl).2 (o + a * 3 + 2)
  have HF := Lib.hid (hR.sub b (.inr (.inl rfl)))
  have i1 : (0 : Int) ≤ (a : Int) := by omega
  have i2 : (a : Int) < (m : Int) := by omega
  clear hR ha hu hla c0 c1
  go_enter Tryz.func26, Tryz.ntmps26
  go_wp2_with fail
  with_reducible refine HA.out.mono ?_
  rintro r w' ⟨rfl, rfl⟩
  go_wp2_with fail
  with_reducible refine (HW.out _).mono ?_
  rintro r w' ⟨rfl, rfl⟩
  go_wp2_with fail
  go_ret
  refine ⟨rfl, ⟨G, A, _, C, I, O, P, n, m, k, c, d, e, ci, co, cp, HN.out⟩, Kept.set _ _ _ _ (fun hn => hn HF.out), by simp [World.setCell], fun B' hB => below_set (hB b HF.out) _⟩
end Go.Proofs.YtpffhoefmcpniaaGreatDoor

/- NestBounds, NestWhole: plain laws. -/
namespace Go.Proofs.YtpffhoefmcpniaaGreatDoor
open Go.RowKit

theorem bok_two {a b : Nat} (h1 : 1 ≤ a) (h2 : a < b) : BndOk (nats [a, b]) := ⟨by simp [nats], by simp [nats], fun i hi => by
  rcases i with _ | _ | i
  · exact ⟨a, rfl, by omega, fun x h => absurd rfl h⟩
  · exact ⟨b, rfl, by omega, fun x _ h => by
      have h : some (a : Int) = some x := h
      injection h with h
      omega⟩
  · have hi : i + 2 < 2 := hi
    omega⟩
theorem bok_one {a : Nat} (h1 : 1 ≤ a) : BndOk (nats [a]) := ⟨by simp [nats], by simp [nats], fun i hi => by
  rcases i with _ | i
  · exact ⟨a, rfl, by omega, fun x h => absurd rfl h⟩
  · have hi : i + 1 < 1 := hi
    omega⟩
theorem rows_most (N : NetD) (b : Nat) (bs : List Nat) : mostN (rowN N.vs.length (downP N (b :: bs))) = ((downP N (b :: bs)).length : Int) :=
  (rowN_is (downP_cov N b bs)).most (downP_cov N b bs)
theorem rows_mem (N : NetD) (b : Nat) (bs : List Nat) {c : Nat} {p : List Nat} (h : (downP N (b :: bs))[c]? = some p) : memN (rowN N.vs.length (downP N (b :: bs))) (c : Int) N.vs.length = p :=
  (rowN_is (downP_cov N b bs)).mem (downP_cov N b bs) h
theorem down_le (N : NetD) (b : Nat) (bs : List Nat) : (downP N (b :: bs)).length ≤ N.vs.length := (downP_cov N b bs).len
theorem rown_len (N : NetD) (b : Nat) (bs : List Nat) : (rowN N.vs.length (downP N (b :: bs))).length = N.vs.length := (rowN_is (downP_cov N b bs)).len
/-- Of two bounds: a piece of a cell of level 2 is the cell of level 1 that is next. -/
theorem bnd_next (N : NetD) {lo hi c i : Nat} {p q : List Nat} (hp : (downP N [hi])[c]? = some p) (hq : (pcs N lo p)[i]? = some q) : (downP N [lo, hi])[(nxt N lo ((downP N [hi]).take c)).length + i]? = some q := nxt_get hp hq
theorem bnd_take (N : NetD) {lo hi c : Nat} {p : List Nat} (hp : (downP N [hi])[c]? = some p) : (nxt N lo ((downP N [hi]).take (c + 1))).length = (nxt N lo ((downP N [hi]).take c)).length + (pcs N lo p).length := by
  rw [nxt_take hp, List.length_append]
theorem bnd_all (N : NetD) (lo hi : Nat) : (nxt N lo ((downP N [hi]).take (downP N [hi]).length)).length = (downP N [lo, hi]).length := by
  rw [List.take_length]
  rfl
theorem bnd_room (N : NetD) {lo hi c : Nat} {p : List Nat} (hp : (downP N [hi])[c]? = some p) : (nxt N lo ((downP N [hi]).take c)).length + (pcs N lo p).length ≤ N.vs.length := by
  rw [← bnd_take N hp]
  have h1 := down_le N lo [hi]
  have h2 : (downP N [lo, hi]) = nxt N lo ((downP N [hi]).take (c + 1)) ++ nxt N lo ((downP N [hi]).drop (c + 1)) := by
    rw [← nxt_app, List.take_append_drop]
    rfl
  rw [h2, List.length_append] at h1
  omega
theorem bnd_piece (N : NetD) {hi : Nat} (h1 : 1 ≤ hi) {c : Nat} {p : List Nat} (hp : (downP N [hi])[c]? = some p) : p.length ≤ hi ∧ p.length ≠ 0 ∧ PcOk N.vs.length p := by
  have hm := List.mem_of_getElem? hp
  have hc := downP_cov N hi []
  refine ⟨nxt_le (ps := downP N []) N h1 p hm, fun e => (hc.ok p hm).2 (List.eq_nil_of_length_eq_zero e), (hc.ok p hm).1⟩
theorem vok_of {n : Nat} {p : List Nat} (h : PcOk n p) : VrtOk n (nats p) := by
  intro i hi
  have hi' : i < p.length := by simpa [nats] using hi
  have e : (nats p)[i]? = some ((p[i] : Nat) : Int) := by simp [nats, hi']
  refine ⟨_, e, by omega, by have := h.2 p[i] (List.getElem_mem hi'); omega, fun a h0 ha => ?_⟩
  have h1 : i - 1 < p.length := by omega
  have e2 : (nats p)[i - 1]? = some ((p[i - 1] : Nat) : Int) := by simp [nats, h1]
  rw [e2] at ha
  injection ha with ha
  have := List.pairwise_iff_getElem.1 h.1 (i - 1) i h1 hi' (by omega)
  omega
/-- A bound of all, and 1. -/
def whB (n : Nat) : List Nat := if n = 1 then [1] else [1, n]
theorem down_all (N : NetD) {n : Nat} (hn : n = N.vs.length) (h1 : 1 ≤ n) : downP N [n] = [List.range n] := by
  subst hn
  show nxt N _ (allV _) = _
  unfold allV
  rw [nxt_one, pcs_one N (by rw [List.length_range]; omega) (.inl (by rw [List.length_range]; exact Nat.le_refl _))]
theorem wh_down (N : NetD) {n : Nat} (hn : n = N.vs.length) (h1 : 1 ≤ n) : downP N (whB n) = pcs N 1 (List.range n) := by
  unfold whB
  split
  · rename_i e
    subst e
    show nxt N 1 (allV _) = _
    unfold allV
    rw [nxt_one, ← hn]
  · show nxt N 1 (downP N [n]) = _
    rw [down_all N hn h1, nxt_one]
theorem wh_one (N : NetD) {n : Nat} : (pcs N 1 (List.range n)).length = n := by
  have := pcs_ones N (range_ok n)
  simpa using this
theorem wh_r0 (N : NetD) {n : Nat} (hn : n = N.vs.length) (h1 : 1 ≤ n) : (rowsN N (whB n))[0]? = some (rowN n (pcs N 1 (List.range n))) := by
  have h0 : 0 < (whB n).length := by unfold whB; split <;> simp
  rw [rowsN_get N _ 0 h0, List.drop_zero, wh_down N hn h1, ← hn]
theorem wh_last (N : NetD) {n : Nat} (hn : n = N.vs.length) (h1 : 1 ≤ n) : (rowsN N (whB n))[(whB n).length - 1]? = some (rowN n [List.range n]) := by
  by_cases e : n = 1
  · have hd := down_all N hn h1
    subst e
    show (rowsN N [1])[0]? = _
    rw [rowsN_get N _ 0 (by simp), List.drop_zero, hd, ← hn]
  · have hw : whB n = [1, n] := by unfold whB; rw [if_neg e]
    rw [hw]
    show (rowsN N [1, n])[1]? = _
    rw [rowsN_get N _ 1 (by simp), ← hn]
    show some (rowN n (downP N [n])) = _
    rw [down_all N hn h1]
theorem one_cov {n : Nat} (h1 : 1 ≤ n) : Cov n [List.range n] := ⟨by simp, fun p hp => by
  rw [List.mem_singleton.1 hp]
  exact ⟨range_ok n, fun e => by have := congrArg List.length e; simp at this; omega⟩⟩
theorem one_most {n : Nat} (h1 : 1 ≤ n) : mostN (rowN n [List.range n]) = 1 := (rowN_is (one_cov h1)).most (one_cov h1)
theorem one_mem {n : Nat} (h1 : 1 ≤ n) : memN (rowN n [List.range n]) 0 n = List.range n := (rowN_is (one_cov h1)).mem (one_cov h1) (k := 0) rfl
theorem pc1_cov (N : NetD) {n : Nat} : Cov n (pcs N 1 (List.range n)) := by
  have := nxt_cov (N := N) (bd := 1) (ps := [List.range n]) (n := n) (by simp) (fun p hp => by rw [List.mem_singleton.1 hp]; exact range_ok n)
  rw [nxt_one] at this
  exact this
theorem pc1_mem (N : NetD) {n k : Nat} {p : List Nat} (h : (pcs N 1 (List.range n))[k]? = some p) : memN (rowN n (pcs N 1 (List.range n))) (k : Int) n = p := (rowN_is (pc1_cov N)).mem (pc1_cov N) h
theorem pc1_most (N : NetD) {n : Nat} : mostN (rowN n (pcs N 1 (List.range n))) = ((pcs N 1 (List.range n)).length : Int) := (rowN_is (pc1_cov N)).most (pc1_cov N)
theorem SameW.nxt {N M : NetD} (h : SameW N M) (bd : Nat) (ps : List (List Nat)) : nxt M bd ps = nxt N bd ps := by
  unfold Go.Proofs.YtpffhoefmcpniaaGreatDoor.nxt
  have : Go.Proofs.YtpffhoefmcpniaaGreatDoor.pcs M bd = Go.Proofs.YtpffhoefmcpniaaGreatDoor.pcs N bd := funext (h.pcs bd)
  rw [this]
theorem SameW.down {N M : NetD} (h : SameW N M) : ∀ bs, downP M bs = downP N bs
  | [] => by show allV _ = allV _; rw [h.vs]
  | b :: bs => by show Go.Proofs.YtpffhoefmcpniaaGreatDoor.nxt M b (downP M bs) = Go.Proofs.YtpffhoefmcpniaaGreatDoor.nxt N b (downP N bs); rw [h.down bs, h.nxt]
theorem SameW.rows {N M : NetD} (h : SameW N M) : ∀ bs, rowsN M bs = rowsN N bs
  | [] => rfl
  | b :: bs => by
    show rowN _ (downP M (b :: bs)) :: rowsN M bs = rowN _ (downP N (b :: bs)) :: rowsN N bs
    rw [h.down, h.rows bs, h.vs]
theorem SameW.refl (N : NetD) : SameW N N := ⟨rfl, rfl⟩
theorem SameW.set {N M : NetD} (h : SameW N M) {a : Nat} {x y z : Int} (u : Int) (ha : M.ar[a]? = some (x, y, z)) : SameW N (M.setW a x y u) := by
  refine ⟨h.vs, ?_⟩
  rw [← h.ends]
  show (M.ar.set a (x, y, u)).map _ = _
  apply List.ext_getElem?
  intro i
  simp only [List.getElem?_map, List.getElem?_set]
  obtain ⟨h1, e1⟩ := List.getElem?_eq_some_iff.1 ha
  by_cases e : a = i
  · subst e
    simp [h1, e1]
  · simp [e]
end Go.Proofs.YtpffhoefmcpniaaGreatDoor

/- SameInts, law16.Is. -/
namespace Go.Proofs.YtpffhoefmcpniaaGreatDoor
open Go.RowKit

attribute [local go_sem ↓] Go.wp_at_zero Go.wp_at_succ

set_option maxHeartbeats 1000000 in
theorem sameInts_any (A B : Option Addr) (n m c d : Nat) (l l2 : List Int) (w : World) (h : RdI w A n l) (h2 : RdI w B m l2) (hn : n ≤ 1000000000) (hm : m ≤ 1000000000) :
    Calls Tryz.prog 24 #[.slice A n c, .slice B m d] w fun e w' => e = .returned (.bool (decide (l = l2))) ∧ ∃ k, w' = w.drewN k := by
  have HR := Lib.hid h
  have HR2 := Lib.hid h2
  have HL := Lib.hid h.1
  have HL2 := Lib.hid h2.1
  clear h h2
  by_cases hnm : n = m
  rotate_left
  · have e1 : ((n : Int) != (m : Int)) = true := by simp; omega
    have e2 : ((n : Int) == (m : Int)) = false := by simp; omega
    have HD := Lib.hid (show decide (l = l2) = false from decide_eq_false (fun e => hnm (by rw [← HL.out, ← HL2.out, e])))
    go_enter Tryz.func24, Tryz.ntmps24
    go_wp2_with fail
    go_ret
    exact ⟨ret_bool HD.out.symm, 0, rfl⟩
  subst hnm
  go_enter Tryz.func24, Tryz.ntmps24
  go_wp2_with fail
  go_loopw [5] (fun q W => (∃ k, W = w.drewN k) ∧ ∃ i : Nat, i ≤ n ∧ q = .int .i64 i ∧ ∀ j, j < i → l[j]? = l2[j]?) (fun q _ => n - (intOf q).toNat)
  case atStart => exact ⟨⟨0, rfl⟩, 0, Nat.zero_le _, rfl, fun _ h => absurd h (Nat.not_lt_zero _)⟩
  case round =>
    obtain ⟨hd, i, hi, rfl, hall⟩ := hrel
    have HD := Lib.hid hd
    have HA := Lib.hid hall
    clear hall
    by_cases hlt : i < n
    · obtain ⟨b, o, x, rfl, hx, hc⟩ := HR.out.at_ hlt
      obtain ⟨b', o', y, rfl, hy, hc'⟩ := HR2.out.at_ hlt
      have hc1 : wr.cell? ⟨b, o + i, none⟩ = some (.int .i64 x) := by obtain ⟨k, rfl⟩ := hd; exact hc
      have hc2 : wr.cell? ⟨b', o' + i, none⟩ = some (.int .i64 y) := by obtain ⟨k, rfl⟩ := hd; exact hc'
      have HX := Lib.hid hx
      have HY := Lib.hid hy
      have i1 : (0 : Int) ≤ (i : Int) := by omega
      have i2 : (i : Int) < (n : Int) := by omega
      clear hx hy hc hc' hd
      by_cases e : x = y
      · subst e
        go_wp2_with fail
        go_quiet (fail)
        go_wp2_with fail
        go_roundw
        case rel =>
          obtain ⟨k, e⟩ := HD.out
          refine ⟨⟨k + nq, by rw [e, World.drewN_drewN]⟩, i + 1, by omega, by go_num, fun j hj => ?_⟩
          by_cases ej : j = i
          · subst ej
            rw [HX.out, HY.out]
          · exact HA.out j (by omega)
        case measure => simp [intOf]; omega
      · have e1 : (x != y) = true := by simpa using e
        have e2 : (x == y) = false := by simpa using e
        have HN := Lib.hid (show decide (l = l2) = false from decide_eq_false (fun ee => by
          have := HX.out
          rw [ee, HY.out] at this
          exact e (Option.some.inj this).symm))
        have HE := Lib.hid e
        clear e
        go_wp2_with fail
        go_quiet (fail)
        go_wp2_with fail
        go_ret
        obtain ⟨k, e⟩ := HD.out
        exact ⟨ret_bool HN.out.symm, k + nq, by rw [e, World.drewN_drewN]⟩
    · obtain rfl : n = i := by omega
      have HE := Lib.hid (show decide (l = l2) = true from decide_eq_true (List.ext_getElem? (fun j => by
        rcases Nat.lt_or_ge j n with h | h
        · exact HA.out j h
        · rw [List.getElem?_eq_none (by rw [HL.out]; exact h), List.getElem?_eq_none (by rw [HL2.out]; exact h)])))
      clear hd
      go_wp2_with fail
      go_ret
      exact ⟨ret_bool HE.out.symm, HD.out⟩
end Go.Proofs.YtpffhoefmcpniaaGreatDoor

/- over.New of cells that may not be; (*Over).Part, law13.Of, SamePart. -/
namespace Go.Proofs.YtpffhoefmcpniaaGreatDoor
open Go.RowKit

attribute [local go_sem ↓] Go.wp_at_zero Go.wp_at_succ

theorem partOf_any (Q : Option Addr) (L cq : Nat) (w : World) :
    Calls Tryz.prog 17 #[.agg #[.slice Q L cq]] w fun e w' => e = .returned (.agg #[.slice Q L cq]) ∧ Below w.heap.size w w' := by
  go_enter Tryz.func17, Tryz.ntmps17
  go_wp2
  refine bodyPost_ret (v := .agg #[.slice Q L cq]) (by simp [results, Tryz.results17, go_sem]) rfl ?_
  exact ⟨rfl, bELt⟩
set_option maxHeartbeats 1000000 in
theorem samePart_same (Q R : Option Addr) (L cq cr : Nat) (ls : List (List Int)) (w : World) (h : RdT w Q L ls) (h2 : RdT w R L ls) (hL : L ≤ 1000000) (hc : ∀ l ∈ ls, l.length ≤ 1000000) :
    Calls Tryz.prog 16 #[.agg #[.slice Q L cq], .agg #[.slice R L cr]] w fun e w' => e = .returned (.bool true) ∧ Below w.heap.size w w' := by
  have HT := Lib.hid h
  have HT2 := Lib.hid h2
  have HC := Lib.hid hc
  have e0 : ((L : Int) != (L : Int)) = false := by simp
  clear h h2 hc
  go_enter Tryz.func16, Tryz.ntmps16
  go_wp2_with fail
  (refine wp_named ?_; intro w1 hw1)
  have hb1 : Below w.heap.size w w1 := by rw [hw1]; exact bELt
  have hX : Blk w1 w.heap.size 39 #[.slice Q L cq] := by rw [hw1]; exact bLNt
  have hY : Blk w1 (w.heap.size + 1) 39 #[.slice R L cr] := by rw [hw1]; exact bLNt
  clear hw1
  go_loopw [5] (fun q W => Below w1.heap.size w1 W ∧ ∃ i : Nat, i ≤ L ∧ q = .int .i64 (i : Int)) (fun q _ => L - (intOf q).toNat)
  case atStart => exact ⟨Below.refl _ _, 0, Nat.zero_le _, rfl⟩
  case round =>
    obtain ⟨hbl, i, hi, rfl⟩ := hrel
    have hXr := hX.below hbl hX.lt
    have hYr := hY.below hbl hY.lt
    have x0 := hXr.cell 0
    have y0 := hYr.cell 0
    simp only [List.getElem?_toArray, List.getElem?_cons_zero] at x0 y0
    have hbw := Bel.step hb1 hbl
    by_cases hlt : i < L
    · obtain ⟨b, o, A, n, c, l, rfl, hl, hcl, hr, _, _⟩ := (HT.out.below hbw).at_ hlt
      obtain ⟨b2, o2, A2, n2, c2, l2, rfl, hl2, hcl2, hr2, _, _⟩ := (HT2.out.below hbw).at_ hlt
      rw [hl] at hl2
      cases hl2
      have hnn : n2 = n := by rw [← hr.1, ← hr2.1]
      subst hnn
      have hn2 : n2 ≤ 1000000000 := by have := HC.out l (List.mem_of_getElem? hl); have := hr.1; omega
      have HSI := Lib.hid (show ∀ V, Below wr.heap.size wr V → Calls Tryz.prog 24 #[.slice A n2 c, .slice A2 n2 c2] V fun e w' => e = .returned (.bool true) ∧ ∃ k, w' = V.drewN k from fun V hV => (sameInts_any A A2 n2 n2 c c2 l l V (hr.below hV) (hr2.below hV) hn2 hn2).mono (fun e w' h => ⟨by rw [h.1, decide_eq_true rfl], h.2⟩))
      have i1 : (0 : Int) ≤ (i : Int) := by omega
      have i2 : (i : Int) < (L : Int) := by omega
      clear hr hr2 hl
      go_wp2_with fail
      go_quiet ((go_at_call 24; exact quiet_draws (HSI.out _ bELt)))
      go_wp2_with fail
      go_roundw
      case rel => exact ⟨below_drewN hbl _, i + 1, by omega, by go_num⟩
      case measure => simp [intOf]; omega
    · obtain rfl : L = i := by omega
      go_wp2_with fail
      go_ret
      exact ⟨rfl, hbw⟩
end Go.Proofs.YtpffhoefmcpniaaGreatDoor
