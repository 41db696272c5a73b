/- Parts of the proof: ChP, Ch1, MkC. -/
import Derived.Test.YtgkeolddpielpaaGreatDoorM13
/- Changed nets; the number of an entry, one by one: plain. -/
namespace Go.Proofs.YtgkeolddpielpaaGreatDoor
open Go.RowKit

theorem idx_congrZ (f : Tri → Int) (v : Int) : ∀ (l m : List Tri) (k : Nat), l.map f = m.map f → ((l.zipIdx k).filter (fun p => f p.1 == v)).map (fun p => (p.2 : Int)) = ((m.zipIdx k).filter (fun p => f p.1 == v)).map (fun p => (p.2 : Int))
  | [], [], _, _ => rfl
  | [], _ :: _, _, h => by simp at h
  | _ :: _, [], _, h => by simp at h
  | a :: l, b :: m, k, h => by
    simp only [List.map_cons, List.cons.injEq] at h
    have ih := idx_congrZ f v l m (k + 1) h.2
    simp only [List.zipIdx_cons, List.filter_cons, h.1]
    split
    · simp only [List.map_cons, ih]
    · exact ih
theorem idx_congr {f : Tri → Int} {l m : List Tri} (h : l.map f = m.map f) (v : Int) : idx f l v = idx f m v := idx_congrZ f v l m 0 h
theorem idxs_congr {f : Tri → Int} {l m : List Tri} (h : l.map f = m.map f) (n : Nat) : idxs f l n = idxs f m n := by
  unfold idxs
  simp only [idx_congr h]
/-- Rows of arcs that go alike. -/
def Alike (l m : List Tri) : Prop := l.map (·.1) = m.map (·.1) ∧ l.map (·.2.1) = m.map (·.2.1)
theorem Alike.len {l m : List Tri} (h : Alike l m) : l.length = m.length := by
  have := congrArg List.length h.1
  simpa using this
theorem Alike.take {l m : List Tri} (h : Alike l m) (k : Nat) : Alike (l.take k) (m.take k) := ⟨by rw [List.map_take, List.map_take, h.1], by rw [List.map_take, List.map_take, h.2]⟩
theorem Alike.get {l m : List Tri} (h : Alike l m) {i : Nat} {a : Tri} (ha : l[i]? = some a) : ∃ b, m[i]? = some b ∧ b.1 = a.1 ∧ b.2.1 = a.2.1 := by
  have hi := (List.getElem?_eq_some_iff.1 ha).1
  have him : i < m.length := by rw [← h.len]; exact hi
  have hm : m[i]? = some m[i] := List.getElem?_eq_getElem him
  have e1 := congrArg (·[i]?) h.1
  have e2 := congrArg (·[i]?) h.2
  simp only [List.getElem?_map, ha, hm, Option.map_some, Option.some.injEq] at e1 e2
  exact ⟨_, hm, e1.symm, e2.symm⟩
theorem Alike.symm {l m : List Tri} (h : Alike l m) : Alike m l := ⟨h.1.symm, h.2.symm⟩
theorem alike_set {l : List Tri} {a : Nat} {x y z : Int} (h : l[a]? = some (x, y, z)) (u : Int) : Alike (l.set a (x, y, u)) l := by
  have hl := (List.getElem?_eq_some_iff.1 h).1
  refine ⟨?_, ?_⟩ <;>
  · apply List.ext_getElem?
    intro i
    simp only [List.getElem?_map]
    by_cases e : a = i
    · subst e
      rw [List.getElem?_set_self hl, h]
      rfl
    · rw [List.getElem?_set_ne e]
theorem plcs_congr {l m : List Tri} (h : Alike l m) : plcs l = plcs m := by
  apply List.ext_getElem?
  intro i
  rcases Nat.lt_or_ge i l.length with hi | hi
  · have ha : l[i]? = some l[i] := List.getElem?_eq_getElem hi
    obtain ⟨b, hb, e1, e2⟩ := h.get ha
    rw [plcs_get ha, plcs_get hb]
    unfold plcOf
    rw [idx_congr (h.take i).2, idx_congr (h.take i).1, e1, e2]
  · rw [List.getElem?_eq_none (by rw [plcs_len]; exact hi), List.getElem?_eq_none (by rw [plcs_len, ← h.len]; exact hi)]
theorem cnt_congr {f : Tri → Int} {l m : List Tri} (h : l.map f = m.map f) (v : Int) : l.countP (fun a => f a == v) = m.countP (fun a => f a == v) := by
  rw [← idx_len, ← idx_len, idx_congr h]
/-- A net of which arc a, that goes from x to y, costs u. -/
def NetD.setW (N : NetD) (a : Nat) (x y u : Int) : NetD := ⟨N.vs, N.ar.set a (x, y, u), N.ts⟩
/-- A net of which table p is t. -/
def NetD.bend (N : NetD) (p : Nat) (t : TabD) : NetD := ⟨N.vs, N.ar, N.ts.set p t⟩
/-- A table of which one turn costs c. -/
def TabD.turn (t : TabD) (i : Nat) (c : Int) : TabD := ⟨t.ins, t.outs, t.costs.set i c⟩
theorem NetOk.setW {N : NetD} (h : NetOk N) {a : Nat} {x y z u : Int} (ha : N.ar[a]? = some (x, y, z)) (hu : wOk u = true) : NetOk (N.setW a x y u) where
  lv := h.lv
  la := by show (N.ar.set a (x, y, u)).length ≤ _; rw [List.length_set]; exact h.la
  lt := h.lt
  tabs := h.tabs
  verts := h.verts
  arcs := fun t ht => by
    rcases List.mem_or_eq_of_mem_set ht with ht | rfl
    · exact h.arcs t ht
    · have := h.arcs _ (List.mem_of_getElem? ha)
      exact ⟨this.f0, this.f1, this.g0, this.g1, hu⟩
  meet := fun i v t hv ht => by
    have h1 := h.meet i v t hv ht
    have hA := alike_set ha u
    unfold cntTo cntFr at *
    show ((List.countP _ (N.ar.set a (x, y, u)) : Nat) : Int) = _ ∧ ((List.countP _ (N.ar.set a (x, y, u)) : Nat) : Int) = _
    rw [cnt_congr hA.2, cnt_congr hA.1]
    exact h1
theorem TabOk.turn {t : TabD} (h : TabOk t) {i : Nat} {c : Int} (hc : wOk c = true) : TabOk (t.turn i c) where
  i0 := h.i0
  i16 := h.i16
  o0 := h.o0
  o16 := h.o16
  len := by show ((t.costs.set i c).length : Int) = _; rw [List.length_set]; exact h.len
  ok := fun d hd => by
    rcases List.mem_or_eq_of_mem_set hd with hd | rfl
    · exact h.ok d hd
    · exact hc
theorem NetOk.bend {N : NetD} (h : NetOk N) {p : Nat} {t : TabD} (ht : N.ts[p]? = some t) {i : Nat} {c : Int} (hc : wOk c = true) : NetOk (N.bend p (t.turn i c)) where
  lv := h.lv
  la := h.la
  lt := by show (N.ts.set p _).length ≤ _; rw [List.length_set]; exact h.lt
  tabs := fun s hs => by
    rcases List.mem_or_eq_of_mem_set hs with hs | rfl
    · exact h.tabs s hs
    · exact (h.tabs t (List.mem_of_getElem? ht)).turn hc
  verts := fun v hv => by
    have := h.verts v hv
    have hl : (N.ts.set p (t.turn i c)).length = N.ts.length := List.length_set ..
    exact ⟨this.x, this.y, this.t0, by show v.2.2 < ((N.ts.set p (t.turn i c)).length : Int); rw [hl]; exact this.t1⟩
  arcs := h.arcs
  meet := fun j v s hv hs => by
    have hs : (N.ts.set p (t.turn i c))[v.2.2.toNat]? = some s := hs
    by_cases e : p = v.2.2.toNat
    · rw [e, List.getElem?_set_self (by rw [← e]; exact (List.getElem?_eq_some_iff.1 ht).1)] at hs
      cases hs
      exact h.meet j v t hv (by rw [← e]; exact ht)
    · rw [List.getElem?_set_ne e] at hs
      exact h.meet j v s hv hs
theorem FewOk.setW {N : NetD} (h : FewOk N) (a : Nat) (x y u : Int) : FewOk (N.setW a x y u) :=
  ⟨h.v, by show (N.ar.set a (x, y, u)).length ≤ _; rw [List.length_set]; exact h.a, h.t, h.c⟩
theorem FewOk.bend {N : NetD} (h : FewOk N) {p : Nat} {t : TabD} (ht : N.ts[p]? = some t) (i : Nat) (c : Int) : FewOk (N.bend p (t.turn i c)) :=
  ⟨h.v, h.a, by show (N.ts.set p _).length ≤ _; rw [List.length_set]; exact h.t, fun s hs => by
    rcases List.mem_or_eq_of_mem_set hs with hs | rfl
    · exact h.c s hs
    · show (t.costs.set i c).length ≤ _
      rw [List.length_set]
      exact h.c t (List.mem_of_getElem? ht)⟩
theorem setW_same {N : NetD} {a : Nat} {x y z : Int} (h : N.ar[a]? = some (x, y, z)) (u : Int) : (N.setW a x y u).vs = N.vs ∧ Alike (N.setW a x y u).ar N.ar := ⟨rfl, alike_set h u⟩

/-! the number of an entry, one by one -/
theorem ent_out (s a n b : Nat) : s + (a * n + b) + 1 = s + (a * n + (b + 1)) := by omega
theorem ent_in (s a n : Nat) : s + (a * n + n) = s + (a + 1) * n := by rw [Nat.add_mul, Nat.one_mul]
end Go.Proofs.YtgkeolddpielpaaGreatDoor

/- Changes of a graph: faults, Set. -/
namespace Go.Proofs.YtgkeolddpielpaaGreatDoor
open Go.RowKit

attribute [local go_sem ↓] Go.wp_at_zero Go.wp_at_succ

theorem chain_one (w : World) (c : Int) : Chain w (errV c) [] c := rfl
theorem gFault_any (k : Int) (u : Value) (ps : List (ByteArray × Int)) (c : Int) (w : World) (hu : Chain w u ps c) :
    Calls Tryz.prog 80 #[.int .i64 k, u] w fun e w' => ∃ v, e = .returned v ∧ Chain w' v (((⟨#[103, 114, 97, 112, 104]⟩ : ByteArray), k) :: ps) c ∧ Below w.heap.size w w' := by
  obtain ⟨tu, xu, rfl⟩ := chain_not_nil hu
  have HU := Lib.hid hu
  clear hu
  go_enter Tryz.func80, Tryz.ntmps80
  go_wp2
  go_ret
  refine ⟨_, rfl, ⟨w.heap.size, 0, .iface tu xu, rfl, ?_, ?_, ?_, Chain.below (by repeat (first | exact Below.refl _ _ | assumption | apply Below.drew | apply below_drewN | apply Bel.alloc | (refine Bel.setCell_ ?_ ?_; rotate_left; omega) | (refine Bel.step ?_ (by assumption)))) HU.out⟩, (by repeat (first | exact Below.refl _ _ | assumption | apply Below.drew | apply below_drewN | apply Bel.alloc | (refine Bel.setCell_ ?_ ?_; rotate_left; omega) | (refine Bel.step ?_ (by assumption))))⟩
  all_goals simp
theorem tFault_any (k c : Int) (w : World) :
    Calls Tryz.prog 106 #[.int .i64 k, .int .i64 c] w fun e w' => ∃ v, e = .returned v ∧ Chain w' v [((⟨#[116, 117, 114, 110]⟩ : ByteArray), k)] c ∧ Below w.heap.size w w' := by
  go_enter Tryz.func106, Tryz.ntmps106
  go_wp2
  go_ret
  refine ⟨_, rfl, ⟨w.heap.size, 0, errV c, rfl, ?_, ?_, ?_, rfl⟩, (by repeat (first | exact Below.refl _ _ | assumption | apply Below.drew | apply below_drewN | apply Bel.alloc | (refine Bel.setCell_ ?_ ?_; rotate_left; omega) | (refine Bel.step ?_ (by assumption))))⟩
  all_goals simp
theorem tFault_x (k c : Int) (w : World) :
    Calls Tryz.prog 106 #[.int .i64 k, .int .i64 c] w fun e w' => e = .returned (fltV w.heap.size 0) ∧ Blk w' w.heap.size 100 #[.string (⟨#[116, 117, 114, 110]⟩ : ByteArray), .int .i64 k, errV c] ∧ Below w.heap.size w w' := by
  go_enter Tryz.func106, Tryz.ntmps106
  go_wp2
  go_ret
  exact ⟨rfl, Blk.new _ _ _, (by repeat (first | exact Below.refl _ _ | assumption | apply Below.drew | apply below_drewN | apply Bel.alloc | (refine Bel.setCell_ ?_ ?_; rotate_left; omega) | (refine Bel.step ?_ (by assumption))))⟩
theorem blk_chain {w : World} {g : Nat} {t : TypeId} {s : ByteArray} {k c : Int} (h : Blk w g t #[.string s, .int .i64 k, errV c]) : Chain w (fltV g 0) [(s, k)] c := by
  obtain ⟨h0, h1, h2⟩ := h.three
  exact ⟨g, 0, errV c, rfl, h0, h1, h2, rfl⟩

/-! a weight that is set -/
theorem Rd3.setW {W : World} {b o m a : Nat} {x y z u : Int} {l : List Tri} (h : Rd3 W (some ⟨b, o, none⟩) m l) (ha : l[a]? = some (x, y, z)) :
    Rd3 (W.setCell ⟨b, o + a * 3 + 2, none⟩ (.int .i64 u)) (some ⟨b, o, none⟩) m (l.set a (x, y, u)) := by
  refine ⟨by rw [List.length_set]; exact h.1, fun i p hp => ?_⟩
  by_cases e : a = i
  · subst e
    rw [List.getElem?_set_self (List.getElem?_eq_some_iff.1 ha).1] at hp
    cases hp
    obtain ⟨b', o', e', h1, h2, h3⟩ := h.2 a _ ha
    cases e'
    refine ⟨b, o, rfl, ?_, ?_, World.cell?_setCell_same _ _ _ h3⟩
    · rw [World.cell?_setCell_other _ _ _ _ (by intro h; simp only [Addr.mk.injEq] at h; omega)]; exact h1
    · rw [World.cell?_setCell_other _ _ _ _ (by intro h; simp only [Addr.mk.injEq] at h; omega)]; exact h2
  · rw [List.getElem?_set_ne e] at hp
    obtain ⟨b', o', e', h1, h2, h3⟩ := h.2 i _ hp
    cases e'
    refine ⟨b, o, rfl, ?_, ?_, ?_⟩
    · rw [World.cell?_setCell_other _ _ _ _ (by intro h; simp only [Addr.mk.injEq] at h; omega)]; exact h1
    · rw [World.cell?_setCell_other _ _ _ _ (by intro h; simp only [Addr.mk.injEq] at h; omega)]; exact h2
    · rw [World.cell?_setCell_other _ _ _ _ (by intro h; simp only [Addr.mk.injEq] at h; omega)]; exact h3
theorem Warm.set {W : World} {A : Option Addr} (h : Warm W A) (p : Addr) (v : Value) : Warm (W.setCell p v) A := fun b hb =>
  ⟨Nat.lt_of_lt_of_le (h b hb).1 (by simp [World.setCell]), fun o => by rw [World.frozen?_setCell]; exact (h b hb).2 o⟩
theorem GrR.setW {W : World} {F G : Nat → Prop} {g b o : Nat} {A C I O P : Option Addr} {n m k c d e ci co cp : Nat} {N : NetD} {a : Nat} {x y z u : Int}
    (h : GrR W F G g A (some ⟨b, o, none⟩) C I O P n m k c d e ci co cp N) (ha : N.ar[a]? = some (x, y, z)) (hu : wOk u = true) :
    GrR (W.setCell ⟨b, o + a * 3 + 2, none⟩ (.int .i64 u)) F G g A (some ⟨b, o, none⟩) C I O P n m k c d e ci co cp (N.setW a x y u) := by
  have hk : Kept G W (W.setCell ⟨b, o + a * 3 + 2, none⟩ (.int .i64 u)) := Kept.set W b _ _ (h.net.ga b rfl)
  have hA := alike_set ha u
  have hz : (W.setCell ⟨b, o + a * 3 + 2, none⟩ (.int .i64 u)).heap.size = W.heap.size := by simp [World.setCell]
  refine ⟨⟨h.net.vs.le hk.msk, h.net.ar.setW ha, h.net.ts.le (fun c' o' v hc' hc => ?_) hk.msk, h.net.wa.set _ _, h.net.wt.set _ _, h.net.ga, h.net.gt, h.net.ac⟩, (hk g h.gg h.blk.lt).trans h.blk, h.gg, ?_, ?_, ?_, h.sub, fun b' hb' => by rw [hz]; exact h.lt b' hb', h.ok.setW ha hu, h.c0, h.c1, h.c2⟩
  · have : b ≠ c' := fun e => h.net.ac b rfl (by rw [e]; exact hc')
    rw [World.cell?_setCell_other _ _ _ _ (by intro h; simp only [Addr.mk.injEq] at h; omega)]; exact hc
  · show RdT _ I n (idxs (·.2.1) (N.ar.set a (x, y, u)) n)
    rw [idxs_congr hA.2]
    exact h.ins.le hk.msk
  · show RdT _ O n (idxs (·.1) (N.ar.set a (x, y, u)) n)
    rw [idxs_congr hA.1]
    exact h.outs.le hk.msk
  · show RdP _ P m (plcs (N.ar.set a (x, y, u)))
    rw [plcs_congr hA]
    exact h.plc.le hk.msk
theorem below_set {B : Nat} {W : World} {p : Addr} (h : B ≤ p.block) (v : Value) : Below B W (W.setCell p v) := (Below.refl _ _).setCell h v

set_option maxHeartbeats 1000000 in
theorem gSet_ok (g a : Nat) (x y z u : Int) (N : NetD) (F : Nat → Prop) (w : World) (h : GrO w F g N) (ha : N.ar[a]? = some (x, y, z)) (hu : wOk u = true) :
    Calls Tryz.prog 47 #[.pointer (some ⟨g, 0, none⟩), .int .i64 a, .int .i64 u] w fun e w' => e = .returned .nilIface ∧ GrO w' F g (N.setW a x y u) ∧ Kept (fun b => ¬ F b) w w' ∧ w.heap.size ≤ w'.heap.size ∧ ∀ B, (∀ b, F b → B ≤ b) → Below B w w' := by
  have hla := (List.getElem?_eq_some_iff.1 ha).1
  have HA := Lib.hid (gArc_ok g N a w h.rd (by omega) (by omega))
  have HW := Lib.hid (show ∀ V, Calls Tryz.prog 81 #[.int .i64 u] V fun e w' => e = .returned (.bool true) ∧ V = w' from fun V => by
    have := costWeight_any u V
    rw [hu] at this
    exact this)
  obtain ⟨G, A, B, C, I, O, P, n, m, k, c, d, e, ci, co, cp, hR⟩ := h
  have hlm : a < m := by rw [hR.net.ar.1] at hla; exact hla
  obtain ⟨b, o, eB, c0, c1, c2⟩ := hR.net.ar.2 a _ ha
  subst eB
  have n1 : w.cell? ⟨g, 1, none⟩ = some (.slice (some ⟨b, o, none⟩) m d) := by rw [hR.blk.cell]; rfl
  have HN := Lib.hid (hR.setW ha hu)
  have hf := (hR.net.wa b rfl).2 (o + a * 3 + 2)
  have HF := Lib.hid (hR.sub b (.inr (.inl rfl)))
  have i1 : (0 : Int) ≤ (a : Int) := by omega
  have i2 : (a : Int) < (m : Int) := by omega
  clear hR ha hu hla c0 c1
  go_enter Tryz.func47, Tryz.ntmps47
  go_wp2_with fail
  with_reducible refine HA.out.mono ?_
  rintro r w' ⟨rfl, rfl⟩
  go_wp2_with fail
  with_reducible refine (HW.out _).mono ?_
  rintro r w' ⟨rfl, rfl⟩
  go_wp2_with fail
  go_ret
  refine ⟨rfl, ⟨G, A, _, C, I, O, P, n, m, k, c, d, e, ci, co, cp, HN.out⟩, Kept.set _ _ _ _ (fun hn => hn HF.out), by simp [World.setCell], fun B' hB => below_set (hB b HF.out) _⟩
theorem gSet_no1 (g : Nat) (a u : Int) (N : NetD) (w : World) (h : RdGr w g N) (ha : ¬ (0 ≤ a ∧ a < N.ar.length)) :
    Calls Tryz.prog 47 #[.pointer (some ⟨g, 0, none⟩), .int .i64 a, .int .i64 u] w fun e w' => ∃ v, e = .returned v ∧ Chain w' v [((⟨#[103, 114, 97, 112, 104]⟩ : ByteArray), a)] 5 ∧ Below w.heap.size w w' := by
  have HA := Lib.hid (gArc_no g N a w h ha)
  clear h ha
  go_enter Tryz.func47, Tryz.ntmps47
  go_wp2_with fail
  with_reducible refine HA.out.mono ?_
  rintro r w' ⟨rfl, rfl⟩
  go_wp2_with fail
  with_reducible refine (gFault_any _ _ [] 5 _ (chain_one _ 5)).mono ?_
  rintro r w' ⟨v, rfl, hc, hb⟩
  obtain ⟨tv, xv, rfl⟩ := chain_not_nil hc
  have HCH := Lib.hid hc
  clear hc
  go_wp2_with fail
  go_ret
  exact ⟨_, rfl, HCH.out, (by repeat (first | exact Below.refl _ _ | assumption | apply Below.drew | apply below_drewN | apply Bel.alloc | (refine Bel.setCell_ ?_ ?_; rotate_left; omega) | (refine Bel.step ?_ (by assumption))))⟩
theorem gSet_no2 (g : Nat) (a u : Int) (N : NetD) (w : World) (h : RdGr w g N) (h0 : 0 ≤ a) (h1 : a < N.ar.length) (hu : wOk u = false) :
    Calls Tryz.prog 47 #[.pointer (some ⟨g, 0, none⟩), .int .i64 a, .int .i64 u] w fun e w' => ∃ v, e = .returned v ∧ Chain w' v [((⟨#[103, 114, 97, 112, 104]⟩ : ByteArray), a)] 8 ∧ Below w.heap.size w w' := by
  have HA := Lib.hid (gArc_ok g N a w h h0 h1)
  have HW := Lib.hid (show ∀ V, Calls Tryz.prog 81 #[.int .i64 u] V fun e w' => e = .returned (.bool false) ∧ V = w' from fun V => by
    have := costWeight_any u V
    rw [hu] at this
    exact this)
  clear h h0 h1 hu
  go_enter Tryz.func47, Tryz.ntmps47
  go_wp2_with fail
  with_reducible refine HA.out.mono ?_
  rintro r w' ⟨rfl, rfl⟩
  go_wp2_with fail
  with_reducible refine (HW.out _).mono ?_
  rintro r w' ⟨rfl, rfl⟩
  go_wp2_with fail
  with_reducible refine (gFault_any _ _ [] 8 _ (chain_one _ 8)).mono ?_
  rintro r w' ⟨v, rfl, hc, hb⟩
  obtain ⟨tv, xv, rfl⟩ := chain_not_nil hc
  have HCH := Lib.hid hc
  clear hc
  go_wp2_with fail
  go_ret
  exact ⟨_, rfl, HCH.out, (by repeat (first | exact Below.refl _ _ | assumption | apply Below.drew | apply below_drewN | apply Bel.alloc | (refine Bel.setCell_ ?_ ?_; rotate_left; omega) | (refine Bel.step ?_ (by assumption))))⟩
end Go.Proofs.YtgkeolddpielpaaGreatDoor

/- part.Check, told exactly. -/
namespace Go.Proofs.YtgkeolddpielpaaGreatDoor
open Go.RowKit

attribute [local go_sem ↓] Go.wp_at_zero Go.wp_at_succ

theorem pFault_any (s : ByteArray) (k : Int) (u : Value) (ps : List (ByteArray × Int)) (c : Int) (w : World) (hu : Chain w u ps c) :
    Calls Tryz.prog 62 #[.string s, .int .i64 k, u] w fun e w' => ∃ v, e = .returned v ∧ Chain w' v ((s, k) :: ps) c ∧ Below w.heap.size w w' := by
  obtain ⟨tu, xu, rfl⟩ := chain_not_nil hu
  have HU := Lib.hid hu
  clear hu
  go_enter Tryz.func62, Tryz.ntmps62
  go_wp2
  go_ret
  refine ⟨_, rfl, ⟨w.heap.size, 0, .iface tu xu, rfl, ?_, ?_, ?_, Chain.below (by repeat (first | exact Below.refl _ _ | assumption | apply Below.drew | apply below_drewN | apply Bel.alloc | (refine Bel.setCell_ ?_ ?_; rotate_left; omega) | (refine Bel.step ?_ (by assumption)))) HU.out⟩, (by repeat (first | exact Below.refl _ _ | assumption | apply Below.drew | apply below_drewN | apply Bel.alloc | (refine Bel.setCell_ ?_ ?_; rotate_left; omega) | (refine Bel.step ?_ (by assumption))))⟩
  all_goals simp
set_option maxHeartbeats 1000000 in
theorem partCheck_size (Q : Option Addr) (n L cq : Nat) (k c : Int) (w : World) (hn : n ≤ 4096) (h : (6 < L ∧ k = 0 ∧ c = 4) ∨ (L = 0 ∧ k = 0 ∧ c = 1)) :
    Calls Tryz.prog 34 #[.int .i64 n, .agg #[.slice Q L cq], .slice none 0 0] w fun e w' => ∃ v, e = .returned v ∧ Chain w' v [((⟨#[112, 97, 114, 116]⟩ : ByteArray), k)] c ∧ Below w.heap.size w w' := by
  have j2 : ¬ (n : Int) < 0 := by omega
  have j3 : ¬ (n : Int) > 4096 := by omega
  rcases h with ⟨h, rfl, rfl⟩ | ⟨h, rfl, rfl⟩
  · have j4 : (L : Int) > 6 := by omega
    clear h
    go_enter Tryz.func34, Tryz.ntmps34
    go_wp2_with fail
    with_reducible refine (pFault_any _ _ _ _ _ _ (chain_one _ 4)).mono ?_
    rintro e w3 ⟨v, rfl, hc3, hb3⟩
    obtain ⟨tv, xv, rfl⟩ := chain_not_nil hc3
    have HCH := Lib.hid hc3
    clear hc3
    go_wp2_with fail
    go_ret
    exact ⟨_, rfl, HCH.out, (by repeat (first | exact Below.refl _ _ | assumption | apply Below.drew | apply below_drewN | apply Bel.alloc | (refine Bel.setCell_ ?_ ?_; rotate_left; omega) | (refine Bel.step ?_ (by assumption))))⟩
  · subst h
    have j4 : ¬ (((0 : Nat) : Int) > 6) := by omega
    have j5 : ((((0 : Nat) : Int)) == 0) = true := by simp
    go_enter Tryz.func34, Tryz.ntmps34
    go_wp2_with fail
    with_reducible refine (pFault_any _ _ _ _ _ _ (chain_one _ 1)).mono ?_
    rintro e w3 ⟨v, rfl, hc3, hb3⟩
    obtain ⟨tv, xv, rfl⟩ := chain_not_nil hc3
    have HCH := Lib.hid hc3
    clear hc3
    go_wp2_with fail
    go_ret
    exact ⟨_, rfl, HCH.out, (by repeat (first | exact Below.refl _ _ | assumption | apply Below.drew | apply below_drewN | apply Bel.alloc | (refine Bel.setCell_ ?_ ?_; rotate_left; omega) | (refine Bel.step ?_ (by assumption))))⟩
set_option maxHeartbeats 2000000 in
set_option maxRecDepth 20000 in
theorem partCheck_x (Q : Option Addr) (n L cq : Nat) (ls : List (List Int)) (w : World) (h : RdT w Q L ls) (hn : n ≤ 4096) (l1 : 1 ≤ L) (l6 : L ≤ 6) (i0 : Nat) (hi0 : i0 ≤ L) (hg : PGood n ls i0) (c0 : Int) (hc0 : ∀ l, ls[i0]? = some l → lvlCode n (prevOf ls i0) l = c0 ∧ c0 ≠ 0) :
    Calls Tryz.prog 34 #[.int .i64 n, .agg #[.slice Q L cq], .slice none 0 0] w fun e w' => ((i0 = L ∧ e = .returned .nilIface) ∨ (i0 < L ∧ ∃ v, e = .returned v ∧ Chain w' v [((⟨#[112, 97, 114, 116]⟩ : ByteArray), (i0 : Int) + 1)] c0)) ∧ Below w.heap.size w w' := by
  have HT := Lib.hid h
  have HP := Lib.hid hg
  have HC0 := Lib.hid hc0
  have HLEN := Lib.hid h.1
  clear h hg hc0
  have j1 : ((L : Int) == 0) = false := by simp; omega
  have j2 : ¬ (n : Int) < 0 := by omega
  have j3 : ¬ (n : Int) > 4096 := by omega
  have j4 : ¬ (L : Int) > 6 := by omega
  have j5 : ¬ L = 0 := by omega
  go_enter Tryz.func34, Tryz.ntmps34
  go_wp2_with fail
  (refine wp_named ?_; intro w1 hw1)
  have hb1 : Below w.heap.size w w1 := by rw [hw1]; exact (by repeat (first | exact Below.refl _ _ | assumption | apply Below.drew | apply below_drewN | apply Bel.alloc | (refine Bel.setCell_ ?_ ?_; rotate_left; omega) | (refine Bel.step ?_ (by assumption))))
  have hQ : Blk w1 w.heap.size 35 #[.slice Q L cq] := by rw [hw1]; exact (by repeat (first | assumption | (refine Blk.new' _ _ _ ?_; first | with_unfolding_all rfl | (simp; done)) | apply Blk.drewN | apply Blk.drew | apply Blk.alloc | (refine Blk.far_ ?_ ?_ _; rotate_left; omega)))
  have hBd : Blk w1 (w.heap.size + 1) 47 #[.slice none 0 0] := by rw [hw1]; exact (by repeat (first | assumption | (refine Blk.new' _ _ _ ?_; first | with_unfolding_all rfl | (simp; done)) | apply Blk.drewN | apply Blk.drew | apply Blk.alloc | (refine Blk.far_ ?_ ?_ _; rotate_left; omega)))
  clear hw1
  go_loopw [45] (fun q W => Below w.heap.size w W ∧ Blk W w.heap.size 35 #[.slice Q L cq] ∧ Blk W (w.heap.size + 1) 47 #[.slice none 0 0] ∧ ∃ i : Nat, i ≤ i0 ∧ q = .int .i64 i) (fun q _ => L - (intOf q).toNat)
  case atStart => exact ⟨hb1, hQ, hBd, 0, Nat.zero_le _, rfl⟩
  case round =>
    clear hb1 hQ hBd
    obtain ⟨hbl, hQ, hBd, i, hi, rfl⟩ := hrel
    by_cases hlt : i < i0
    · have hiL : i < L := by omega
      obtain ⟨b, o, A, m, c, l, rfl, hl, hc, hr, q1, q2⟩ := HT.out.at_ hiL
      have hlo := HP.out.lvl hlt hl
      obtain rfl : m = n := by rw [← hr.1]; exact hlo.len
      have hcc := Below.cellOf hbl (Nat.le_refl _) hc
      have HTL := Lib.hid (show ∀ V, Below w.heap.size w V → Calls Tryz.prog 63 #[.slice A m c] V fun e w' => ∃ g, e = .returned (.tuple #[.slice (some ⟨g, 0, none⟩) (mostN l).toNat m, .bool true]) ∧ Below V.heap.size V w' from fun V hV => (tally_ok A m c l V (hr.below hV) hlo (by omega)).mono (fun e w' ⟨g, h1, _, h3⟩ => ⟨g, h1, h3⟩))
      have HR := Lib.hid hr
      have HLO := Lib.hid hlo
      have HLL := Lib.hid hl
      have i1 : (0 : Int) ≤ (i : Int) := by omega
      have i2 : (i : Int) < (L : Int) := by omega
      clear hr hlo hl hc q1
      by_cases hi0 : i = 0
      · have e0 : ¬ ((i : Int) > 0) := by omega
        have e00 : ¬ (0 < i) := by omega
        clear hi0
        go_wp2_with fail
        (refine calls_named ?_; intro w2 hw2)
        have hb2 : Below wr.heap.size wr w2 := by rw [hw2]; exact (by repeat (first | exact Below.refl _ _ | assumption | apply Below.drew | apply below_drewN | apply Bel.alloc | (refine Bel.setCell_ ?_ ?_; rotate_left; omega) | (refine Bel.step ?_ (by assumption))))
        have hX : Blk w2 wr.heap.size 3 #[.int .i64 (i : Int)] := by rw [hw2]; exact (by repeat (first | assumption | (refine Blk.new' _ _ _ ?_; first | with_unfolding_all rfl | (simp; done)) | apply Blk.drewN | apply Blk.drew | apply Blk.alloc | (refine Blk.far_ ?_ ?_ _; rotate_left; omega)))
        clear hw2
        have hbl2 := Bel.step hbl hb2
        with_reducible refine (HTL.out w2 hbl2).mono ?_
        rintro e w3 ⟨g, rfl, hb3⟩
        have hX3 := (hX.below hb3 hX.lt).cell 0
        have hQ3 := (hQ.below hb2 hQ.lt).below hb3 (hQ.below hb2 hQ.lt).lt
        have hB3 := (hBd.below hb2 hBd.lt).below hb3 (hBd.below hb2 hBd.lt).lt
        have z1 := hQ3.lt
        have z2 := hB3.lt
        have y1 := hQ3.cell 0
        have y2 := hB3.cell 0
        simp only [List.getElem?_toArray, List.getElem?_cons_zero] at hX3 y1 y2
        have hbl3 := Bel.step hbl2 hb3
        clear hX hQ hBd hcc hb2 hb3
        go_wp2_with fail
        go_roundw
        case rel => exact ⟨hbl3, hQ3, hB3, i + 1, by omega, by go_num⟩
        case measure => simp [intOf]; omega
      · obtain ⟨j, rfl⟩ : ∃ j, i = j + 1 := ⟨i - 1, by omega⟩
        obtain ⟨b', o', A', m', c', l', e, hl', hc', hr', q1', q2'⟩ := HT.out.at_ (show j < L by omega)
        cases e
        have hlo' := HP.out.lvl (show j < i0 by omega) hl'
        obtain rfl : m' = m := by rw [← hr'.1]; exact hlo'.len
        have hne := HP.out.nest hlt hl' HLL.out
        have HNS := Lib.hid (show ∀ V, Below w.heap.size w V → Calls Tryz.prog 64 #[.slice A' m' c', .slice A m' c] V fun e w' => e = .returned (.bool true) ∧ Below V.heap.size V w' from fun V hV => nested_ok A' A m' c' c l' l V (hr'.below hV) (HR.out.below hV) hlo' HLO.out hne (by omega))
        have hcc' := Below.cellOf hbl (Nat.le_refl _) hc'
        have i3 : ((j : Int) + 1) - 1 = (j : Int) := by omega
        have i4 : (0 : Int) ≤ (j : Int) := by omega
        have i5 : (j : Int) < (L : Int) := by omega
        clear hr' hlo' hl' hc' q1' hne hi0
        go_wp2_with fail
        (refine calls_named ?_; intro w2 hw2)
        have hb2 : Below wr.heap.size wr w2 := by rw [hw2]; exact (by repeat (first | exact Below.refl _ _ | assumption | apply Below.drew | apply below_drewN | apply Bel.alloc | (refine Bel.setCell_ ?_ ?_; rotate_left; omega) | (refine Bel.step ?_ (by assumption))))
        have hX : Blk w2 wr.heap.size 3 #[.int .i64 ((j : Int) + 1)] := by rw [hw2]; exact (by repeat (first | assumption | (refine Blk.new' _ _ _ ?_; first | with_unfolding_all rfl | (simp; done)) | apply Blk.drewN | apply Blk.drew | apply Blk.alloc | (refine Blk.far_ ?_ ?_ _; rotate_left; omega)))
        clear hw2
        have hbl2 := Bel.step hbl hb2
        with_reducible refine (HTL.out w2 hbl2).mono ?_
        rintro e w3 ⟨g, rfl, hb3⟩
        have hbX3 := hX.below hb3 hX.lt
        have hX3 := hbX3.cell 0
        have hQ3 := (hQ.below hb2 hQ.lt).below hb3 (hQ.below hb2 hQ.lt).lt
        have hB3 := (hBd.below hb2 hBd.lt).below hb3 (hBd.below hb2 hBd.lt).lt
        have y1 := hQ3.cell 0
        simp only [List.getElem?_toArray, List.getElem?_cons_zero] at hX3 y1
        have hbl3 := Bel.step hbl2 hb3
        have d1 := Below.cellOf hb3 (Nat.le_refl _) (Below.cellOf hb2 (Nat.le_refl _) hcc)
        have d2 := Below.cellOf hb3 (Nat.le_refl _) (Below.cellOf hb2 (Nat.le_refl _) hcc')
        clear hX hQ hBd hcc hb2 hb3 hcc'
        go_wp2_with fail
        with_reducible refine (HNS.out w3 hbl3).mono ?_
        rintro e w4 ⟨rfl, hb4⟩
        have hX4 := (hbX3.below hb4 hbX3.lt).cell 0
        have hQ4 := hQ3.below hb4 hQ3.lt
        have hB4 := hB3.below hb4 hB3.lt
        have y2 := hB4.cell 0
        simp only [List.getElem?_toArray, List.getElem?_cons_zero] at hX4 y2
        have hbl4 := Bel.step hbl3 hb4
        clear d1 d2 hX3 y1 hbX3 hQ3 hB3 hb4
        go_wp2_with fail
        go_roundw
        case rel => exact ⟨hbl4, hQ4, hB4, j + 1 + 1, by omega, by go_num⟩
        case measure => simp [intOf]; omega
    · obtain rfl : i0 = i := by omega
      clear hlt hi
      by_cases hiL : i0 = L
      · clear HC0
        subst hiL
        go_wp2_with fail
        go_ret
        exact ⟨rfl, hbl⟩
      have hlt : i0 < L := by omega
      obtain ⟨b, o, A, m, c, l, rfl, hl, hc, hr, q1, q2⟩ := HT.out.at_ hlt
      obtain ⟨hcode, hcne⟩ := HC0.out l hl
      clear HC0
      have hcc := Below.cellOf hbl (Nat.le_refl _) hc
      have i1 : (0 : Int) ≤ (i0 : Int) := by omega
      have i2 : (i0 : Int) < (L : Int) := by omega
      by_cases hmn : m = n
      rotate_left
      · have e1 : ((m : Int) == (n : Int)) = false := by simpa using (show ¬ (m : Int) = (n : Int) by omega)
        have e2 : ((m : Int) != (n : Int)) = true := by simpa using (show ¬ (m : Int) = (n : Int) by omega)
        rw [lvlCode_len (by rw [hr.1]; exact hmn)] at hcode
        subst hcode
        clear hcne hmn hr hl hc q1
        go_wp2_with fail
        (refine calls_named ?_; intro w2 hw2)
        have hb2 : Below wr.heap.size wr w2 := by rw [hw2]; exact (by repeat (first | exact Below.refl _ _ | assumption | apply Below.drew | apply below_drewN | apply Bel.alloc | (refine Bel.setCell_ ?_ ?_; rotate_left; omega) | (refine Bel.step ?_ (by assumption))))
        clear hw2
        with_reducible refine (pFault_any _ _ _ _ _ _ (chain_one _ 1)).mono ?_
        rintro e w3 ⟨v, rfl, hc3, hb3⟩
        obtain ⟨tv, xv, rfl⟩ := chain_not_nil hc3
        have HCH := Lib.hid hc3
        clear hc3
        go_wp2_with fail
        go_ret
        exact ⟨.inr ⟨hlt, _, rfl, HCH.out⟩, Bel.step (Bel.step hbl hb2) hb3⟩
      subst hmn
      have hll : l.length = m := hr.1
      have hnk : ¬ (LvlOk m l ∧ ∀ q, prevOf ls i0 = some q → NestOk q l) := fun hk => hcne (by rw [← hcode]; exact lvlCode_ok hk.1 hk.2)
      rw [lvlCode_no hll hnk] at hcode
      subst hcode
      clear hcne
      have e3 : ((m : Int) == (m : Int)) = true := by simp
      by_cases hlo : LvlOk m l
      rotate_left
      · have HTL := Lib.hid (show ∀ V, Below w.heap.size w V → Calls Tryz.prog 63 #[.slice A m c] V fun e w' => (∃ A2 k2 c2, e = .returned (.tuple #[.slice A2 k2 c2, .bool false])) ∧ Below V.heap.size V w' from fun V hV => tally_no A m c l V (hr.below hV) hlo (by omega))
        clear hr hl hc q1 hnk hlo hll
        go_wp2_with fail
        (refine calls_named ?_; intro w2 hw2)
        have hb2 : Below wr.heap.size wr w2 := by rw [hw2]; exact (by repeat (first | exact Below.refl _ _ | assumption | apply Below.drew | apply below_drewN | apply Bel.alloc | (refine Bel.setCell_ ?_ ?_; rotate_left; omega) | (refine Bel.step ?_ (by assumption))))
        have hX : Blk w2 wr.heap.size 3 #[.int .i64 (i0 : Int)] := by rw [hw2]; exact (by repeat (first | assumption | (refine Blk.new' _ _ _ ?_; first | with_unfolding_all rfl | (simp; done)) | apply Blk.drewN | apply Blk.drew | apply Blk.alloc | (refine Blk.far_ ?_ ?_ _; rotate_left; omega)))
        clear hw2
        have hbl2 := Bel.step hbl hb2
        with_reducible refine (HTL.out w2 hbl2).mono ?_
        rintro e w3 ⟨⟨A2, k2, c2, rfl⟩, hb3⟩
        have hX3 := (hX.below hb3 hX.lt).cell 0
        simp only [List.getElem?_toArray, List.getElem?_cons_zero] at hX3
        have hbl3 := Bel.step hbl2 hb3
        clear hX hb2 hb3
        go_wp2_with fail
        with_reducible refine (pFault_any _ _ _ _ _ _ (chain_one _ 10)).mono ?_
        rintro e w4 ⟨v, rfl, hc4, hb4⟩
        obtain ⟨tv, xv, rfl⟩ := chain_not_nil hc4
        have HCH := Lib.hid hc4
        clear hc4
        go_wp2_with fail
        go_ret
        exact ⟨.inr ⟨hlt, _, rfl, HCH.out⟩, Bel.step hbl3 hb4⟩
      · cases i0 with
        | zero => exact absurd ⟨hlo, fun q hq => by cases hq⟩ hnk
        | succ j =>
        obtain ⟨b', o', A', m', c', l', e, hl', hc', hr', q1', q2'⟩ := HT.out.at_ (show j < L by omega)
        cases e
        have hlo' := HP.out.lvl (show j < j + 1 by omega) hl'
        obtain rfl : m' = m := by rw [← hr'.1]; exact hlo'.len
        have hne : ¬ NestOk l' l := fun hk => hnk ⟨hlo, fun q hq => by rw [prevOf_succ, hl'] at hq; cases hq; exact hk⟩
        have HTL := Lib.hid (show ∀ V, Below w.heap.size w V → Calls Tryz.prog 63 #[.slice A m' c] V fun e w' => ∃ g, e = .returned (.tuple #[.slice (some ⟨g, 0, none⟩) (mostN l).toNat m', .bool true]) ∧ Below V.heap.size V w' from fun V hV => (tally_ok A m' c l V (hr.below hV) hlo (by omega)).mono (fun e w' ⟨g, h1, _, h3⟩ => ⟨g, h1, h3⟩))
        have HNS := Lib.hid (show ∀ V, Below w.heap.size w V → Calls Tryz.prog 64 #[.slice A' m' c', .slice A m' c] V fun e w' => e = .returned (.bool false) ∧ Below V.heap.size V w' from fun V hV => nested_no A' A m' c' c l' l V (hr'.below hV) (hr.below hV) hlo' hlo hne (by omega))
        have hcc' := Below.cellOf hbl (Nat.le_refl _) hc'
        have i3 : ((j : Int) + 1) - 1 = (j : Int) := by omega
        have i4 : (0 : Int) ≤ (j : Int) := by omega
        have i5 : (j : Int) < (L : Int) := by omega
        have HLO := Lib.hid hlo
        clear hr' hlo' hl' hc' q1' hne hr hl hc q1 hnk hlo hll
        go_wp2_with fail
        (refine calls_named ?_; intro w2 hw2)
        have hb2 : Below wr.heap.size wr w2 := by rw [hw2]; exact (by repeat (first | exact Below.refl _ _ | assumption | apply Below.drew | apply below_drewN | apply Bel.alloc | (refine Bel.setCell_ ?_ ?_; rotate_left; omega) | (refine Bel.step ?_ (by assumption))))
        have hX : Blk w2 wr.heap.size 3 #[.int .i64 ((j : Int) + 1)] := by rw [hw2]; exact (by repeat (first | assumption | (refine Blk.new' _ _ _ ?_; first | with_unfolding_all rfl | (simp; done)) | apply Blk.drewN | apply Blk.drew | apply Blk.alloc | (refine Blk.far_ ?_ ?_ _; rotate_left; omega)))
        clear hw2
        have hbl2 := Bel.step hbl hb2
        with_reducible refine (HTL.out w2 hbl2).mono ?_
        rintro e w3 ⟨g, rfl, hb3⟩
        have hbX3 := hX.below hb3 hX.lt
        have hX3 := hbX3.cell 0
        have hQ3 := (hQ.below hb2 hQ.lt).below hb3 (hQ.below hb2 hQ.lt).lt
        have y1 := hQ3.cell 0
        simp only [List.getElem?_toArray, List.getElem?_cons_zero] at hX3 y1
        have hbl3 := Bel.step hbl2 hb3
        have d1 := Below.cellOf hb3 (Nat.le_refl _) (Below.cellOf hb2 (Nat.le_refl _) hcc)
        have d2 := Below.cellOf hb3 (Nat.le_refl _) (Below.cellOf hb2 (Nat.le_refl _) hcc')
        clear hX hQ hBd hcc hb2 hb3 hcc'
        go_wp2_with fail
        with_reducible refine (HNS.out w3 hbl3).mono ?_
        rintro e w4 ⟨rfl, hb4⟩
        have hX4 := (hbX3.below hb4 hbX3.lt).cell 0
        simp only [List.getElem?_toArray, List.getElem?_cons_zero] at hX4
        have hbl4 := Bel.step hbl3 hb4
        clear d1 d2 hX3 y1 hbX3 hQ3 hb4
        go_wp2_with fail
        with_reducible refine (pFault_any _ _ _ _ _ _ (chain_one _ 10)).mono ?_
        rintro e w5 ⟨v, rfl, hc5, hb5⟩
        obtain ⟨tv, xv, rfl⟩ := chain_not_nil hc5
        have HCH := Lib.hid hc5
        clear hc5
        go_wp2_with fail
        go_ret
        exact ⟨.inr ⟨hlt, _, rfl, by simpa using HCH.out⟩, Bel.step hbl4 hb5⟩
end Go.Proofs.YtgkeolddpielpaaGreatDoor
