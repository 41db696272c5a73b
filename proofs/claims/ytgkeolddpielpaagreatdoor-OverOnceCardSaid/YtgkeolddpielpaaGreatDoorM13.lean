/- Parts of the proof: ChP, Ch1, Ch2. -/
import Derived.Test.YtgkeolddpielpaaGreatDoorM12
/- Changed nets; the number of an entry, one by one: plain. -/
namespace Go.Proofs.YtgkeolddpielpaaGreatDoor
open Go.RowKit

theorem idx_congrZ (f : Tri → Int) (v : Int) : ∀ (l m : List Tri) (k : Nat), l.map f = m.map f → ((l.zipIdx k).filter (fun p => f p.1 == v)).map (fun p => (p.2 : Int)) = ((m.zipIdx k).filter (fun p => f p.1 == v)).map (fun p => (p.2 : Int))
  | [], [], _, _ => rfl
  | [], _ :: _, _, h => by simp at h
  | _ :: _, [], _, h => by simp at h
  | a :: l, b :: m, k, h => by
    simp only [List.map_cons, List.cons.injEq] at h
    have ih := idx_congrZ f v l m (k + 1) h.2
    simp only [List.zipIdx_cons, List.filter_cons, h.1]
    split
    · simp only [List.map_cons, ih]
    · exact ih
theorem idx_congr {f : Tri → Int} {l m : List Tri} (h : l.map f = m.map f) (v : Int) : idx f l v = idx f m v := idx_congrZ f v l m 0 h
theorem idxs_congr {f : Tri → Int} {l m : List Tri} (h : l.map f = m.map f) (n : Nat) : idxs f l n = idxs f m n := by
  unfold idxs
  simp only [idx_congr h]
/-- Rows of arcs that go alike. -/
def Alike (l m : List Tri) : Prop := l.map (·.1) = m.map (·.1) ∧ l.map (·.2.1) = m.map (·.2.1)
theorem Alike.len {l m : List Tri} (h : Alike l m) : l.length = m.length := by
  have := congrArg List.length h.1
  simpa using this
theorem Alike.take {l m : List Tri} (h : Alike l m) (k : Nat) : Alike (l.take k) (m.take k) := ⟨by rw [List.map_take, List.map_take, h.1], by rw [List.map_take, List.map_take, h.2]⟩
theorem Alike.get {l m : List Tri} (h : Alike l m) {i : Nat} {a : Tri} (ha : l[i]? = some a) : ∃ b, m[i]? = some b ∧ b.1 = a.1 ∧ b.2.1 = a.2.1 := by
  have hi := (List.getElem?_eq_some_iff.1 ha).1
  have him : i < m.length := by rw [← h.len]; exact hi
  have hm : m[i]? = some m[i] := List.getElem?_eq_getElem him
  have e1 := congrArg (·[i]?) h.1
  have e2 := congrArg (·[i]?) h.2
  simp only [List.getElem?_map, ha, hm, Option.map_some, Option.some.injEq] at e1 e2
  exact ⟨_, hm, e1.symm, e2.symm⟩
theorem Alike.symm {l m : List Tri} (h : Alike l m) : Alike m l := ⟨h.1.symm, h.2.symm⟩
theorem alike_set {l : List Tri} {a : Nat} {x y z : Int} (h : l[a]? = some (x, y, z)) (u : Int) : Alike (l.set a (x, y, u)) l := by
  have hl := (List.getElem?_eq_some_iff.1 h).1
  refine ⟨?_, ?_⟩ <;>
  · apply List.ext_getElem?
    intro i
    simp only [List.getElem?_map]
    by_cases e : a = i
    · subst e
      rw [List.getElem?_set_self hl, h]
      rfl
    · rw [List.getElem?_set_ne e]
theorem plcs_congr {l m : List Tri} (h : Alike l m) : plcs l = plcs m := by
  apply List.ext_getElem?
  intro i
  rcases Nat.lt_or_ge i l.length with hi | hi
  · have ha : l[i]? = some l[i] := List.getElem?_eq_getElem hi
    obtain ⟨b, hb, e1, e2⟩ := h.get ha
    rw [plcs_get ha, plcs_get hb]
    unfold plcOf
    rw [idx_congr (h.take i).2, idx_congr (h.take i).1, e1, e2]
  · rw [List.getElem?_eq_none (by rw [plcs_len]; exact hi), List.getElem?_eq_none (by rw [plcs_len, ← h.len]; exact hi)]
theorem cnt_congr {f : Tri → Int} {l m : List Tri} (h : l.map f = m.map f) (v : Int) : l.countP (fun a => f a == v) = m.countP (fun a => f a == v) := by
  rw [← idx_len, ← idx_len, idx_congr h]
/-- A net of which arc a, that goes from x to y, costs u. -/
def NetD.setW (N : NetD) (a : Nat) (x y u : Int) : NetD := ⟨N.vs, N.ar.set a (x, y, u), N.ts⟩
/-- A net of which table p is t. -/
def NetD.bend (N : NetD) (p : Nat) (t : TabD) : NetD := ⟨N.vs, N.ar, N.ts.set p t⟩
/-- A table of which one turn costs c. -/
def TabD.turn (t : TabD) (i : Nat) (c : Int) : TabD := ⟨t.ins, t.outs, t.costs.set i c⟩
theorem NetOk.setW {N : NetD} (h : NetOk N) {a : Nat} {x y z u : Int} (ha : N.ar[a]? = some (x, y, z)) (hu : wOk u = true) : NetOk (N.setW a x y u) where
  lv := h.lv
  la := by show (N.ar.set a (x, y, u)).length ≤ _; rw [List.length_set]; exact h.la
  lt := h.lt
  tabs := h.tabs
  verts := h.verts
  arcs := fun t ht => by
    rcases List.mem_or_eq_of_mem_set ht with ht | rfl
    · exact h.arcs t ht
    · have := h.arcs _ (List.mem_of_getElem? ha)
      exact ⟨this.f0, this.f1, this.g0, this.g1, hu⟩
  meet := fun i v t hv ht => by
    have h1 := h.meet i v t hv ht
    have hA := alike_set ha u
    unfold cntTo cntFr at *
    show ((List.countP _ (N.ar.set a (x, y, u)) : Nat) : Int) = _ ∧ ((List.countP _ (N.ar.set a (x, y, u)) : Nat) : Int) = _
    rw [cnt_congr hA.2, cnt_congr hA.1]
    exact h1
theorem TabOk.turn {t : TabD} (h : TabOk t) {i : Nat} {c : Int} (hc : wOk c = true) : TabOk (t.turn i c) where
  i0 := h.i0
  i16 := h.i16
  o0 := h.o0
  o16 := h.o16
  len := by show ((t.costs.set i c).length : Int) = _; rw [List.length_set]; exact h.len
  ok := fun d hd => by
    rcases List.mem_or_eq_of_mem_set hd with hd | rfl
    · exact h.ok d hd
    · exact hc
theorem NetOk.bend {N : NetD} (h : NetOk N) {p : Nat} {t : TabD} (ht : N.ts[p]? = some t) {i : Nat} {c : Int} (hc : wOk c = true) : NetOk (N.bend p (t.turn i c)) where
  lv := h.lv
  la := h.la
  lt := by show (N.ts.set p _).length ≤ _; rw [List.length_set]; exact h.lt
  tabs := fun s hs => by
    rcases List.mem_or_eq_of_mem_set hs with hs | rfl
    · exact h.tabs s hs
    · exact (h.tabs t (List.mem_of_getElem? ht)).turn hc
  verts := fun v hv => by
    have := h.verts v hv
    have hl : (N.ts.set p (t.turn i c)).length = N.ts.length := List.length_set ..
    exact ⟨this.x, this.y, this.t0, by show v.2.2 < ((N.ts.set p (t.turn i c)).length : Int); rw [hl]; exact this.t1⟩
  arcs := h.arcs
  meet := fun j v s hv hs => by
    have hs : (N.ts.set p (t.turn i c))[v.2.2.toNat]? = some s := hs
    by_cases e : p = v.2.2.toNat
    · rw [e, List.getElem?_set_self (by rw [← e]; exact (List.getElem?_eq_some_iff.1 ht).1)] at hs
      cases hs
      exact h.meet j v t hv (by rw [← e]; exact ht)
    · rw [List.getElem?_set_ne e] at hs
      exact h.meet j v s hv hs
theorem FewOk.setW {N : NetD} (h : FewOk N) (a : Nat) (x y u : Int) : FewOk (N.setW a x y u) :=
  ⟨h.v, by show (N.ar.set a (x, y, u)).length ≤ _; rw [List.length_set]; exact h.a, h.t, h.c⟩
theorem FewOk.bend {N : NetD} (h : FewOk N) {p : Nat} {t : TabD} (ht : N.ts[p]? = some t) (i : Nat) (c : Int) : FewOk (N.bend p (t.turn i c)) :=
  ⟨h.v, h.a, by show (N.ts.set p _).length ≤ _; rw [List.length_set]; exact h.t, fun s hs => by
    rcases List.mem_or_eq_of_mem_set hs with hs | rfl
    · exact h.c s hs
    · show (t.costs.set i c).length ≤ _
      rw [List.length_set]
      exact h.c t (List.mem_of_getElem? ht)⟩
theorem setW_same {N : NetD} {a : Nat} {x y z : Int} (h : N.ar[a]? = some (x, y, z)) (u : Int) : (N.setW a x y u).vs = N.vs ∧ Alike (N.setW a x y u).ar N.ar := ⟨rfl, alike_set h u⟩

/-! the number of an entry, one by one -/
theorem ent_out (s a n b : Nat) : s + (a * n + b) + 1 = s + (a * n + (b + 1)) := by omega
theorem ent_in (s a n : Nat) : s + (a * n + n) = s + (a + 1) * n := by rw [Nat.add_mul, Nat.one_mul]
end Go.Proofs.YtgkeolddpielpaaGreatDoor

/- Changes of a graph: faults, Set. -/
namespace Go.Proofs.YtgkeolddpielpaaGreatDoor
open Go.RowKit

attribute [local go_sem ↓] Go.wp_at_zero Go.wp_at_succ

theorem chain_one (w : World) (c : Int) : Chain w (errV c) [] c := rfl
theorem gFault_any (k : Int) (u : Value) (ps : List (ByteArray × Int)) (c : Int) (w : World) (hu : Chain w u ps c) :
    Calls Tryz.prog 80 #[.int .i64 k, u] w fun e w' => ∃ v, e = .returned v ∧ Chain w' v (((⟨#[103, 114, 97, 112, 104]⟩ : ByteArray), k) :: ps) c ∧ Below w.heap.size w w' := by
  obtain ⟨tu, xu, rfl⟩ := chain_not_nil hu
  have HU := Lib.hid hu
  clear hu
  go_enter Tryz.func80, Tryz.ntmps80
  go_wp2
  go_ret
  refine ⟨_, rfl, ⟨w.heap.size, 0, .iface tu xu, rfl, ?_, ?_, ?_, Chain.below (by repeat (first | exact Below.refl _ _ | assumption | apply Below.drew | apply below_drewN | apply Bel.alloc | (refine Bel.setCell_ ?_ ?_; rotate_left; omega) | (refine Bel.step ?_ (by assumption)))) HU.out⟩, (by repeat (first | exact Below.refl _ _ | assumption | apply Below.drew | apply below_drewN | apply Bel.alloc | (refine Bel.setCell_ ?_ ?_; rotate_left; omega) | (refine Bel.step ?_ (by assumption))))⟩
  all_goals simp
theorem tFault_any (k c : Int) (w : World) :
    Calls Tryz.prog 106 #[.int .i64 k, .int .i64 c] w fun e w' => ∃ v, e = .returned v ∧ Chain w' v [((⟨#[116, 117, 114, 110]⟩ : ByteArray), k)] c ∧ Below w.heap.size w w' := by
  go_enter Tryz.func106, Tryz.ntmps106
  go_wp2
  go_ret
  refine ⟨_, rfl, ⟨w.heap.size, 0, errV c, rfl, ?_, ?_, ?_, rfl⟩, (by repeat (first | exact Below.refl _ _ | assumption | apply Below.drew | apply below_drewN | apply Bel.alloc | (refine Bel.setCell_ ?_ ?_; rotate_left; omega) | (refine Bel.step ?_ (by assumption))))⟩
  all_goals simp
theorem tFault_x (k c : Int) (w : World) :
    Calls Tryz.prog 106 #[.int .i64 k, .int .i64 c] w fun e w' => e = .returned (fltV w.heap.size 0) ∧ Blk w' w.heap.size 100 #[.string (⟨#[116, 117, 114, 110]⟩ : ByteArray), .int .i64 k, errV c] ∧ Below w.heap.size w w' := by
  go_enter Tryz.func106, Tryz.ntmps106
  go_wp2
  go_ret
  exact ⟨rfl, Blk.new _ _ _, (by repeat (first | exact Below.refl _ _ | assumption | apply Below.drew | apply below_drewN | apply Bel.alloc | (refine Bel.setCell_ ?_ ?_; rotate_left; omega) | (refine Bel.step ?_ (by assumption))))⟩
theorem blk_chain {w : World} {g : Nat} {t : TypeId} {s : ByteArray} {k c : Int} (h : Blk w g t #[.string s, .int .i64 k, errV c]) : Chain w (fltV g 0) [(s, k)] c := by
  obtain ⟨h0, h1, h2⟩ := h.three
  exact ⟨g, 0, errV c, rfl, h0, h1, h2, rfl⟩

/-! a weight that is set -/
theorem Rd3.setW {W : World} {b o m a : Nat} {x y z u : Int} {l : List Tri} (h : Rd3 W (some ⟨b, o, none⟩) m l) (ha : l[a]? = some (x, y, z)) :
    Rd3 (W.setCell ⟨b, o + a * 3 + 2, none⟩ (.int .i64 u)) (some ⟨b, o, none⟩) m (l.set a (x, y, u)) := by
  refine ⟨by rw [List.length_set]; exact h.1, fun i p hp => ?_⟩
  by_cases e : a = i
  · subst e
    rw [List.getElem?_set_self (List.getElem?_eq_some_iff.1 ha).1] at hp
    cases hp
    obtain ⟨b', o', e', h1, h2, h3⟩ := h.2 a _ ha
    cases e'
    refine ⟨b, o, rfl, ?_, ?_, World.cell?_setCell_same _ _ _ h3⟩
    · rw [World.cell?_setCell_other _ _ _ _ (by intro h; simp only [Addr.mk.injEq] at h; omega)]; exact h1
    · rw [World.cell?_setCell_other _ _ _ _ (by intro h; simp only [Addr.mk.injEq] at h; omega)]; exact h2
  · rw [List.getElem?_set_ne e] at hp
    obtain ⟨b', o', e', h1, h2, h3⟩ := h.2 i _ hp
    cases e'
    refine ⟨b, o, rfl, ?_, ?_, ?_⟩
    · rw [World.cell?_setCell_other _ _ _ _ (by intro h; simp only [Addr.mk.injEq] at h; omega)]; exact h1
    · rw [World.cell?_setCell_other _ _ _ _ (by intro h; simp only [Addr.mk.injEq] at h; omega)]; exact h2
    · rw [World.cell?_setCell_other _ _ _ _ (by intro h; simp only [Addr.mk.injEq] at h; omega)]; exact h3
theorem Warm.set {W : World} {A : Option Addr} (h : Warm W A) (p : Addr) (v : Value) : Warm (W.setCell p v) A := fun b hb =>
  ⟨Nat.lt_of_lt_of_le (h b hb).1 (by simp [World.setCell]), fun o => by rw [World.frozen?_setCell]; exact (h b hb).2 o⟩
theorem GrR.setW {W : World} {F G : Nat → Prop} {g b o : Nat} {A C I O P : Option Addr} {n m k c d e ci co cp : Nat} {N : NetD} {a : Nat} {x y z u : Int}
    (h : GrR W F G g A (some ⟨b, o, none⟩) C I O P n m k c d e ci co cp N) (ha : N.ar[a]? = some (x, y, z)) (hu : wOk u = true) :
    GrR (W.setCell ⟨b, o + a * 3 + 2, none⟩ (.int .i64 u)) F G g A (some ⟨b, o, none⟩) C I O P n m k c d e ci co cp (N.setW a x y u) := by
  have hk : Kept G W (W.setCell ⟨b, o + a * 3 + 2, none⟩ (.int .i64 u)) := Kept.set W b _ _ (h.net.ga b rfl)
  have hA := alike_set ha u
  have hz : (W.setCell ⟨b, o + a * 3 + 2, none⟩ (.int .i64 u)).heap.size = W.heap.size := by simp [World.setCell]
  refine ⟨⟨h.net.vs.le hk.msk, h.net.ar.setW ha, h.net.ts.le (fun c' o' v hc' hc => ?_) hk.msk, h.net.wa.set _ _, h.net.wt.set _ _, h.net.ga, h.net.gt, h.net.ac⟩, (hk g h.gg h.blk.lt).trans h.blk, h.gg, ?_, ?_, ?_, h.sub, fun b' hb' => by rw [hz]; exact h.lt b' hb', h.ok.setW ha hu, h.c0, h.c1, h.c2⟩
  · have : b ≠ c' := fun e => h.net.ac b rfl (by rw [e]; exact hc')
    rw [World.cell?_setCell_other _ _ _ _ (by intro h; simp only [Addr.mk.injEq] at h; omega)]; exact hc
  · show RdT _ I n (idxs (·.2.1) (N.ar.set a (x, y, u)) n)
    rw [idxs_congr hA.2]
    exact h.ins.le hk.msk
  · show RdT _ O n (idxs (·.1) (N.ar.set a (x, y, u)) n)
    rw [idxs_congr hA.1]
    exact h.outs.le hk.msk
  · show RdP _ P m (plcs (N.ar.set a (x, y, u)))
    rw [plcs_congr hA]
    exact h.plc.le hk.msk
theorem below_set {B : Nat} {W : World} {p : Addr} (h : B ≤ p.block) (v : Value) : Below B W (W.setCell p v) := (Below.refl _ _).setCell h v

set_option maxHeartbeats 1000000 in
theorem gSet_ok (g a : Nat) (x y z u : Int) (N : NetD) (F : Nat → Prop) (w : World) (h : GrO w F g N) (ha : N.ar[a]? = some (x, y, z)) (hu : wOk u = true) :
    Calls Tryz.prog 47 #[.pointer (some ⟨g, 0, none⟩), .int .i64 a, .int .i64 u] w fun e w' => e = .returned .nilIface ∧ GrO w' F g (N.setW a x y u) ∧ Kept (fun b => ¬ F b) w w' ∧ w.heap.size ≤ w'.heap.size ∧ ∀ B, (∀ b, F b → B ≤ b) → Below B w w' := by
  have hla := (List.getElem?_eq_some_iff.1 ha).1
  have HA := Lib.hid (gArc_ok g N a w h.rd (by omega) (by omega))
  have HW := Lib.hid (show ∀ V, Calls Tryz.prog 81 #[.int .i64 u] V fun e w' => e = .returned (.bool true) ∧ V = w' from fun V => by
    have := costWeight_any u V
    rw [hu] at this
    exact this)
  obtain ⟨G, A, B, C, I, O, P, n, m, k, c, d, e, ci, co, cp, hR⟩ := h
  have hlm : a < m := by rw [hR.net.ar.1] at hla; exact hla
  obtain ⟨b, o, eB, c0, c1, c2⟩ := hR.net.ar.2 a _ ha
  subst eB
  have n1 : w.cell? ⟨g, 1, none⟩ = some (.slice (some ⟨b, o, none⟩) m d) := by rw [hR.blk.cell]; rfl
  have HN := Lib.hid (hR.setW ha hu)
  have hf := (hR.net.wa b rfl).2 (o + a * 3 + 2)
  have HF := Lib.hid (hR.sub b (.inr (.inl rfl)))
  have i1 : (0 : Int) ≤ (a : Int) := by omega
  have i2 : (a : Int) < (m : Int) := by omega
  clear hR ha hu hla c0 c1
  go_enter Tryz.func47, Tryz.ntmps47
  go_wp2_with fail
  with_reducible refine HA.out.mono ?_
  rintro r w' ⟨rfl, rfl⟩
  go_wp2_with fail
  with_reducible refine (HW.out _).mono ?_
  rintro r w' ⟨rfl, rfl⟩
  go_wp2_with fail
  go_ret
  refine ⟨rfl, ⟨G, A, _, C, I, O, P, n, m, k, c, d, e, ci, co, cp, HN.out⟩, Kept.set _ _ _ _ (fun hn => hn HF.out), by simp [World.setCell], fun B' hB => below_set (hB b HF.out) _⟩
theorem gSet_no1 (g : Nat) (a u : Int) (N : NetD) (w : World) (h : RdGr w g N) (ha : ¬ (0 ≤ a ∧ a < N.ar.length)) :
    Calls Tryz.prog 47 #[.pointer (some ⟨g, 0, none⟩), .int .i64 a, .int .i64 u] w fun e w' => ∃ v, e = .returned v ∧ Chain w' v [((⟨#[103, 114, 97, 112, 104]⟩ : ByteArray), a)] 5 ∧ Below w.heap.size w w' := by
  have HA := Lib.hid (gArc_no g N a w h ha)
  clear h ha
  go_enter Tryz.func47, Tryz.ntmps47
  go_wp2_with fail
  with_reducible refine HA.out.mono ?_
  rintro r w' ⟨rfl, rfl⟩
  go_wp2_with fail
  with_reducible refine (gFault_any _ _ [] 5 _ (chain_one _ 5)).mono ?_
  rintro r w' ⟨v, rfl, hc, hb⟩
  obtain ⟨tv, xv, rfl⟩ := chain_not_nil hc
  have HCH := Lib.hid hc
  clear hc
  go_wp2_with fail
  go_ret
  exact ⟨_, rfl, HCH.out, (by repeat (first | exact Below.refl _ _ | assumption | apply Below.drew | apply below_drewN | apply Bel.alloc | (refine Bel.setCell_ ?_ ?_; rotate_left; omega) | (refine Bel.step ?_ (by assumption))))⟩
theorem gSet_no2 (g : Nat) (a u : Int) (N : NetD) (w : World) (h : RdGr w g N) (h0 : 0 ≤ a) (h1 : a < N.ar.length) (hu : wOk u = false) :
    Calls Tryz.prog 47 #[.pointer (some ⟨g, 0, none⟩), .int .i64 a, .int .i64 u] w fun e w' => ∃ v, e = .returned v ∧ Chain w' v [((⟨#[103, 114, 97, 112, 104]⟩ : ByteArray), a)] 8 ∧ Below w.heap.size w w' := by
  have HA := Lib.hid (gArc_ok g N a w h h0 h1)
  have HW := Lib.hid (show ∀ V, Calls Tryz.prog 81 #[.int .i64 u] V fun e w' => e = .returned (.bool false) ∧ V = w' from fun V => by
    have := costWeight_any u V
    rw [hu] at this
    exact this)
  clear h h0 h1 hu
  go_enter Tryz.func47, Tryz.ntmps47
  go_wp2_with fail
  with_reducible refine HA.out.mono ?_
  rintro r w' ⟨rfl, rfl⟩
  go_wp2_with fail
  with_reducible refine (HW.out _).mono ?_
  rintro r w' ⟨rfl, rfl⟩
  go_wp2_with fail
  with_reducible refine (gFault_any _ _ [] 8 _ (chain_one _ 8)).mono ?_
  rintro r w' ⟨v, rfl, hc, hb⟩
  obtain ⟨tv, xv, rfl⟩ := chain_not_nil hc
  have HCH := Lib.hid hc
  clear hc
  go_wp2_with fail
  go_ret
  exact ⟨_, rfl, HCH.out, (by repeat (first | exact Below.refl _ _ | assumption | apply Below.drew | apply below_drewN | apply Bel.alloc | (refine Bel.setCell_ ?_ ?_; rotate_left; omega) | (refine Bel.step ?_ (by assumption))))⟩
end Go.Proofs.YtgkeolddpielpaaGreatDoor

/- turn.With. -/
namespace Go.Proofs.YtgkeolddpielpaaGreatDoor
open Go.RowKit

attribute [local go_sem ↓] Go.wp_at_zero Go.wp_at_succ

theorem Own.setAt {W : World} {B n c k s g o : Nat} {e : TypeId} {xs : List Value} (h : Own W B e s (some ⟨g, o, none⟩) n c xs) (v : Value) : Own (W.setCell ⟨g, o + k, none⟩ v) B e s (some ⟨g, o, none⟩) n c (xs.set k v) := by
  refine ⟨by rw [List.length_set]; exact h.1, ?_⟩
  rcases h.2 with ⟨h', _⟩ | ⟨g', cap', cur, h1, h2, h3, h4, h5, h6, h7⟩
  · cases h'
  · cases h1
    refine Or.inr ⟨g, c, cur.setIfInBounds (0 + k) v, rfl, h2, (show Blk W g e cur from h3).set_ (0 + k) _, h4, h5, by simpa using h6, ?_⟩
    rw [Array.toList_setIfInBounds, List.take_set, h7, Nat.zero_add]
theorem icells_setAt (l : List Int) (k : Nat) (x : Int) : (icells l).set k (.int .i64 x) = icells (l.set k x) := by simp [icells, List.map_set]
/-- The place of a turn in its table. -/
theorem turn_at {p q n i o : Nat} (hn : (n : Int) = (p : Int) * (q : Int)) (hi : i < p) (ho : o < q) : i * q + o < n := by
  have h1 : n = p * q := by exact_mod_cast hn
  have h2 : (i + 1) * q ≤ p * q := Nat.mul_le_mul_right _ hi
  rw [Nat.add_mul, Nat.one_mul] at h2
  omega

set_option maxHeartbeats 1000000 in
theorem tWith_ok (A : Option Addr) (n c p q i o : Nat) (cs : List Int) (u : Int) (w : World) (h : RdI w A n cs) (ht : TabOk ⟨p, q, cs⟩) (hi : i < p) (ho : o < q) (hu : wOk u = true) :
    Calls Tryz.prog 84 #[.agg #[.int .i64 p, .int .i64 q, .slice A n c], .int .i64 i, .int .i64 o, .int .i64 u] w fun e w' => ∃ A' c', e = .returned (.tuple #[.agg #[.int .i64 p, .int .i64 q, .slice A' n c'], .nilIface]) ∧ Own w' w.heap.size 2 1 A' n c' (icells (cs.set (i * q + o) u)) ∧ Below w.heap.size w w' := by
  have hlen : (n : Int) = (p : Int) * (q : Int) := by have := ht.len; simp only at this; rw [h.1] at this; exact this
  have hkn := turn_at hlen hi ho
  have hm := mul_bd ht.i0 ht.i16 ht.o0 ht.o16
  simp only at hm
  have hn : n ≤ 256 := by omega
  have HCK := Lib.hid (fun (V : World) (hV : Below w.heap.size w V) => turnCheck_ok A n c ⟨p, q, cs⟩ V (h.below hV) ht)
  simp only at HCK
  have HCL := Lib.hid (fun (V : World) (hV : Below w.heap.size w V) => cloneL_any A n c (icells cs) V ((h.below hV).rdsI) (icells_one _) (by omega))
  have HW := Lib.hid (show ∀ V, Calls Tryz.prog 81 #[.int .i64 u] V fun e w' => e = .returned (.bool true) ∧ V = w' from fun V => by
    have := costWeight_any u V
    rw [hu] at this
    exact this)
  have hq16 : q ≤ 16 := by have := ht.o16; simp only at this; omega
  have hp16 : p ≤ 16 := by have := ht.i16; simp only at this; omega
  obtain ⟨k0, hk0⟩ : ∃ k0, k0 = i * q := ⟨_, rfl⟩
  obtain ⟨k, hk⟩ : ∃ k, k = i * q + o := ⟨_, rfl⟩
  rw [← hk] at hkn
  have m1 : (i : Int) * (q : Int) = (k0 : Int) := by rw [hk0]; simp
  have m2 : (k0 : Int) + (o : Int) = (k : Int) := by omega
  have wk0 : IntKind.i64.wrap (k0 : Int) = (k0 : Int) := IntWalk.i64_in _ (by omega)
  have wk : IntKind.i64.wrap (k : Int) = (k : Int) := IntWalk.i64_in _ (by omega)
  have i1 : ¬ ((i : Int) < 0) := by omega
  have i2 : ¬ ((p : Int) ≤ (i : Int)) := by omega
  have i3 : ¬ ((o : Int) < 0) := by omega
  have i4 : ¬ ((q : Int) ≤ (o : Int)) := by omega
  have i5 : (0 : Int) ≤ (k : Int) := by omega
  have i6 : (k : Int) < (n : Int) := by omega
  rw [← hk]
  have HKN := Lib.hid hkn
  clear h ht hu hlen hm hk0 hk hkn hi ho hq16 hp16
  go_enter Tryz.func84, Tryz.ntmps84
  go_wp2_with fail
  with_reducible refine (HW.out _).mono ?_
  rintro r w' ⟨rfl, rfl⟩
  go_wp2_with fail
  (refine calls_named ?_; intro w1 hw1)
  have hb1 : Below w.heap.size w w1 := by rw [hw1]; exact (by repeat (first | exact Below.refl _ _ | assumption | apply Below.drew | apply below_drewN | apply Bel.alloc | (refine Bel.setCell_ ?_ ?_; rotate_left; omega) | (refine Bel.step ?_ (by assumption))))
  have hT1 : Blk w1 w.heap.size 129 #[.int .i64 p, .int .i64 q, .slice A n c] := by rw [hw1]; exact (by repeat (first | assumption | (refine Blk.new' _ _ _ ?_; first | with_unfolding_all rfl | (simp; done)) | apply Blk.drewN | apply Blk.drew | apply Blk.alloc | (refine Blk.far_ ?_ ?_ _; rotate_left; omega)))
  have hR1 : Blk w1 (w.heap.size + 1) 129 #[.int .i64 0, .int .i64 0, .slice none 0 0] := by rw [hw1]; exact (by repeat (first | assumption | (refine Blk.new' _ _ _ ?_; first | with_unfolding_all rfl | (simp; done)) | apply Blk.drewN | apply Blk.drew | apply Blk.alloc | (refine Blk.far_ ?_ ?_ _; rotate_left; omega)))
  have hz1 : w.heap.size + 2 ≤ w1.heap.size := by rw [hw1]; simp
  clear hw1
  with_reducible refine (HCK.out w1 hb1).mono ?_
  rintro r w2 ⟨rfl, hb2⟩
  have hb2' := Bel.step hb1 hb2
  have hT2 := hT1.below hb2 hT1.lt
  have hR2 := hR1.below hb2 hR1.lt
  have hz2 : w.heap.size + 2 ≤ w2.heap.size := Nat.le_trans hz1 hb2.size
  clear hT1 hR1 hb1 hb2 hz1
  obtain ⟨t0, t1, t2⟩ := hT2.three
  go_wp2_with fail
  with_reducible refine (HCL.out w2 hb2').mono ?_
  rintro r w3 ⟨A3, c3, rfl, hown, hb3⟩
  have hb3' := Bel.step hb2' hb3
  have hT3 := hT2.below hb3 hT2.lt
  have hR3 := hR2.below hb3 hR2.lt
  have hz3 : w.heap.size + 2 ≤ w3.heap.size := Nat.le_trans hz2 hb3.size
  have hown := hown.mono hz2
  clear hT2 hR2 hb2' hb3 hz2 t0 t1 t2
  obtain ⟨gb, cur, rfl, hg0, hgb, _, hcz, hcu⟩ := hown.block (by have := HKN.out; omega)
  obtain ⟨t0, t1, t2⟩ := hT3.three
  have ft2 := hT3.frozen 2
  have ne1 : ¬ gb = w.heap.size := by omega
  have ne2 : ¬ w.heap.size = gb := by omega
  obtain ⟨v0, hv0⟩ : ∃ v0, cur[k]? = some v0 := ⟨_, Array.getElem?_eq_getElem (by have := HKN.out; omega)⟩
  have ck : w3.cell? ⟨gb, k, none⟩ = some v0 := by rw [hgb.cell]; exact hv0
  have fk := hgb.frozen k
  obtain ⟨r0, r1, r2⟩ := hR3.three
  have fr0 := hR3.frozen 0
  have fr1 := hR3.frozen 1
  have fr2 := hR3.frozen 2
  have hO1 : Own (w3.setCell ⟨w.heap.size, 2, none⟩ (.slice (some ⟨gb, 0, none⟩) n c3)) (w.heap.size + 2) 2 1 (some ⟨gb, 0, none⟩) n c3 (icells cs) := ownsRow_setCell_below hown (by simp only; omega) _
  have HO := Lib.hid (hO1.setAt (k := k) (.int .i64 u))
  clear hO1
  clear hown hgb hcz hcu hv0
  go_wp2_with fail
  refine bodyPost_ret (v := .tuple #[.agg #[.int .i64 p, .int .i64 q, .slice (some ⟨gb, 0, none⟩) n c3], .nilIface]) (by simp [results, Tryz.results84, go_sem, r0, r1, r2]) rfl ?_
  refine ⟨_, _, rfl, ?_, ((((hb3'.setCell (Nat.le_refl _) _).setCell (by simp only; omega) _).setCell (by simp only; omega) _).setCell (by simp only; omega) _).setCell (by simp only; omega) _⟩
  have h1 := HO.out
  rw [Nat.zero_add, icells_setAt] at h1
  exact Own.mono (ownsRow_setCell_below (ownsRow_setCell_below (ownsRow_setCell_below h1 (a := ⟨w.heap.size + 1, 0, none⟩) (by simp only; omega) _) (a := ⟨w.heap.size + 1, 1, none⟩) (by simp only; omega) _) (a := ⟨w.heap.size + 1, 2, none⟩) (by simp only; omega) _) (by omega)
/-- What a turn that can't be changed is told as. -/
def withNo (p q i o u : Int) : Option (Int × Int) := if i < 0 ∨ p ≤ i then some (0, 5) else if o < 0 ∨ q ≤ o then some (1, 5) else if wOk u = false then some (2, 8) else none
set_option maxHeartbeats 1000000 in
theorem tWith_no (A : Option Addr) (n c : Nat) (p q i o u x y : Int) (w : World) (h : withNo p q i o u = some (x, y)) :
    Calls Tryz.prog 84 #[.agg #[.int .i64 p, .int .i64 q, .slice A n c], .int .i64 i, .int .i64 o, .int .i64 u] w fun e w' => ∃ v, e = .returned (.tuple #[.agg #[.int .i64 0, .int .i64 0, .slice none 0 0], v]) ∧ Chain w' v [((⟨#[116, 117, 114, 110]⟩ : ByteArray), x)] y ∧ Below w.heap.size w w' := by
  unfold withNo at h
  by_cases i1 : i < 0
  · rw [if_pos (.inl i1)] at h
    cases h
    go_enter Tryz.func84, Tryz.ntmps84
    go_wp2_with fail
    (refine calls_named ?_; intro w1 hw1)
    have hb1 : Below w.heap.size w w1 := by rw [hw1]; exact (by repeat (first | exact Below.refl _ _ | assumption | apply Below.drew | apply below_drewN | apply Bel.alloc | (refine Bel.setCell_ ?_ ?_; rotate_left; omega) | (refine Bel.step ?_ (by assumption))))
    have hR1 : Blk w1 (w.heap.size + 1) 129 #[.int .i64 0, .int .i64 0, .slice none 0 0] := by rw [hw1]; exact (by repeat (first | assumption | (refine Blk.new' _ _ _ ?_; first | with_unfolding_all rfl | (simp; done)) | apply Blk.drewN | apply Blk.drew | apply Blk.alloc | (refine Blk.far_ ?_ ?_ _; rotate_left; omega)))
    have hz1 : w.heap.size + 2 ≤ w1.heap.size := by rw [hw1]; simp
    clear hw1
    with_reducible refine (tFault_x _ _ _).mono ?_
    rintro r w2 ⟨rfl, hc, hb⟩
    have hb2 := Bel.step hb1 hb
    have hR2 := hR1.below hb hR1.lt
    clear hb hR1 hb1
    obtain ⟨r0, r1, r2⟩ := hR2.three
    have fr0 := hR2.frozen 0
    have fr1 := hR2.frozen 1
    have fr2 := hR2.frozen 2
    go_wp2_with fail
    refine bodyPost_ret (v := .tuple #[.agg #[.int .i64 0, .int .i64 0, .slice none 0 0], fltV w1.heap.size 0]) (by simp [results, Tryz.results84, go_sem, r0, r1, r2]) rfl ?_
    exact ⟨_, rfl, blk_chain (((hc.far (by simp only; omega) _).far (by simp only; omega) _).far (by simp only; omega) _), ((hb2.setCell (by simp only; omega) _).setCell (by simp only; omega) _).setCell (by simp only; omega) _⟩
  by_cases i2 : p ≤ i
  · rw [if_pos (.inr i2)] at h
    cases h
    go_enter Tryz.func84, Tryz.ntmps84
    go_wp2_with fail
    (refine calls_named ?_; intro w1 hw1)
    have hb1 : Below w.heap.size w w1 := by rw [hw1]; exact (by repeat (first | exact Below.refl _ _ | assumption | apply Below.drew | apply below_drewN | apply Bel.alloc | (refine Bel.setCell_ ?_ ?_; rotate_left; omega) | (refine Bel.step ?_ (by assumption))))
    have hR1 : Blk w1 (w.heap.size + 1) 129 #[.int .i64 0, .int .i64 0, .slice none 0 0] := by rw [hw1]; exact (by repeat (first | assumption | (refine Blk.new' _ _ _ ?_; first | with_unfolding_all rfl | (simp; done)) | apply Blk.drewN | apply Blk.drew | apply Blk.alloc | (refine Blk.far_ ?_ ?_ _; rotate_left; omega)))
    have hz1 : w.heap.size + 2 ≤ w1.heap.size := by rw [hw1]; simp
    clear hw1
    with_reducible refine (tFault_x _ _ _).mono ?_
    rintro r w2 ⟨rfl, hc, hb⟩
    have hb2 := Bel.step hb1 hb
    have hR2 := hR1.below hb hR1.lt
    clear hb hR1 hb1
    obtain ⟨r0, r1, r2⟩ := hR2.three
    have fr0 := hR2.frozen 0
    have fr1 := hR2.frozen 1
    have fr2 := hR2.frozen 2
    go_wp2_with fail
    refine bodyPost_ret (v := .tuple #[.agg #[.int .i64 0, .int .i64 0, .slice none 0 0], fltV w1.heap.size 0]) (by simp [results, Tryz.results84, go_sem, r0, r1, r2]) rfl ?_
    exact ⟨_, rfl, blk_chain (((hc.far (by simp only; omega) _).far (by simp only; omega) _).far (by simp only; omega) _), ((hb2.setCell (by simp only; omega) _).setCell (by simp only; omega) _).setCell (by simp only; omega) _⟩
  rw [if_neg (by omega)] at h
  by_cases o1 : o < 0
  · rw [if_pos (.inl o1)] at h
    cases h
    go_enter Tryz.func84, Tryz.ntmps84
    go_wp2_with fail
    (refine calls_named ?_; intro w1 hw1)
    have hb1 : Below w.heap.size w w1 := by rw [hw1]; exact (by repeat (first | exact Below.refl _ _ | assumption | apply Below.drew | apply below_drewN | apply Bel.alloc | (refine Bel.setCell_ ?_ ?_; rotate_left; omega) | (refine Bel.step ?_ (by assumption))))
    have hR1 : Blk w1 (w.heap.size + 1) 129 #[.int .i64 0, .int .i64 0, .slice none 0 0] := by rw [hw1]; exact (by repeat (first | assumption | (refine Blk.new' _ _ _ ?_; first | with_unfolding_all rfl | (simp; done)) | apply Blk.drewN | apply Blk.drew | apply Blk.alloc | (refine Blk.far_ ?_ ?_ _; rotate_left; omega)))
    have hz1 : w.heap.size + 2 ≤ w1.heap.size := by rw [hw1]; simp
    clear hw1
    with_reducible refine (tFault_x _ _ _).mono ?_
    rintro r w2 ⟨rfl, hc, hb⟩
    have hb2 := Bel.step hb1 hb
    have hR2 := hR1.below hb hR1.lt
    clear hb hR1 hb1
    obtain ⟨r0, r1, r2⟩ := hR2.three
    have fr0 := hR2.frozen 0
    have fr1 := hR2.frozen 1
    have fr2 := hR2.frozen 2
    go_wp2_with fail
    refine bodyPost_ret (v := .tuple #[.agg #[.int .i64 0, .int .i64 0, .slice none 0 0], fltV w1.heap.size 0]) (by simp [results, Tryz.results84, go_sem, r0, r1, r2]) rfl ?_
    exact ⟨_, rfl, blk_chain (((hc.far (by simp only; omega) _).far (by simp only; omega) _).far (by simp only; omega) _), ((hb2.setCell (by simp only; omega) _).setCell (by simp only; omega) _).setCell (by simp only; omega) _⟩
  by_cases o2 : q ≤ o
  · rw [if_pos (.inr o2)] at h
    cases h
    go_enter Tryz.func84, Tryz.ntmps84
    go_wp2_with fail
    (refine calls_named ?_; intro w1 hw1)
    have hb1 : Below w.heap.size w w1 := by rw [hw1]; exact (by repeat (first | exact Below.refl _ _ | assumption | apply Below.drew | apply below_drewN | apply Bel.alloc | (refine Bel.setCell_ ?_ ?_; rotate_left; omega) | (refine Bel.step ?_ (by assumption))))
    have hR1 : Blk w1 (w.heap.size + 1) 129 #[.int .i64 0, .int .i64 0, .slice none 0 0] := by rw [hw1]; exact (by repeat (first | assumption | (refine Blk.new' _ _ _ ?_; first | with_unfolding_all rfl | (simp; done)) | apply Blk.drewN | apply Blk.drew | apply Blk.alloc | (refine Blk.far_ ?_ ?_ _; rotate_left; omega)))
    have hz1 : w.heap.size + 2 ≤ w1.heap.size := by rw [hw1]; simp
    clear hw1
    with_reducible refine (tFault_x _ _ _).mono ?_
    rintro r w2 ⟨rfl, hc, hb⟩
    have hb2 := Bel.step hb1 hb
    have hR2 := hR1.below hb hR1.lt
    clear hb hR1 hb1
    obtain ⟨r0, r1, r2⟩ := hR2.three
    have fr0 := hR2.frozen 0
    have fr1 := hR2.frozen 1
    have fr2 := hR2.frozen 2
    go_wp2_with fail
    refine bodyPost_ret (v := .tuple #[.agg #[.int .i64 0, .int .i64 0, .slice none 0 0], fltV w1.heap.size 0]) (by simp [results, Tryz.results84, go_sem, r0, r1, r2]) rfl ?_
    exact ⟨_, rfl, blk_chain (((hc.far (by simp only; omega) _).far (by simp only; omega) _).far (by simp only; omega) _), ((hb2.setCell (by simp only; omega) _).setCell (by simp only; omega) _).setCell (by simp only; omega) _⟩
  rw [if_neg (by omega)] at h
  cases hu : wOk u
  · rw [if_pos hu] at h
    cases h
    have HW := Lib.hid (show ∀ V, Calls Tryz.prog 81 #[.int .i64 u] V fun e w' => e = .returned (.bool false) ∧ V = w' from fun V => by
      have := costWeight_any u V
      rw [hu] at this
      exact this)
    clear hu
    go_enter Tryz.func84, Tryz.ntmps84
    go_wp2_with fail
    with_reducible refine (HW.out _).mono ?_
    rintro r w' ⟨rfl, rfl⟩
    go_wp2_with fail
    (refine calls_named ?_; intro w1 hw1)
    have hb1 : Below w.heap.size w w1 := by rw [hw1]; exact (by repeat (first | exact Below.refl _ _ | assumption | apply Below.drew | apply below_drewN | apply Bel.alloc | (refine Bel.setCell_ ?_ ?_; rotate_left; omega) | (refine Bel.step ?_ (by assumption))))
    have hR1 : Blk w1 (w.heap.size + 1) 129 #[.int .i64 0, .int .i64 0, .slice none 0 0] := by rw [hw1]; exact (by repeat (first | assumption | (refine Blk.new' _ _ _ ?_; first | with_unfolding_all rfl | (simp; done)) | apply Blk.drewN | apply Blk.drew | apply Blk.alloc | (refine Blk.far_ ?_ ?_ _; rotate_left; omega)))
    have hz1 : w.heap.size + 2 ≤ w1.heap.size := by rw [hw1]; simp
    clear hw1
    with_reducible refine (tFault_x _ _ _).mono ?_
    rintro r w2 ⟨rfl, hc, hb⟩
    have hb2 := Bel.step hb1 hb
    have hR2 := hR1.below hb hR1.lt
    clear hb hR1 hb1
    obtain ⟨r0, r1, r2⟩ := hR2.three
    have fr0 := hR2.frozen 0
    have fr1 := hR2.frozen 1
    have fr2 := hR2.frozen 2
    go_wp2_with fail
    refine bodyPost_ret (v := .tuple #[.agg #[.int .i64 0, .int .i64 0, .slice none 0 0], fltV w1.heap.size 0]) (by simp [results, Tryz.results84, go_sem, r0, r1, r2]) rfl ?_
    exact ⟨_, rfl, blk_chain (((hc.far (by simp only; omega) _).far (by simp only; omega) _).far (by simp only; omega) _), ((hb2.setCell (by simp only; omega) _).setCell (by simp only; omega) _).setCell (by simp only; omega) _⟩
  · rw [if_neg (by rw [hu]; simp)] at h
    cases h
end Go.Proofs.YtgkeolddpielpaaGreatDoor
