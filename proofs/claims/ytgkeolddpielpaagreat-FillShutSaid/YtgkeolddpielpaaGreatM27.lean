/- Parts of the proof: ChP, FsP, RfC, RfI. -/
import Derived.Test.YtgkeolddpielpaaGreatM26
/- Changed nets; the number of an entry, one by one: plain. -/
namespace Go.Proofs.YtgkeolddpielpaaGreat
open Go.RowKit

theorem idx_congrZ (f : Tri → Int) (v : Int) : ∀ (l m : List Tri) (k : Nat), l.map f = m.map f → ((l.zipIdx k).filter (fun p => f p.1 == v)).map (fun p => (p.2 : Int)) = ((m.zipIdx k).filter (fun p => f p.1 == v)).map (fun p => (p.2 : Int))
  | [], [], _, _ => rfl
  | [], _ :: _, _, h => by simp at h
  | _ :: _, [], _, h => by simp at h
  | a :: l, b :: m, k, h => by
    simp only [List.map_cons, List.cons.injEq] at h
    have ih := idx_congrZ f v l m (k + 1) h.2
    simp only [List.zipIdx_cons, List.filter_cons, h.1]
    split
    · simp only [List.map_cons, ih]
    · exact ih
theorem idx_congr {f : Tri → Int} {l m : List Tri} (h : l.map f = m.map f) (v : Int) : idx f l v = idx f m v := idx_congrZ f v l m 0 h
theorem idxs_congr {f : Tri → Int} {l m : List Tri} (h : l.map f = m.map f) (n : Nat) : idxs f l n = idxs f m n := by
  unfold idxs
  simp only [idx_congr h]
/-- Rows of arcs that go alike. -/
def Alike (l m : List Tri) : Prop := l.map (·.1) = m.map (·.1) ∧ l.map (·.2.1) = m.map (·.2.1)
theorem Alike.len {l m : List Tri} (h : Alike l m) : l.length = m.length := by
  have := congrArg List.length h.1
  simpa using this
theorem Alike.take {l m : List Tri} (h : Alike l m) (k : Nat) : Alike (l.take k) (m.take k) := ⟨by rw [List.map_take, List.map_take, h.1], by rw [List.map_take, List.map_take, h.2]⟩
theorem Alike.get {l m : List Tri} (h : Alike l m) {i : Nat} {a : Tri} (ha : l[i]? = some a) : ∃ b, m[i]? = some b ∧ b.1 = a.1 ∧ b.2.1 = a.2.1 := by
  have hi := (List.getElem?_eq_some_iff.1 ha).1
  have him : i < m.length := by rw [← h.len]; exact hi
  have hm : m[i]? = some m[i] := List.getElem?_eq_getElem him
  have e1 := congrArg (·[i]?) h.1
  have e2 := congrArg (·[i]?) h.2
  simp only [List.getElem?_map, ha, hm, Option.map_some, Option.some.injEq] at e1 e2
  exact ⟨_, hm, e1.symm, e2.symm⟩
theorem Alike.symm {l m : List Tri} (h : Alike l m) : Alike m l := ⟨h.1.symm, h.2.symm⟩
theorem alike_set {l : List Tri} {a : Nat} {x y z : Int} (h : l[a]? = some (x, y, z)) (u : Int) : Alike (l.set a (x, y, u)) l := by
  have hl := (List.getElem?_eq_some_iff.1 h).1
  refine ⟨?_, ?_⟩ <;>
  · apply List.ext_getElem?
    intro i
    simp only [List.getElem?_map]
    by_cases e : a = i
    · subst e
      rw [List.getElem?_set_self hl, h]
      rfl
    · rw [List.getElem?_set_ne e]
theorem plcs_congr {l m : List Tri} (h : Alike l m) : plcs l = plcs m := by
  apply List.ext_getElem?
  intro i
  rcases Nat.lt_or_ge i l.length with hi | hi
  · have ha : l[i]? = some l[i] := List.getElem?_eq_getElem hi
    obtain ⟨b, hb, e1, e2⟩ := h.get ha
    rw [plcs_get ha, plcs_get hb]
    unfold plcOf
    rw [idx_congr (h.take i).2, idx_congr (h.take i).1, e1, e2]
  · rw [List.getElem?_eq_none (by rw [plcs_len]; exact hi), List.getElem?_eq_none (by rw [plcs_len, ← h.len]; exact hi)]
theorem cnt_congr {f : Tri → Int} {l m : List Tri} (h : l.map f = m.map f) (v : Int) : l.countP (fun a => f a == v) = m.countP (fun a => f a == v) := by
  rw [← idx_len, ← idx_len, idx_congr h]
/-- A net of which arc a, that goes from x to y, costs u. -/
def NetD.setW (N : NetD) (a : Nat) (x y u : Int) : NetD := ⟨N.vs, N.ar.set a (x, y, u), N.ts⟩
/-- A net of which table p is t. -/
def NetD.bend (N : NetD) (p : Nat) (t : TabD) : NetD := ⟨N.vs, N.ar, N.ts.set p t⟩
/-- A table of which one turn costs c. -/
def TabD.turn (t : TabD) (i : Nat) (c : Int) : TabD := ⟨t.ins, t.outs, t.costs.set i c⟩
theorem NetOk.setW {N : NetD} (h : NetOk N) {a : Nat} {x y z u : Int} (ha : N.ar[a]? = some (x, y, z)) (hu : wOk u = true) : NetOk (N.setW a x y u) where
  lv := h.lv
  la := by show (N.ar.set a (x, y, u)).length ≤ _; rw [List.length_set]; exact h.la
  lt := h.lt
  tabs := h.tabs
  verts := h.verts
  arcs := fun t ht => by
    rcases List.mem_or_eq_of_mem_set ht with ht | rfl
    · exact h.arcs t ht
    · have := h.arcs _ (List.mem_of_getElem? ha)
      exact ⟨this.f0, this.f1, this.g0, this.g1, hu⟩
  meet := fun i v t hv ht => by
    have h1 := h.meet i v t hv ht
    have hA := alike_set ha u
    unfold cntTo cntFr at *
    show ((List.countP _ (N.ar.set a (x, y, u)) : Nat) : Int) = _ ∧ ((List.countP _ (N.ar.set a (x, y, u)) : Nat) : Int) = _
    rw [cnt_congr hA.2, cnt_congr hA.1]
    exact h1
theorem TabOk.turn {t : TabD} (h : TabOk t) {i : Nat} {c : Int} (hc : wOk c = true) : TabOk (t.turn i c) where
  i0 := h.i0
  i16 := h.i16
  o0 := h.o0
  o16 := h.o16
  len := by show ((t.costs.set i c).length : Int) = _; rw [List.length_set]; exact h.len
  ok := fun d hd => by
    rcases List.mem_or_eq_of_mem_set hd with hd | rfl
    · exact h.ok d hd
    · exact hc
theorem NetOk.bend {N : NetD} (h : NetOk N) {p : Nat} {t : TabD} (ht : N.ts[p]? = some t) {i : Nat} {c : Int} (hc : wOk c = true) : NetOk (N.bend p (t.turn i c)) where
  lv := h.lv
  la := h.la
  lt := by show (N.ts.set p _).length ≤ _; rw [List.length_set]; exact h.lt
  tabs := fun s hs => by
    rcases List.mem_or_eq_of_mem_set hs with hs | rfl
    · exact h.tabs s hs
    · exact (h.tabs t (List.mem_of_getElem? ht)).turn hc
  verts := fun v hv => by
    have := h.verts v hv
    have hl : (N.ts.set p (t.turn i c)).length = N.ts.length := List.length_set ..
    exact ⟨this.x, this.y, this.t0, by show v.2.2 < ((N.ts.set p (t.turn i c)).length : Int); rw [hl]; exact this.t1⟩
  arcs := h.arcs
  meet := fun j v s hv hs => by
    have hs : (N.ts.set p (t.turn i c))[v.2.2.toNat]? = some s := hs
    by_cases e : p = v.2.2.toNat
    · rw [e, List.getElem?_set_self (by rw [← e]; exact (List.getElem?_eq_some_iff.1 ht).1)] at hs
      cases hs
      exact h.meet j v t hv (by rw [← e]; exact ht)
    · rw [List.getElem?_set_ne e] at hs
      exact h.meet j v s hv hs
theorem FewOk.setW {N : NetD} (h : FewOk N) (a : Nat) (x y u : Int) : FewOk (N.setW a x y u) :=
  ⟨h.v, by show (N.ar.set a (x, y, u)).length ≤ _; rw [List.length_set]; exact h.a, h.t, h.c⟩
theorem FewOk.bend {N : NetD} (h : FewOk N) {p : Nat} {t : TabD} (ht : N.ts[p]? = some t) (i : Nat) (c : Int) : FewOk (N.bend p (t.turn i c)) :=
  ⟨h.v, h.a, by show (N.ts.set p _).length ≤ _; rw [List.length_set]; exact h.t, fun s hs => by
    rcases List.mem_or_eq_of_mem_set hs with hs | rfl
    · exact h.c s hs
    · show (t.costs.set i c).length ≤ _
      rw [List.length_set]
      exact h.c t (List.mem_of_getElem? ht)⟩
theorem setW_same {N : NetD} {a : Nat} {x y z : Int} (h : N.ar[a]? = some (x, y, z)) (u : Int) : (N.setW a x y u).vs = N.vs ∧ Alike (N.setW a x y u).ar N.ar := ⟨rfl, alike_set h u⟩

/-! the number of an entry, one by one -/
theorem ent_out (s a n b : Nat) : s + (a * n + b) + 1 = s + (a * n + (b + 1)) := by omega
theorem ent_in (s a n : Nat) : s + (a * n + n) = s + (a + 1) * n := by rw [Nat.add_mul, Nat.one_mul]
end Go.Proofs.YtgkeolddpielpaaGreat

/- FillShut, plain: nets whose weights are changed. -/
namespace Go.Proofs.YtgkeolddpielpaaGreat
open Go.RowKit

/-- M is N, but for the weights of arcs of X. -/
structure Chg (N M : NetD) (X : Nat → Prop) : Prop where
  vs : M.vs = N.vs
  ts : M.ts = N.ts
  al : Alike M.ar N.ar
  w : ∀ (b : Nat) (y z : Tri), N.ar[b]? = some y → M.ar[b]? = some z → z.2.2 = y.2.2 ∨ X b
  ok : NetOk M
theorem Chg.refl {N : NetD} (h : NetOk N) (X : Nat → Prop) : Chg N N X := ⟨rfl, rfl, ⟨rfl, rfl⟩, fun b y z h1 h2 => by rw [h1] at h2; cases h2; exact .inl rfl, h⟩
theorem Alike.trans {l m n : List Tri} (h : Alike l m) (g : Alike m n) : Alike l n := ⟨h.1.trans g.1, h.2.trans g.2⟩
theorem Chg.mono {N M : NetD} {X Y : Nat → Prop} (h : Chg N M X) (hs : ∀ b, X b → Y b) : Chg N M Y := ⟨h.vs, h.ts, h.al, fun b y z h1 h2 => (h.w b y z h1 h2).imp id (hs b), h.ok⟩
theorem Chg.setW {N M : NetD} {X : Nat → Prop} (h : Chg N M X) {a : Nat} {x y z u : Int} (ha : M.ar[a]? = some (x, y, z)) (hu : wOk u = true) (hX : X a) : Chg N (M.setW a x y u) X := by
  refine ⟨h.vs, h.ts, (alike_set ha u).trans h.al, fun b p q h1 h2 => ?_, h.ok.setW ha hu⟩
  have h3 : (M.ar.set a (x, y, u))[b]? = some q := h2
  by_cases e : a = b
  · subst e; exact .inr hX
  · rw [List.getElem?_set_ne e] at h3
    exact h.w b p q h1 h3
theorem Alike.getD {l m : List Tri} (h : Alike l m) (i : Nat) : (l.getD i (0, 0, 0)).1 = (m.getD i (0, 0, 0)).1 ∧ (l.getD i (0, 0, 0)).2.1 = (m.getD i (0, 0, 0)).2.1 := by
  simp only [List.getD_eq_getElem?_getD]
  cases ha : l[i]? with
  | none =>
    have : m[i]? = none := List.getElem?_eq_none (by rw [← h.len]; exact List.getElem?_eq_none_iff.1 ha)
    rw [this]
    exact ⟨rfl, rfl⟩
  | some a =>
    obtain ⟨b, hb, e1, e2⟩ := h.get ha
    rw [hb]
    exact ⟨e1.symm, e2.symm⟩
theorem arcP_congrZ (P : Tri → Bool) : ∀ (l m : List Tri) (k : Nat), l.map P = m.map P → ((l.zipIdx k).filter (fun p => P p.1)).map (fun p => (p.2 : Int)) = ((m.zipIdx k).filter (fun p => P p.1)).map (fun p => (p.2 : Int))
  | [], [], _, _ => rfl
  | [], _ :: _, _, h => by simp at h
  | _ :: _, [], _, h => by simp at h
  | a :: l, b :: m, k, h => by
    simp only [List.map_cons, List.cons.injEq] at h
    have ih := arcP_congrZ P l m (k + 1) h.2
    simp only [List.zipIdx_cons, List.filter_cons, h.1]
    split
    · simp only [List.map_cons, ih]
    · exact ih
theorem Alike.cross {l m : List Tri} (h : Alike l m) (c : List Int) : crossL l c = crossL m c := by
  refine arcP_congrZ (crossB c) l m 0 ?_
  apply List.ext_getElem?
  intro i
  simp only [List.getElem?_map]
  cases ha : l[i]? with
  | none =>
    have : m[i]? = none := List.getElem?_eq_none (by rw [← h.len]; exact List.getElem?_eq_none_iff.1 ha)
    rw [this]
  | some a =>
    obtain ⟨b, hb, e1, e2⟩ := h.get ha
    rw [hb]
    simp only [Option.map_some, crossB, e1, e2]
theorem Alike.gateRow {l m : List Tri} (h : Alike l m) (c : List Int) : gateRow l c = gateRow m c := by
  have h1 : ∀ a, toC l c a = toC m c a := fun a => by unfold toC; rw [(h.getD a.toNat).2]
  have h2 : ∀ a, frC l c a = frC m c a := fun a => by unfold frC; rw [(h.getD a.toNat).1]
  unfold YtgkeolddpielpaaGreat.gateRow
  rw [h.cross c]
  simp only [h1, h2]
theorem Alike.gatesOf {l m : List Tri} (h : Alike l m) (ls : List (List Int)) : gatesOf l ls = gatesOf m ls := by
  unfold YtgkeolddpielpaaGreat.gatesOf
  refine List.map_congr_left (fun c _ => h.gateRow c)
theorem RdOv.alike {W : World} {o : Nat} {l m : List Tri} {ls : List (List Int)} (h : RdOv W o l ls) (ha : Alike m l) : RdOv W o m ls := by
  obtain ⟨Q, F, T, G, S, L, k, cq, cf, ct, cg, cs, h⟩ := h
  have e := ha.gatesOf ls
  exact ⟨Q, F, T, G, S, L, k, cq, cf, ct, cg, cs, h.n0, h.n1, h.n2, h.n3, h.n4, by rw [e]; exact h.n5, h.part, by rw [ha.1]; exact h.fr, by rw [ha.2]; exact h.to, by rw [e]; exact h.gates, by rw [e]; exact h.starts, h.c0⟩
section
variable {N M : NetD} {X : Nat → Prop}
theorem Chg.turn (h : Chg N M X) (a b : Nat) : turnN M a b = turnN N a b := by
  have hp := plcs_congr h.al
  unfold turnN
  rw [h.vs, h.ts]
  cases ha : M.ar[a]? with
  | none =>
    have : N.ar[a]? = none := List.getElem?_eq_none (by rw [← h.al.len]; exact List.getElem?_eq_none_iff.1 ha)
    rw [this]
  | some x =>
    obtain ⟨x', hx', e1, e2⟩ := h.al.get ha
    rw [hx']
    cases hb : M.ar[b]? with
    | none =>
      have : N.ar[b]? = none := List.getElem?_eq_none (by rw [← h.al.len]; exact List.getElem?_eq_none_iff.1 hb)
      rw [this]
    | some y =>
      obtain ⟨y', hy', e3, e4⟩ := h.al.get hb
      rw [hy']
      have p1 : plcOf M.ar a x = plcOf N.ar a x' := by
        have := congrArg (·[a]?) hp
        simp only [plcs_get ha, plcs_get hx', Option.some.injEq] at this
        exact this
      have p2 : plcOf M.ar b y = plcOf N.ar b y' := by
        have := congrArg (·[b]?) hp
        simp only [plcs_get hb, plcs_get hy', Option.some.injEq] at this
        exact this
      simp only [e2, e3, p1, p2]
theorem Chg.stA (h : Chg N M X) {mk : List Bool} (hX : ∀ (b : Nat) (y : Tri), X b → N.ar[b]? = some y → mk.getD y.1.toNat false = true → mk.getD y.2.1.toNat false = true → False) (a b : Nat) (d : Int) : StA M mk a b d ↔ StA N mk a b d := by
  unfold StA
  rw [h.turn a b]
  constructor
  · rintro ⟨z, hz, h1, h2, h3, h4, h5⟩
    obtain ⟨y, hy, e1, e2⟩ := h.al.get hz
    have hw : z.2.2 = y.2.2 := (h.w b y z hy hz).resolve_right (fun hx => hX b y hx hy (by rw [e1]; exact h3) (by rw [e2]; exact h4))
    exact ⟨y, hy, h1, by rw [← hw]; exact h2, by rw [e1]; exact h3, by rw [e2]; exact h4, by rw [← hw]; exact h5⟩
  · rintro ⟨y, hy, h1, h2, h3, h4, h5⟩
    obtain ⟨z, hz, e1, e2⟩ := h.al.symm.get hy
    have hw : z.2.2 = y.2.2 := (h.w b y z hy hz).resolve_right (fun hx => hX b y hx hy h3 h4)
    exact ⟨z, hz, h1, by rw [hw]; exact h2, by rw [e1]; exact h3, by rw [e2]; exact h4, by rw [hw]; exact h5⟩
theorem Chg.ouA (h : Chg N M X) (a t : Nat) (d : Int) : OuA M a t d ↔ OuA N a t d := by
  unfold OuA
  rw [h.turn a t]
theorem Chg.entC (h : Chg N M X) {mk : List Bool} (hX : ∀ (b : Nat) (y : Tri), X b → N.ar[b]? = some y → mk.getD y.1.toNat false = true → mk.getD y.2.1.toNat false = true → False) {s t : Nat} {v : Int} (g : EntC M mk s t v) : EntC N mk s t v := by
  have e1 : StA M mk = StA N mk := by funext a b d; exact propext (h.stA hX a b d)
  have e2 : OuA M = OuA N := by funext a b d; exact propext (h.ouA a b d)
  unfold EntC at g ⊢
  rw [← e1, ← e2]
  exact g
end
theorem nest_up {n : Nat} {ls : List (List Int)} (hP : PartOk n ls) {u v : Nat} (hu : u < n) (hv : v < n) : ∀ (k i : Nat) (l l' : List Int), ls[i]? = some l → ls[i + k]? = some l' → cellOf l (u : Int) = cellOf l (v : Int) → cellOf l' (u : Int) = cellOf l' (v : Int) := by
  intro k
  induction k with
  | zero =>
    intro i l l' h1 h2 h3
    rw [Nat.add_zero, h1] at h2
    cases h2
    exact h3
  | succ k ih =>
    intro i l l' h1 h2 h3
    obtain ⟨l2, hl2⟩ : ∃ l2, ls[i + k]? = some l2 := ⟨_, List.getElem?_eq_getElem (by have := (List.getElem?_eq_some_iff.1 h2).1; omega)⟩
    have h4 := ih i l l2 h1 hl2 h3
    apply Classical.byContradiction
    intro hne
    exact apart_below (hP.nest (i + k) l2 l' hl2 h2) (hP.lvl l' (List.mem_of_getElem? h2)).len (hP.lvl l2 (List.mem_of_getElem? hl2)).len hu hv hne h4
/-- Arc b crosses at a level. -/
def Crs (N : NetD) (l : List Int) (b : Nat) : Prop := ∃ y, N.ar[b]? = some y ∧ cellOf l y.1 ≠ cellOf l y.2.1
theorem crs_out {N : NetD} (hok : NetOk N) {ls : List (List Int)} (hP : PartOk N.vs.length ls) {i li c : Nat} {l l' : List Int} (hl : ls[i]? = some l) (hl' : ls[li]? = some l') (hi : i ≤ li) (b : Nat) (y : Tri) (hX : Crs N l' b) (hy : N.ar[b]? = some y) (h1 : (mkOf l c).getD y.1.toNat false = true) (h2 : (mkOf l c).getD y.2.1.toNat false = true) : False := by
  obtain ⟨y', hy', hne⟩ := hX
  rw [hy] at hy'
  cases hy'
  have ho := hok.arcs y (List.mem_of_getElem? hy)
  have f0 := ho.f0; have f1 := ho.f1; have g0 := ho.g0; have g1 := ho.g1
  obtain ⟨u, hu⟩ : ∃ u : Nat, y.1 = (u : Int) := ⟨y.1.toNat, by omega⟩
  obtain ⟨v, hv⟩ : ∃ v : Nat, y.2.1 = (v : Int) := ⟨y.2.1.toNat, by omega⟩
  rw [hu, Int.toNat_natCast, mkOf_true] at h1
  rw [hv, Int.toNat_natCast, mkOf_true] at h2
  rw [hu, hv] at hne
  obtain ⟨k, rfl⟩ : ∃ k, li = i + k := ⟨li - i, by omega⟩
  exact hne (nest_up hP (by omega) (by omega) k i l l' hl hl' (by rw [cellOf_nat h1, cellOf_nat h2]))
/-- What weights of arcs that cross do not turn. -/
theorem shut_now {N M : NetD} (hok : NetOk N) {ls : List (List Int)} (hP : PartOk N.vs.length ls) {li : Nat} {l' : List Int} (hl' : ls[li]? = some l') (hc : Chg N M (Crs N l')) {cl cm : List Int} (h1 : IsAll N ls cl) (h2 : IsAll M ls cm) {k i c a b s t : Nat} {l : List Int} {x : GateD} (he : IsEnt N ls k i l c x a b s t) (hi : i ≤ li) {v v' : Int} (hv : cl[k]? = some v) (hv' : cm[k]? = some v') : v' = v := by
  have he' : IsEnt M ls k i l c x a b s t := ⟨he.hl, by rw [hc.al.gateRow]; exact he.hx, he.ha, he.hb, by rw [hc.al.gateRow, hc.al.gatesOf]; exact he.hk⟩
  obtain ⟨u, e1, g1⟩ := h1.at_ he
  obtain ⟨u', e2, g2⟩ := h2.at_ he'
  rw [hv] at e1; cases e1
  rw [hv'] at e2; cases e2
  exact (hc.entC (fun b y hX hy => crs_out hok hP he.hl hl' hi b y hX hy) g2).uniq g1
/-- With every arc at INF an entry is a turn. -/
theorem shut_turn {N M : NetD} {X : Nat → Prop} {ls : List (List Int)} (hc : Chg N M X) (hI : ∀ (b : Nat) (z : Tri), M.ar[b]? = some z → z.2.2 = 1152921504606846976) {cm : List Int} (h2 : IsAll M ls cm) {k i c a b s t : Nat} {l : List Int} {x : GateD} (he : IsEnt N ls k i l c x a b s t) {v : Int} (hv : cm[k]? = some v) : v = turnN N s t := by
  have he' : IsEnt M ls k i l c x a b s t := ⟨he.hl, by rw [hc.al.gateRow]; exact he.hx, he.ha, he.hb, by rw [hc.al.gateRow, hc.al.gatesOf]; exact he.hk⟩
  obtain ⟨u, e1, g1⟩ := h2.at_ he'
  rw [hv] at e1; cases e1
  rw [← hc.turn]
  have hr : ∀ p d, Rch (StA M (mkOf l c)) s p d → p = s ∧ d = 0 := by
    intro p d h
    induction h with
    | start => exact ⟨rfl, rfl⟩
    | step _ h2 _ =>
      obtain ⟨y, hy, _, h4, _⟩ := h2
      exact absurd (hI _ y hy) h4
  rcases g1 with ⟨⟨p, d, e, g1, g2, rfl⟩, _⟩ | ⟨rfl, g1⟩
  · obtain ⟨rfl, rfl⟩ := hr p d g1
    rw [g2.2]
    omega
  · apply Classical.byContradiction
    intro hne
    exact g1 _ ⟨s, 0, turnN M s t, .start, ⟨fun e => hne (by rw [e]; rfl), rfl⟩, rfl⟩
end Go.Proofs.YtgkeolddpielpaaGreat

/- The document's Has, Cross. -/
namespace Go.Proofs.YtgkeolddpielpaaGreat
open Go.RowKit

attribute [local go_sem ↓] Go.wp_at_zero Go.wp_at_succ

theorem refHas_ok (Q : Option Addr) (L cq i : Nat) (w : World) (hi : i < L) :
    Calls Tryz.prog 51 #[.agg #[.slice Q L cq], .int .i64 ((i : Int) + 1)] w fun r w' => r = .returned (.bool true) ∧ Below w.heap.size w w' := by
  have i1 : (1 : Int) ≤ (i : Int) + 1 := by omega
  have i2 : (i : Int) + 1 ≤ (L : Int) := by omega
  go_enter Tryz.func51, Tryz.ntmps51
  go_wp2
  go_ret
  exact ⟨ret_bool (by first | (simp; done) | (simp; omega)), bELt⟩
set_option maxHeartbeats 2000000 in
theorem refCross_ok (A B C Q : Option Addr) (n m k c d e L cq li : Nat) (N : NetD) (ls : List (List Int)) (l : List Int) (w : World) (h : RdNet w A B C n m k N) (hok : NetOk N) (hq : RdT w Q L ls) (hl : ls[li]? = some l) (hll : l.length = N.vs.length) (hL : L ≤ 1000000) :
    Calls Tryz.prog 25 #[.agg #[.slice A n c, .slice B m d, .slice C k e], .agg #[.slice Q L cq], .int .i64 ((li : Int) + 1)] w fun r w' => ∃ A' n' c', r = .returned (.slice A' n' c') ∧ RdI w' A' n' (crossL N.ar l) ∧ (∀ b, blkOf A' = some b → w.heap.size ≤ b) ∧ Below w.heap.size w w' := by
  have HH := Lib.hid h
  have HM := Lib.hid h.2.1.1
  have hm : m ≤ 16384 := by rw [← h.2.1.1]; exact hok.la
  have hliL : li < L := by rw [← hq.1]; exact (List.getElem?_eq_some_iff.1 hl).1
  obtain ⟨qb, qo, LA, ln, lc, l', rfl, hl', q1, q2, q3, q4⟩ := hq.at_ hliL
  rw [hl] at hl'
  cases hl'
  have hln : ln = N.vs.length := by rw [← q2.1]; exact hll
  have i5 : (li : Int) + 1 - 1 = (li : Int) := by omega
  have i6 : (li : Int) < (L : Int) := by omega
  have i7 : (0 : Int) ≤ (li : Int) := by omega
  have wl : IntKind.i64.wrap (li : Int) = (li : Int) := IntWalk.i64_in _ (by omega)
  have HQ := Lib.hid q2
  have HQ1 := Lib.hid q1
  have HLN := Lib.hid hln
  have hlv := hok.lv
  have HAR := Lib.hid hok.arcs
  clear h hq hl q1 q2 q3 q4 hll hln hok
  go_enter Tryz.func25, Tryz.ntmps25
  go_wp2_with fail
  (refine wp_named ?_; intro w1 hw1)
  have hb1 : Below w.heap.size w w1 := by rw [hw1]; exact bELt
  have hX : Blk w1 w.heap.size 26 #[.slice A n c, .slice B m d, .slice C k e] := by
    rw [hw1]
    refine Blk.alloc ?_ _
    exact Blk.new _ _ _
  have hY : Blk w1 (w.heap.size + 1) 29 #[.slice (some ⟨qb, qo, none⟩) L cq] := by
    rw [hw1]
    refine Blk.new' _ _ _ ?_
    simp
  clear hw1
  go_loopw [7, 8] (fun z q V => ∃ (i : Nat) (A' : Option Addr) (c' : Nat), i ≤ m ∧ q = .int .i64 i ∧ z = .slice A' (arcP (crossB l) (N.ar.take i)).length c' ∧ Own V w1.heap.size 3 1 A' (arcP (crossB l) (N.ar.take i)).length c' (icells (arcP (crossB l) (N.ar.take i))) ∧ Below w1.heap.size w1 V) (fun _ q _ => m - (intOf q).toNat)
  case atStart => exact ⟨0, none, 0, Nat.zero_le _, rfl, rfl, Own.nil _ _ _ _, Below.refl _ _⟩
  case round =>
    obtain ⟨i, A', c', hi, rfl, rfl, hown, hbl⟩ := hrel
    have hXr := hX.below hbl hX.lt
    have hYr := hY.below hbl hY.lt
    have x1 := hXr.cell 1
    have xl := hXr.lt
    have y0 := hYr.cell 0
    have yl := hYr.lt
    simp only [List.getElem?_toArray, List.getElem?_cons_zero, List.getElem?_cons_succ] at x1 y0
    have hbd : (arcP (crossB l) (N.ar.take i)).length ≤ i := Nat.le_trans (arcP_len _ _) (by rw [List.length_take]; omega)
    have HOW := Lib.hid hown
    obtain ⟨no, hno⟩ : ∃ no, no = (arcP (crossB l) (N.ar.take i)).length := ⟨_, rfl⟩
    rw [← hno] at hbd ⊢
    have HNO := Lib.hid hno
    clear hown hno
    by_cases hlt : i < m
    rotate_left
    · obtain rfl : i = m := by omega
      have i1 : ¬ ((i : Int) < (i : Int)) := by omega
      go_wp2_with fail
      go_ret
      refine ⟨A', no, ⟨c', rfl⟩, ?_, fun b hb => by have := (HOW.out.lt b hb).1; have := hb1.size; omega, Bel.step hb1 hbl⟩
      have := HOW.out.rds.rdI
      rw [List.take_of_length_le (by rw [HM.out]; exact Nat.le_refl _)] at this
      rw [HNO.out, List.take_of_length_le (by rw [HM.out]; exact Nat.le_refl _)]
      exact this
    · have i1 : (i : Int) < (m : Int) := by omega
      have i2 : (0 : Int) ≤ (i : Int) := by omega
      go_wp2_with fail
      with_reducible refine (refHas_ok _ L cq li wr hliL).mono ?_
      rintro r w2 ⟨rfl, hb2⟩
      have hbl2 := Bel.step hbl hb2
      have HOW2 := Lib.hid (HOW.out.below hb2)
      have hbw := Bel.step hb1 hbl2
      clear x1 xl y0 yl hXr hYr hb2 hbl HOW
      obtain ⟨y, hy⟩ : ∃ y, N.ar[i]? = some y := ⟨_, List.getElem?_eq_getElem (by rw [HM.out]; exact hlt)⟩
      obtain ⟨b, o, rfl, c0, c1, c2⟩ := (HH.out.below hbw).2.1.2 i y hy
      have ho := HAR.out y (List.mem_of_getElem? hy)
      have f0 := ho.f0; have f1 := ho.f1; have g0 := ho.g0; have g1 := ho.g1
      obtain ⟨u, hu⟩ : ∃ u : Nat, y.1 = (u : Int) := ⟨y.1.toNat, by omega⟩
      obtain ⟨v, hv⟩ : ∃ v : Nat, y.2.1 = (v : Int) := ⟨y.2.1.toNat, by omega⟩
      rw [hu] at c0
      rw [hv] at c1
      have hun : u < ln := by rw [HLN.out]; omega
      have hvn : v < ln := by rw [HLN.out]; omega
      obtain ⟨b1, o1, z1, rfl, hz1, d1⟩ := (HQ.out.below hbw).at_ hun
      obtain ⟨b1', o1', z2, e', hz2, d2⟩ := (HQ.out.below hbw).at_ hvn
      cases e'
      have hqc := Below.cellOf hbw (Nat.le_refl _) HQ1.out
      have hXr := hX.below hbl2 hX.lt
      have hYr := hY.below hbl2 hY.lt
      have hcr : crossB l y = (z1 != z2) := by
        unfold crossB
        rw [hu, hv, cellOf_nat hz1, cellOf_nat hz2]
      have j1 : (u : Int) < (ln : Int) := by omega
      have j2 : (v : Int) < (ln : Int) := by omega
      have j3 : (0 : Int) ≤ (u : Int) := by omega
      have j4 : (0 : Int) ≤ (v : Int) := by omega
      have HY := Lib.hid hy
      have HCR := Lib.hid hcr
      have HSX := Lib.hid (show ∀ V, Below w2.heap.size w2 V → V.cell? ⟨w.heap.size, 1, none⟩ = some (.slice (some ⟨b, o, none⟩) m d) ∧ V.cell? ⟨w.heap.size + 1, 0, none⟩ = some (.slice (some ⟨qb, qo, none⟩) L cq) ∧ V.cell? ⟨qb, qo + li, none⟩ = some (.slice (some ⟨b1, o1, none⟩) ln lc) ∧ V.cell? ⟨b, o + i * 3, none⟩ = some (.int .i64 u) ∧ V.cell? ⟨b, o + i * 3 + 1, none⟩ = some (.int .i64 v) ∧ V.cell? ⟨b1, o1 + u, none⟩ = some (.int .i64 z1) ∧ V.cell? ⟨b1, o1 + v, none⟩ = some (.int .i64 z2) from
        fun V hV => ⟨by rw [(hXr.below hV hXr.lt).cell]; rfl, by rw [(hYr.below hV hYr.lt).cell]; rfl, Below.cellOf hV (Nat.le_refl _) hqc, Below.cellOf hV (Nat.le_refl _) c0, Below.cellOf hV (Nat.le_refl _) c1, Below.cellOf hV (Nat.le_refl _) d1, Below.cellOf hV (Nat.le_refl _) d2⟩)
      clear hy hcr c0 c1 c2 d1 d2 hqc hXr hYr hu hv hz1 hz2 f0 f1 g0 g1 ho
      go_wp2_with fail
      refine wp_region_held_drew (S := fun V => Below w2.heap.size w2 V) (by kernel_rfl) (Below.refl _ _).drew (fun _ => ?_)
      refine tk 0 21 (h := ⟨_, tv, ?_⟩)
      simp only [pE, List.set]
      refine tk 1 22 (h := ⟨_, tv, ?_⟩)
      simp only [pE, List.set]
      refine tk 2 23 (h := ⟨_, tv, ?_⟩)
      simp only [pE, List.set]
      refine tk 3 24 (h := ⟨_, tv, ?_⟩)
      simp only [pE, List.set]
      refine tk 4 25 (h := ⟨_, tv, ?_⟩)
      simp only [pE, List.set]
      refine tk 5 26 (h := ⟨_, tv, ?_⟩)
      simp only [pE, List.set]
      refine tk 6 27 (h := ⟨_, tv, ?_⟩)
      simp only [pE, List.set]
      refine tk 7 28 (h := ⟨_, tv, ?_⟩)
      simp only [pE, List.set]
      refine tk 8 29 (h := ⟨_, tv, ?_⟩)
      simp only [pE, List.set]
      refine tk 9 30 (h := ⟨_, tv, ?_⟩)
      simp only [pE, List.set]
      refine tk 10 31 (h := ⟨_, tv, ?_⟩)
      simp only [pE, List.set]
      refine tk 11 32 (h := ⟨_, tv, ?_⟩)
      simp only [pE, List.set]
      refine tk 12 33 (h := ⟨_, tv, ?_⟩)
      simp only [pE, List.set]
      refine tk 13 34 (h := ⟨_, tv, ?_⟩)
      simp only [pE, List.set]
      refine tk 14 35 (h := ⟨_, tv, ?_⟩)
      simp only [pE, List.set]
      refine tk 15 36 (h := ⟨_, tv, ?_⟩)
      simp only [pE, List.set]
      refine tk 16 37 (h := ⟨_, tv, ?_⟩)
      simp only [pE, List.set]
      refine tk 17 38 (h := ⟨_, tv, ?_⟩)
      simp only [pE, List.set]
      refine tk 18 39 (h := ⟨_, tv, ?_⟩)
      simp only [pE, List.set]
      refine tk 19 40 (h := ⟨_, tv, ?_⟩)
      simp only [pE, List.set]
      refine tk 20 41 (h := ⟨_, tv, ?_⟩)
      simp only [pE, List.set]
      refine tk 21 42 (h := ⟨_, tv, ?_⟩)
      simp only [pE, List.set]
      refine tk 22 43 (h := ⟨_, tv, ?_⟩)
      simp only [pE, List.set]
      refine tk 23 44 (h := ⟨_, tv, ?_⟩)
      simp only [pE, List.set]
      refine tk 24 45 (h := ⟨_, tv, ?_⟩)
      simp only [pE, List.set]
      refine tk 25 46 (h := ⟨_, tv, ?_⟩)
      simp only [pE, List.set]
      refine tk 26 47 (h := ⟨_, tv, ?_⟩)
      simp only [pE, List.set]
      refine tk 27 48 (h := ⟨_, tv, ?_⟩)
      simp only [pE, List.set]
      refine tk 28 49 (h := ⟨_, tv, ?_⟩)
      simp only [pE, List.set]
      refine wpAnyH_done (by kernel_rfl) ?_ _
      clear HSX
      by_cases hv : z1 = z2
      · have e1 : (z1 != z2) = false := by simpa using hv
        have HN1 := Lib.hid (show arcP (crossB l) (N.ar.take (i + 1)) = arcP (crossB l) (N.ar.take i) by rw [arcP_take HY.out, HCR.out, e1]; simp)
        have HE := Lib.hid hv
        clear hv
        go_wp2_with fail
        go_roundw
        case rel => exact ⟨i + 1, A', c', by omega, by go_num, by rw [HN1.out, HNO.out], by rw [HN1.out]; exact HOW2.out.drew, hbl2.drew⟩
        case measure => simp [intOf]; omega
      · have e1 : (z1 != z2) = true := by simpa using hv
        obtain ⟨W1, hW1⟩ : ∃ W1, W1 = w2.drew := ⟨_, rfl⟩
        have hbW1 : Below w1.heap.size w1 W1 := by rw [hW1]; exact hbl2.drew
        have hown2 : Own W1 w1.heap.size 3 1 A' no c' (icells (arcP (crossB l) (N.ar.take i))) := by
          rw [hW1]
          have := HOW2.out
          rw [← HNO.out] at this
          exact this.drew
        rw [← hW1]
        obtain ⟨W2, hW2⟩ : ∃ W2, W2 = W1.alloc (.cells #[.int .i64 i] 3) := ⟨_, rfl⟩
        have hown3 : Own W2 w1.heap.size 3 1 A' no c' (icells (arcP (crossB l) (N.ar.take i))) := by rw [hW2]; exact hown2.alloc _
        have hrd : Rds W2 1 (some ⟨W1.heap.size, 0, none⟩) 1 (icells [(i : Int)]) := by rw [hW2]; exact (Blk.new W1 3 #[.int .i64 i]).rds rfl
        have hba : Below w1.heap.size w1 W2 := by rw [hW2]; exact Below.alloc hbW1 hbW1.size _
        have hsz : w1.heap.size ≤ W2.heap.size := hba.size
        have HW2 := Lib.hid hW2
        have HE := Lib.hid hv
        clear hW2 hown2 hv hW1 hbW1
        go_wp2_with (at_builtin; rw [← HW2.out]; with_reducible refine wpList_app rfl (.tmp 50) (.tmp 52) 36 rfl 3 _ 1 8 infoInt Tryz.underlying36 rfl (by omega) rfl rfl hown3 hrd (icells_one _) (by omega) (by omega) hsz ?_)
        intro A3 c3 w8 ho8 hg8 _
        have hb8 : Below w1.heap.size w1 w8 := Bel.grownOwn hba hg8 hown3 hsz
        have HN0 := Lib.hid (show arcP (crossB l) (N.ar.take (i + 1)) = arcP (crossB l) (N.ar.take i) ++ [(i : Int)] by rw [arcP_take HY.out, HCR.out, e1, if_pos rfl])
        have HO8 := Lib.hid (show Own w8 w1.heap.size 3 1 A3 (no + 1) c3 (icells (arcP (crossB l) (N.ar.take (i + 1)))) by rw [HN0.out, icells_app]; exact ho8)
        have HN1 := Lib.hid (show (arcP (crossB l) (N.ar.take (i + 1))).length = no + 1 by rw [HN0.out, List.length_append, ← HNO.out]; rfl)
        clear hown3 hrd hba hsz ho8 hg8
        go_wp2_with fail
        go_roundw
        case rel => exact ⟨i + 1, A3, c3, by omega, by go_num, by rw [HN1.out], by rw [HN1.out]; exact HO8.out, hb8⟩
        case measure => simp [intOf]; omega
end Go.Proofs.YtgkeolddpielpaaGreat

/- The document's Ins, Outs. -/
namespace Go.Proofs.YtgkeolddpielpaaGreat
open Go.RowKit

attribute [local go_sem ↓] Go.wp_at_zero Go.wp_at_succ

set_option maxHeartbeats 1000000 in
theorem refIns_any (A B C : Option Addr) (n m k c d e : Nat) (N : NetD) (v : Int) (w : World) (h : RdNet w A B C n m k N) (hm : m ≤ 16384) :
    Calls Tryz.prog 59 #[.agg #[.slice A n c, .slice B m d, .slice C k e], .int .i64 v] w fun r w' => ∃ A' n' c', r = .returned (.slice A' n' c') ∧ RdI w' A' n' (idx (·.2.1) N.ar v) ∧ Below w.heap.size w w' := by
  have HH := Lib.hid h
  have HM := Lib.hid h.2.1.1
  clear h
  go_enter Tryz.func59, Tryz.ntmps59
  go_wp2_with fail
  (refine wp_named ?_; intro w1 hw1)
  have hb1 : Below w.heap.size w w1 := by rw [hw1]; exact bELt
  have hX : Blk w1 w.heap.size 26 #[.slice A n c, .slice B m d, .slice C k e] := by rw [hw1]; exact Blk.new _ _ _
  clear hw1
  go_loopw [5, 6] (fun z q V => ∃ (i : Nat) (A' : Option Addr) (c' : Nat), i ≤ m ∧ q = .int .i64 i ∧ z = .slice A' (idx (·.2.1) (N.ar.take i) v).length c' ∧ Own V w1.heap.size 3 1 A' (idx (·.2.1) (N.ar.take i) v).length c' (icells (idx (·.2.1) (N.ar.take i) v)) ∧ Below w1.heap.size w1 V) (fun _ q _ => m - (intOf q).toNat)
  case atStart => exact ⟨0, none, 0, Nat.zero_le _, rfl, rfl, Own.nil _ _ _ _, Below.refl _ _⟩
  case round =>
    obtain ⟨i, A', c', hi, rfl, rfl, hown, hbl⟩ := hrel
    have hXr := hX.below hbl hX.lt
    have x1 := hXr.cell 1
    have xl := hXr.lt
    simp only [List.getElem?_toArray, List.getElem?_cons_zero, List.getElem?_cons_succ] at x1
    have hbd := idx_bd (·.2.1) N.ar i v
    have HOW := Lib.hid hown
    obtain ⟨no, hno⟩ : ∃ no, no = (idx (·.2.1) (N.ar.take i) v).length := ⟨_, rfl⟩
    rw [← hno] at hbd ⊢
    have HNO := Lib.hid hno
    clear hown hno
    by_cases hlt : i < m
    rotate_left
    · obtain rfl : i = m := by omega
      have i1 : ¬ ((i : Int) < (i : Int)) := by omega
      go_wp2_with fail
      go_ret
      refine ⟨A', no, ⟨c', rfl⟩, ?_, Bel.step hb1 hbl⟩
      have := HOW.out.rds.rdI
      rw [List.take_of_length_le (by rw [HM.out]; exact Nat.le_refl _)] at this
      rw [HNO.out, List.take_of_length_le (by rw [HM.out]; exact Nat.le_refl _)]
      exact this
    · have hbw := Bel.step hb1 hbl
      obtain ⟨y, hy⟩ : ∃ y, N.ar[i]? = some y := ⟨_, List.getElem?_eq_getElem (by rw [HM.out]; exact hlt)⟩
      obtain ⟨b, o, rfl, c0, c1, c2⟩ := (HH.out.below hbw).2.1.2 i y hy
      have HY := Lib.hid hy
      have i1 : (i : Int) < (m : Int) := by omega
      have i2 : (0 : Int) ≤ (i : Int) := by omega
      clear hy
      by_cases hv : y.2.1 = v
      · have e1 : (y.2.1 == v) = true := by simpa using hv
        have hown2 := HOW.out
        rw [← HNO.out] at hown2
        obtain ⟨W2, hW2⟩ : ∃ W2, W2 = wr.alloc (.cells #[.int .i64 i] 3) := ⟨_, rfl⟩
        have hown3 : Own W2 w1.heap.size 3 1 A' no c' (icells (idx (·.2.1) (N.ar.take i) v)) := by rw [hW2]; exact hown2.alloc _
        have hrd : Rds W2 1 (some ⟨wr.heap.size, 0, none⟩) 1 (icells [(i : Int)]) := by rw [hW2]; exact (Blk.new wr 3 #[.int .i64 i]).rds rfl
        have hba : Below w1.heap.size w1 W2 := by rw [hW2]; exact Below.alloc hbl hbl.size _
        have hsz : w1.heap.size ≤ W2.heap.size := hba.size
        have HW2 := Lib.hid hW2
        have HE := Lib.hid hv
        clear hW2 hown2 hv
        go_wp2_with (at_builtin; rw [← HW2.out]; with_reducible refine wpList_app rfl (.tmp 22) (.tmp 24) 36 rfl 3 _ 1 8 infoInt Tryz.underlying36 rfl (by omega) rfl rfl hown3 hrd (icells_one _) (by omega) (by omega) hsz ?_)
        intro A3 c3 w8 ho8 hg8 _
        have hb8 : Below w1.heap.size w1 w8 := Bel.grownOwn hba hg8 hown3 hsz
        have HO8 := Lib.hid (show Own w8 w1.heap.size 3 1 A3 (no + 1) c3 (icells (idx (·.2.1) (N.ar.take (i + 1)) v)) by rw [idx_take HY.out, e1, if_pos rfl, icells_app]; exact ho8)
        have HN1 := Lib.hid (show (idx (·.2.1) (N.ar.take (i + 1)) v).length = no + 1 by rw [idx_take HY.out, e1, if_pos rfl, List.length_append, ← HNO.out]; rfl)
        clear hown3 hrd hba hsz ho8 hg8
        go_wp2_with fail
        go_roundw
        case rel => exact ⟨i + 1, A3, c3, by omega, by go_num, by rw [HN1.out], by rw [HN1.out]; exact HO8.out, hb8⟩
        case measure => simp [intOf]; omega
      · have e1 : (y.2.1 == v) = false := by simpa using hv
        have HN1 := Lib.hid (show idx (·.2.1) (N.ar.take (i + 1)) v = idx (·.2.1) (N.ar.take i) v by rw [idx_take HY.out, e1]; simp)
        have HE := Lib.hid hv
        clear hv
        go_wp2_with fail
        go_roundw
        case rel => exact ⟨i + 1, A', c', by omega, by go_num, by rw [HN1.out, HNO.out], by rw [HN1.out]; exact HOW.out, hbl⟩
        case measure => simp [intOf]; omega
set_option maxHeartbeats 1000000 in
theorem refOuts_any (A B C : Option Addr) (n m k c d e : Nat) (N : NetD) (v : Int) (w : World) (h : RdNet w A B C n m k N) (hm : m ≤ 16384) :
    Calls Tryz.prog 60 #[.agg #[.slice A n c, .slice B m d, .slice C k e], .int .i64 v] w fun r w' => ∃ A' n' c', r = .returned (.slice A' n' c') ∧ RdI w' A' n' (idx (·.1) N.ar v) ∧ Below w.heap.size w w' := by
  have HH := Lib.hid h
  have HM := Lib.hid h.2.1.1
  clear h
  go_enter Tryz.func60, Tryz.ntmps60
  go_wp2_with fail
  (refine wp_named ?_; intro w1 hw1)
  have hb1 : Below w.heap.size w w1 := by rw [hw1]; exact bELt
  have hX : Blk w1 w.heap.size 26 #[.slice A n c, .slice B m d, .slice C k e] := by rw [hw1]; exact Blk.new _ _ _
  clear hw1
  go_loopw [5, 6] (fun z q V => ∃ (i : Nat) (A' : Option Addr) (c' : Nat), i ≤ m ∧ q = .int .i64 i ∧ z = .slice A' (idx (·.1) (N.ar.take i) v).length c' ∧ Own V w1.heap.size 3 1 A' (idx (·.1) (N.ar.take i) v).length c' (icells (idx (·.1) (N.ar.take i) v)) ∧ Below w1.heap.size w1 V) (fun _ q _ => m - (intOf q).toNat)
  case atStart => exact ⟨0, none, 0, Nat.zero_le _, rfl, rfl, Own.nil _ _ _ _, Below.refl _ _⟩
  case round =>
    obtain ⟨i, A', c', hi, rfl, rfl, hown, hbl⟩ := hrel
    have hXr := hX.below hbl hX.lt
    have x1 := hXr.cell 1
    have xl := hXr.lt
    simp only [List.getElem?_toArray, List.getElem?_cons_zero, List.getElem?_cons_succ] at x1
    have hbd := idx_bd (·.1) N.ar i v
    have HOW := Lib.hid hown
    obtain ⟨no, hno⟩ : ∃ no, no = (idx (·.1) (N.ar.take i) v).length := ⟨_, rfl⟩
    rw [← hno] at hbd ⊢
    have HNO := Lib.hid hno
    clear hown hno
    by_cases hlt : i < m
    rotate_left
    · obtain rfl : i = m := by omega
      have i1 : ¬ ((i : Int) < (i : Int)) := by omega
      go_wp2_with fail
      go_ret
      refine ⟨A', no, ⟨c', rfl⟩, ?_, Bel.step hb1 hbl⟩
      have := HOW.out.rds.rdI
      rw [List.take_of_length_le (by rw [HM.out]; exact Nat.le_refl _)] at this
      rw [HNO.out, List.take_of_length_le (by rw [HM.out]; exact Nat.le_refl _)]
      exact this
    · have hbw := Bel.step hb1 hbl
      obtain ⟨y, hy⟩ : ∃ y, N.ar[i]? = some y := ⟨_, List.getElem?_eq_getElem (by rw [HM.out]; exact hlt)⟩
      obtain ⟨b, o, rfl, c0, c1, c2⟩ := (HH.out.below hbw).2.1.2 i y hy
      have HY := Lib.hid hy
      have i1 : (i : Int) < (m : Int) := by omega
      have i2 : (0 : Int) ≤ (i : Int) := by omega
      clear hy
      by_cases hv : y.1 = v
      · have e1 : (y.1 == v) = true := by simpa using hv
        have hown2 := HOW.out
        rw [← HNO.out] at hown2
        obtain ⟨W2, hW2⟩ : ∃ W2, W2 = wr.alloc (.cells #[.int .i64 i] 3) := ⟨_, rfl⟩
        have hown3 : Own W2 w1.heap.size 3 1 A' no c' (icells (idx (·.1) (N.ar.take i) v)) := by rw [hW2]; exact hown2.alloc _
        have hrd : Rds W2 1 (some ⟨wr.heap.size, 0, none⟩) 1 (icells [(i : Int)]) := by rw [hW2]; exact (Blk.new wr 3 #[.int .i64 i]).rds rfl
        have hba : Below w1.heap.size w1 W2 := by rw [hW2]; exact Below.alloc hbl hbl.size _
        have hsz : w1.heap.size ≤ W2.heap.size := hba.size
        have HW2 := Lib.hid hW2
        have HE := Lib.hid hv
        clear hW2 hown2 hv
        go_wp2_with (at_builtin; rw [← HW2.out]; with_reducible refine wpList_app rfl (.tmp 22) (.tmp 24) 36 rfl 3 _ 1 8 infoInt Tryz.underlying36 rfl (by omega) rfl rfl hown3 hrd (icells_one _) (by omega) (by omega) hsz ?_)
        intro A3 c3 w8 ho8 hg8 _
        have hb8 : Below w1.heap.size w1 w8 := Bel.grownOwn hba hg8 hown3 hsz
        have HO8 := Lib.hid (show Own w8 w1.heap.size 3 1 A3 (no + 1) c3 (icells (idx (·.1) (N.ar.take (i + 1)) v)) by rw [idx_take HY.out, e1, if_pos rfl, icells_app]; exact ho8)
        have HN1 := Lib.hid (show (idx (·.1) (N.ar.take (i + 1)) v).length = no + 1 by rw [idx_take HY.out, e1, if_pos rfl, List.length_append, ← HNO.out]; rfl)
        clear hown3 hrd hba hsz ho8 hg8
        go_wp2_with fail
        go_roundw
        case rel => exact ⟨i + 1, A3, c3, by omega, by go_num, by rw [HN1.out], by rw [HN1.out]; exact HO8.out, hb8⟩
        case measure => simp [intOf]; omega
      · have e1 : (y.1 == v) = false := by simpa using hv
        have HN1 := Lib.hid (show idx (·.1) (N.ar.take (i + 1)) v = idx (·.1) (N.ar.take i) v by rw [idx_take HY.out, e1]; simp)
        have HE := Lib.hid hv
        clear hv
        go_wp2_with fail
        go_roundw
        case rel => exact ⟨i + 1, A', c', by omega, by go_num, by rw [HN1.out, HNO.out], by rw [HN1.out]; exact HOW.out, hbl⟩
        case measure => simp [intOf]; omega
end Go.Proofs.YtgkeolddpielpaaGreat
