/- OverDown, the plain part: what enters a cell above level 1 enters one of its kids. -/
import Derived.Test.YtgkeolddpielpaaGreatOd
import Derived.Test.YtgkeolddpielpaaGreatKo
namespace Go.Proofs.YtgkeolddpielpaaGreat

/-- An arc of a gate's ins: where it stands. -/
theorem mem_gate1 {ar : List Tri} {l : List Int} {c : Nat} {x : GateD} (hx : (gateRow ar l)[c]? = some x) {y : Int} : y ∈ x.1 ↔ y ∈ crossL ar l ∧ toC ar l y = (c : Int) := by
  have hc : c < (mostN l).toNat := by rw [← gateRow_len ar l]; exact (List.getElem?_eq_some_iff.1 hx).1
  rw [gateRow_get hc] at hx
  cases hx
  simp only [List.mem_filter, beq_iff_eq]
theorem mem_gate2 {ar : List Tri} {l : List Int} {c : Nat} {x : GateD} (hx : (gateRow ar l)[c]? = some x) {y : Int} : y ∈ x.2 ↔ y ∈ crossL ar l ∧ frC ar l y = (c : Int) := by
  have hc : c < (mostN l).toNat := by rw [← gateRow_len ar l]; exact (List.getElem?_eq_some_iff.1 hx).1
  rw [gateRow_get hc] at hx
  cases hx
  simp only [List.mem_filter, beq_iff_eq]
theorem mem_cross {ar : List Tri} {l : List Int} {y : Int} : y ∈ crossL ar l ↔ ∃ (a : Nat) (t : Tri), y = (a : Int) ∧ ar[a]? = some t ∧ cellOf l t.1 ≠ cellOf l t.2.1 := by
  unfold crossL arcP
  rw [List.mem_map]
  constructor
  · rintro ⟨p, hp, rfl⟩
    obtain ⟨h1, h2⟩ := List.mem_filter.1 hp
    refine ⟨p.2, p.1, rfl, (List.mem_zipIdx_iff_getElem?.1 h1), ?_⟩
    simpa [crossB] using h2
  · rintro ⟨a, t, rfl, h1, h2⟩
    exact ⟨(t, a), List.mem_filter.2 ⟨List.mem_zipIdx_iff_getElem?.2 h1, by simpa [crossB] using h2⟩, rfl⟩
theorem cellOf_get {l : List Int} {v : Nat} (h : v < l.length) : l[v]? = some (cellOf l (v : Int)) := by
  rw [cellOf_nat (List.getElem?_eq_getElem h), List.getElem?_eq_getElem h]
theorem gate_there {ar : List Tri} {n : Nat} {l : List Int} (hl : LvlOk n l) {z : Int} (hz : z ∈ l) : ∃ q : Nat, z = (q : Int) ∧ ∃ y, (gateRow ar l)[q]? = some y := by
  have h0 := hl.lo z hz
  have h1 := lt_mostN hz
  exact ⟨z.toNat, by omega, _, gateRow_get (by omega)⟩
/-- The two ends' cells: apart above, apart below. -/
theorem apart_below {l lb : List Int} {n u v : Nat} (hn : NestOk lb l) (h1 : l.length = n) (h2 : lb.length = n) (hu : u < n) (hv : v < n) (h : cellOf l (u : Int) ≠ cellOf l (v : Int)) : cellOf lb (u : Int) ≠ cellOf lb (v : Int) := by
  intro e
  have a1 := cellOf_get (l := l) (v := u) (by omega)
  have a2 := cellOf_get (l := l) (v := v) (by omega)
  have b1 := cellOf_get (l := lb) (v := u) (by omega)
  have b2 := cellOf_get (l := lb) (v := v) (by omega)
  have c1 := hn u v _ _ _ _ b1 b2 a1 a2 (by omega)
  have c2 := hn v u _ _ _ _ b2 b1 a2 a1 (by omega)
  exact h (by omega)
/-- What enters a cell above level 1. -/
theorem down_in {ar : List Tri} {ls : List (List Int)} {n j c k : Nat} {l lb : List Int} {x : GateD} {z : Int} (hP : PartOk n ls) (hA : ∀ t ∈ ar, ArcOk n t) (hl : ls[j + 1]? = some l) (hb : ls[j]? = some lb) (hx : (gateRow ar l)[c]? = some x) (hz : x.1[k]? = some z) :
    ∃ (aa v q : Nat) (y : GateD), z = (aa : Int) ∧ (ar.map (·.2.1))[aa]? = some (v : Int) ∧ lb[v]? = some (q : Int) ∧ (gateRow ar lb)[q]? = some y ∧ (aa : Int) ∈ y.1 ∧ (q : Int) ∈ kidsOf l lb (c : Int) n := by
  have hL := hP.lvl l (List.mem_of_getElem? hl)
  have hB := hP.lvl lb (List.mem_of_getElem? hb)
  obtain ⟨h1, h2⟩ := (mem_gate1 hx).1 (List.mem_of_getElem? hz)
  obtain ⟨aa, t, rfl, ht, hne⟩ := mem_cross.1 h1
  have hT := hA t (List.mem_of_getElem? ht)
  obtain ⟨v, hv⟩ : ∃ v : Nat, t.2.1 = (v : Int) := ⟨t.2.1.toNat, by have := hT.g0; omega⟩
  obtain ⟨u, hu⟩ : ∃ u : Nat, t.1 = (u : Int) := ⟨t.1.toNat, by have := hT.f0; omega⟩
  have hvn : v < n := by have := hT.g1; omega
  have hun : u < n := by have := hT.f1; omega
  have e1 := cellOf_get (l := l) (v := v) (by rw [hL.len]; exact hvn)
  have e2 := cellOf_get (l := lb) (v := v) (by rw [hB.len]; exact hvn)
  rw [toC_nat ht, hv] at h2
  rw [h2] at e1
  rw [hu, hv] at hne
  obtain ⟨q, hq, y, hy⟩ := gate_there (ar := ar) hB (List.mem_of_getElem? e2)
  refine ⟨aa, v, q, y, rfl, by rw [List.getElem?_map, ht, Option.map_some, hv], by rw [e2, hq], hy, ?_, ?_⟩
  · refine (mem_gate1 hy).2 ⟨mem_cross.2 ⟨aa, t, rfl, ht, ?_⟩, by rw [toC_nat ht, hv, hq]⟩
    rw [hu, hv]
    exact apart_below (hP.nest j lb l hb hl) hL.len hB.len hun hvn hne
  · exact (mem_kidsOf hL.len hB.len).2 ⟨v, e1, by rw [e2, hq]⟩
theorem down_out {ar : List Tri} {ls : List (List Int)} {n j c k : Nat} {l lb : List Int} {x : GateD} {z : Int} (hP : PartOk n ls) (hA : ∀ t ∈ ar, ArcOk n t) (hl : ls[j + 1]? = some l) (hb : ls[j]? = some lb) (hx : (gateRow ar l)[c]? = some x) (hz : x.2[k]? = some z) :
    ∃ (aa v q : Nat) (y : GateD), z = (aa : Int) ∧ (ar.map (·.1))[aa]? = some (v : Int) ∧ lb[v]? = some (q : Int) ∧ (gateRow ar lb)[q]? = some y ∧ (aa : Int) ∈ y.2 ∧ (q : Int) ∈ kidsOf l lb (c : Int) n := by
  have hL := hP.lvl l (List.mem_of_getElem? hl)
  have hB := hP.lvl lb (List.mem_of_getElem? hb)
  obtain ⟨h1, h2⟩ := (mem_gate2 hx).1 (List.mem_of_getElem? hz)
  obtain ⟨aa, t, rfl, ht, hne⟩ := mem_cross.1 h1
  have hT := hA t (List.mem_of_getElem? ht)
  obtain ⟨v, hv⟩ : ∃ v : Nat, t.2.1 = (v : Int) := ⟨t.2.1.toNat, by have := hT.g0; omega⟩
  obtain ⟨u, hu⟩ : ∃ u : Nat, t.1 = (u : Int) := ⟨t.1.toNat, by have := hT.f0; omega⟩
  have hvn : v < n := by have := hT.g1; omega
  have hun : u < n := by have := hT.f1; omega
  have e1 := cellOf_get (l := l) (v := u) (by rw [hL.len]; exact hun)
  have e2 := cellOf_get (l := lb) (v := u) (by rw [hB.len]; exact hun)
  rw [frC_nat ht, hu] at h2
  rw [h2] at e1
  rw [hu, hv] at hne
  obtain ⟨q, hq, y, hy⟩ := gate_there (ar := ar) hB (List.mem_of_getElem? e2)
  refine ⟨aa, u, q, y, rfl, by rw [List.getElem?_map, ht, Option.map_some, hu], by rw [e2, hq], hy, ?_, ?_⟩
  · refine (mem_gate2 hy).2 ⟨mem_cross.2 ⟨aa, t, rfl, ht, ?_⟩, by rw [frC_nat ht, hu, hq]⟩
    rw [hu, hv]
    exact apart_below (hP.nest j lb l hb hl) hL.len hB.len hun hvn hne
  · exact (mem_kidsOf hL.len hB.len).2 ⟨u, e1, by rw [e2, hq]⟩
/-- Each cell of a level has who stands in it. -/
theorem cell_there {n c : Nat} {l : List Int} (hl : LvlOk n l) (hc : c < (mostN l).toNat) : (c : Int) ∈ l := hl.all c (by omega)
end Go.Proofs.YtgkeolddpielpaaGreat
