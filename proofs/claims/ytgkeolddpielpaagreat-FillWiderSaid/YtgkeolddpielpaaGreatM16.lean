/- Parts of the proof: Si, Ko, Dn, En, BaP. -/
import Derived.Test.YtgkeolddpielpaaGreatM15
/- SameInts, law16.Is. -/
namespace Go.Proofs.YtgkeolddpielpaaGreat
open Go.RowKit

attribute [local go_sem ↓] Go.wp_at_zero Go.wp_at_succ

set_option maxHeartbeats 1000000 in
theorem sameInts_any (A B : Option Addr) (n m c d : Nat) (l l2 : List Int) (w : World) (h : RdI w A n l) (h2 : RdI w B m l2) (hn : n ≤ 1000000000) (hm : m ≤ 1000000000) :
    Calls Tryz.prog 33 #[.slice A n c, .slice B m d] w fun e w' => e = .returned (.bool (decide (l = l2))) ∧ ∃ k, w' = w.drewN k := by
  have HR := Lib.hid h
  have HR2 := Lib.hid h2
  have HL := Lib.hid h.1
  have HL2 := Lib.hid h2.1
  clear h h2
  by_cases hnm : n = m
  rotate_left
  · have e1 : ((n : Int) != (m : Int)) = true := by simp; omega
    have e2 : ((n : Int) == (m : Int)) = false := by simp; omega
    have HD := Lib.hid (show decide (l = l2) = false from decide_eq_false (fun e => hnm (by rw [← HL.out, ← HL2.out, e])))
    go_enter Tryz.func33, Tryz.ntmps33
    go_wp2_with fail
    go_ret
    exact ⟨ret_bool HD.out.symm, 0, rfl⟩
  subst hnm
  go_enter Tryz.func33, Tryz.ntmps33
  go_wp2_with fail
  go_loopw [5] (fun q W => (∃ k, W = w.drewN k) ∧ ∃ i : Nat, i ≤ n ∧ q = .int .i64 i ∧ ∀ j, j < i → l[j]? = l2[j]?) (fun q _ => n - (intOf q).toNat)
  case atStart => exact ⟨⟨0, rfl⟩, 0, Nat.zero_le _, rfl, fun _ h => absurd h (Nat.not_lt_zero _)⟩
  case round =>
    obtain ⟨hd, i, hi, rfl, hall⟩ := hrel
    have HD := Lib.hid hd
    have HA := Lib.hid hall
    clear hall
    by_cases hlt : i < n
    · obtain ⟨b, o, x, rfl, hx, hc⟩ := HR.out.at_ hlt
      obtain ⟨b', o', y, rfl, hy, hc'⟩ := HR2.out.at_ hlt
      have hc1 : wr.cell? ⟨b, o + i, none⟩ = some (.int .i64 x) := by obtain ⟨k, rfl⟩ := hd; exact hc
      have hc2 : wr.cell? ⟨b', o' + i, none⟩ = some (.int .i64 y) := by obtain ⟨k, rfl⟩ := hd; exact hc'
      have HX := Lib.hid hx
      have HY := Lib.hid hy
      have i1 : (0 : Int) ≤ (i : Int) := by omega
      have i2 : (i : Int) < (n : Int) := by omega
      clear hx hy hc hc' hd
      by_cases e : x = y
      · subst e
        go_wp2_with fail
        go_quiet (fail)
        go_wp2_with fail
        go_roundw
        case rel =>
          obtain ⟨k, e⟩ := HD.out
          refine ⟨⟨k + nq, by rw [e, World.drewN_drewN]⟩, i + 1, by omega, by go_num, fun j hj => ?_⟩
          by_cases ej : j = i
          · subst ej
            rw [HX.out, HY.out]
          · exact HA.out j (by omega)
        case measure => simp [intOf]; omega
      · have e1 : (x != y) = true := by simpa using e
        have e2 : (x == y) = false := by simpa using e
        have HN := Lib.hid (show decide (l = l2) = false from decide_eq_false (fun ee => by
          have := HX.out
          rw [ee, HY.out] at this
          exact e (Option.some.inj this).symm))
        have HE := Lib.hid e
        clear e
        go_wp2_with fail
        go_quiet (fail)
        go_wp2_with fail
        go_ret
        obtain ⟨k, e⟩ := HD.out
        exact ⟨ret_bool HN.out.symm, k + nq, by rw [e, World.drewN_drewN]⟩
    · obtain rfl : n = i := by omega
      have HE := Lib.hid (show decide (l = l2) = true from decide_eq_true (List.ext_getElem? (fun j => by
        rcases Nat.lt_or_ge j n with h | h
        · exact HA.out j h
        · rw [List.getElem?_eq_none (by rw [HL.out]; exact h), List.getElem?_eq_none (by rw [HL2.out]; exact h)])))
      clear hd
      go_wp2_with fail
      go_ret
      exact ⟨ret_bool HE.out.symm, HD.out⟩
end Go.Proofs.YtgkeolddpielpaaGreat

/- (*Over).Kids; Cells beyond the levels; DownIn of a cell with no in; Is. -/
namespace Go.Proofs.YtgkeolddpielpaaGreat
open Go.RowKit

attribute [local go_sem ↓] Go.wp_at_zero Go.wp_at_succ

theorem oKids_own (o j n : Nat) (cell : Int) (ar : List Tri) (ls : List (List Int)) (row below : List Int) (w : World) (h : RdOv w o ar ls) (hr : ls[j + 1]? = some row) (hb : ls[j]? = some below) (hL : ls.length ≤ 1000000) (h1 : row.length = n) (h2 : below.length = n) (hn : n ≤ 1000000) (hne : cell ∈ row) :
    Calls Tryz.prog 13 #[.pointer (some ⟨o, 0, none⟩), .int .i64 ((j : Int) + 1 + 1), .int .i64 cell] w fun e w' => ∃ A c, e = .returned (.slice A (kidsOf row below cell n).length c) ∧ RdI w' A (kidsOf row below cell n).length (kidsOf row below cell n) ∧ (∀ b, blkOf A = some b → w.heap.size ≤ b) ∧ Below w.heap.size w w' := by
  obtain ⟨Q, F, T, G, S, L, m, cq, cf, ct, cg, cs, h⟩ := h
  have h0 := h.n0
  have HK := Lib.hid (kids_own Q L cq j n cell ls row below w h.part hr hb (by rw [← h.part.1]; exact hL) h1 h2 hn hne)
  clear h hr hb hL h1 h2 hn hne
  generalize kidsOf row below cell n = ks at *
  go_enter Tryz.func13, Tryz.ntmps13
  go_wp2_with fail
  with_reducible refine HK.out.mono ?_
  rintro e w' ⟨A, c, rfl, hA, hlt, hbl⟩
  have HA := Lib.hid hA
  clear hA
  go_wp2_with fail
  go_ret
  exact ⟨A, c, rfl, HA.out, hlt, hbl⟩
theorem oKids_ok (o j n : Nat) (cell : Int) (ar : List Tri) (ls : List (List Int)) (row below : List Int) (w : World) (h : RdOv w o ar ls) (hr : ls[j + 1]? = some row) (hb : ls[j]? = some below) (hL : ls.length ≤ 1000000) (h1 : row.length = n) (h2 : below.length = n) (hn : n ≤ 1000000) (hne : cell ∈ row) :
    Calls Tryz.prog 13 #[.pointer (some ⟨o, 0, none⟩), .int .i64 ((j : Int) + 1 + 1), .int .i64 cell] w fun e w' => ∃ A c, e = .returned (.slice A (kidsOf row below cell n).length c) ∧ RdI w' A (kidsOf row below cell n).length (kidsOf row below cell n) ∧ Below w.heap.size w w' := by
  refine (oKids_own o j n cell ar ls row below w h hr hb hL h1 h2 hn hne).mono ?_
  rintro e w' ⟨A, c, rfl, h1, _, h3⟩
  exact ⟨A, c, rfl, h1, h3⟩
theorem oCells_no (o i : Nat) (ar : List Tri) (ls : List (List Int)) (w : World) (h : RdOv w o ar ls) (hi : ls.length ≤ i) (hL : i ≤ 1000000) : Calls Tryz.prog 11 #[.pointer (some ⟨o, 0, none⟩), .int .i64 ((i : Int) + 1)] w fun e w' => e = .returned (.int .i64 0) ∧ w = w' := by
  obtain ⟨Q, F, T, G, S, L, m, cq, cf, ct, cg, cs, h⟩ := h
  have h0 := h.n3
  have hi' : L ≤ i := by rw [← h.part.1]; exact hi
  have i3 : ¬ ((i : Int) + 1 < 1) := by omega
  have i4 : (i : Int) + 1 > (L : Int) := by omega
  clear h hi
  go_enter Tryz.func11, Tryz.ntmps11
  go_wp2
  go_ret
  exact ⟨rfl, rfl⟩
theorem oDownIn_no (o j c k : Nat) (ar : List Tri) (ls : List (List Int)) (l : List Int) (x : GateD) (w : World) (h : RdOv w o ar ls) (hl : ls[j + 1]? = some l) (hL : ls.length ≤ 1000000) (hx : (gateRow ar l)[c]? = some x) (hk : x.1.length ≤ k) (hk1 : k ≤ 1000000) :
    Calls Tryz.prog 14 #[.pointer (some ⟨o, 0, none⟩), .int .i64 ((j : Int) + 1 + 1), .int .i64 c, .int .i64 k] w fun e w' => e = .returned (.tuple #[.int .i64 (-1), .int .i64 (-1)]) ∧ Below w.heap.size w w' := by
  have hcM : c < (mostN l).toNat := by rw [← gateRow_len ar l]; exact (List.getElem?_eq_some_iff.1 hx).1
  have HH := Lib.hid (show ∀ V, V = w → Calls Tryz.prog 39 #[.pointer (some ⟨o, 0, none⟩), .int .i64 ((j : Int) + 1 + 1), .int .i64 c] V fun e w' => e = .returned (.bool true) ∧ V = w' from fun V e => by
    have := oHas_ok o (j + 1) c _ ar ls l w h hl hL rfl hcM
    subst e
    simpa using this)
  obtain ⟨Q, F, T, G, S, L, m, cq, cf, ct, cg, cs, h⟩ := h
  have h3 := h.n3
  have hjL : j + 1 < L := by rw [← h.part.1]; exact (List.getElem?_eq_some_iff.1 hl).1
  have hLL : L ≤ 1000000 := by rw [← h.part.1]; exact hL
  obtain ⟨row, gb, go_, A, n, cA, hrow, rfl, hc, hr, _⟩ := h.gates.at_ hjL
  rw [gates_get hl] at hrow
  cases hrow
  have hn : n = (mostN l).toNat := by rw [← hr.1, gateRow_len]
  obtain ⟨x', cb, co, A1, n1, c1, A2, n2, c2, hx', rfl, hc1, hr1, hc2, hr2, _⟩ := hr.at_ (c := c) (by omega)
  rw [hx] at hx'
  cases hx'
  have hkn : n1 ≤ k := by rw [← hr1.1]; exact hk
  have i1 : ¬ ((j : Int) + 1 + 1 < 2) := by omega
  have i2 : (j : Int) + 1 + 1 - 1 = (j : Int) + 1 := by omega
  have i5 : (j : Int) + 1 < (L : Int) := by omega
  have i7 : (0 : Int) ≤ (c : Int) := by omega
  have i8 : (c : Int) < (n : Int) := by omega
  have i9 : ¬ ((k : Int) < 0) := by omega
  have i10 : (n1 : Int) ≤ (k : Int) := by omega
  have i17 : (0 : Int) ≤ (j : Int) + 1 := by omega
  have i18 : ((j : Int) + 1).toNat = j + 1 := by omega
  clear h hl hL hx hk hr hr1 hr2 hn
  go_enter Tryz.func14, Tryz.ntmps14
  go_wp2_with fail
  with_reducible refine (HH.out _ rfl).mono ?_
  rintro e w' ⟨rfl, rfl⟩
  go_wp2_with fail
  go_ret2
  exact ⟨rfl, Below.refl _ _⟩

theorem is_ok (A1 A2 B1 B2 : Option Addr) (n1 c1 n2 c2 m1 d1 m2 d2 : Nat) (x y z u : List Int) (w : World) (h1 : RdI w A1 n1 x) (h2 : RdI w A2 n2 y) (h3 : RdI w B1 m1 z) (h4 : RdI w B2 m2 u) (q1 : n1 ≤ 1000000) (q2 : n2 ≤ 1000000) (q3 : m1 ≤ 1000000) (q4 : m2 ≤ 1000000) (e1 : x = z) (e2 : y = u) :
    Calls Tryz.prog 34 #[.agg #[.slice A1 n1 c1, .slice A2 n2 c2], .agg #[.slice B1 m1 d1, .slice B2 m2 d2]] w fun e w' => e = .returned (.bool true) ∧ Below w.heap.size w w' := by
  have HS1 := Lib.hid (fun (V : World) (hV : Below w.heap.size w V) => sameInts_any A1 B1 n1 m1 c1 d1 x z V (h1.below hV) (h3.below hV) (by omega) (by omega))
  have HS2 := Lib.hid (fun (V : World) (hV : Below w.heap.size w V) => sameInts_any A2 B2 n2 m2 c2 d2 y u V (h2.below hV) (h4.below hV) (by omega) (by omega))
  have E1 : decide (x = z) = true := by simpa using e1
  have E2 : decide (y = u) = true := by simpa using e2
  rw [E1] at HS1
  rw [E2] at HS2
  clear h1 h2 h3 h4 q1 q2 q3 q4 e1 e2 E1 E2
  go_enter Tryz.func34, Tryz.ntmps34
  go_wp2_with fail
  (refine calls_named ?_; intro w1 hw1)
  have hb1 : Below w.heap.size w w1 := by rw [hw1]; exact bELt
  have hX : Blk w1 w.heap.size 38 #[.slice A1 n1 c1, .slice A2 n2 c2] := by rw [hw1]; exact bLNt
  have hY : Blk w1 (w.heap.size + 1) 74 #[.slice B1 m1 d1, .slice B2 m2 d2] := by rw [hw1]; exact bLNt
  have x0 := hX.cell 0
  have x1 := hX.cell 1
  have y0 := hY.cell 0
  have y1 := hY.cell 1
  simp only [List.getElem?_toArray, List.getElem?_cons_zero, List.getElem?_cons_succ] at x0 x1 y0 y1
  have lX := hX.lt
  have lY := hY.lt
  clear hw1 hX hY
  with_reducible refine (HS1.out w1 hb1).mono ?_
  rintro e w' ⟨rfl, k, rfl⟩
  go_wp2_with fail
  with_reducible refine (HS2.out _ (Bel.step hb1 (below_drewN (Below.refl _ _) k))).mono ?_
  rintro e w' ⟨rfl, k2, rfl⟩
  go_wp2_with fail
  go_ret
  exact ⟨rfl, Bel.step hb1 (below_drewN (Below.refl _ _) (k + k2))⟩
end Go.Proofs.YtgkeolddpielpaaGreat

/- OverDown, the plain part: what enters a cell above level 1 enters one of its kids. -/
namespace Go.Proofs.YtgkeolddpielpaaGreat

/-- An arc of a gate's ins: where it stands. -/
theorem mem_gate1 {ar : List Tri} {l : List Int} {c : Nat} {x : GateD} (hx : (gateRow ar l)[c]? = some x) {y : Int} : y ∈ x.1 ↔ y ∈ crossL ar l ∧ toC ar l y = (c : Int) := by
  have hc : c < (mostN l).toNat := by rw [← gateRow_len ar l]; exact (List.getElem?_eq_some_iff.1 hx).1
  rw [gateRow_get hc] at hx
  cases hx
  simp only [List.mem_filter, beq_iff_eq]
theorem mem_gate2 {ar : List Tri} {l : List Int} {c : Nat} {x : GateD} (hx : (gateRow ar l)[c]? = some x) {y : Int} : y ∈ x.2 ↔ y ∈ crossL ar l ∧ frC ar l y = (c : Int) := by
  have hc : c < (mostN l).toNat := by rw [← gateRow_len ar l]; exact (List.getElem?_eq_some_iff.1 hx).1
  rw [gateRow_get hc] at hx
  cases hx
  simp only [List.mem_filter, beq_iff_eq]
theorem mem_cross {ar : List Tri} {l : List Int} {y : Int} : y ∈ crossL ar l ↔ ∃ (a : Nat) (t : Tri), y = (a : Int) ∧ ar[a]? = some t ∧ cellOf l t.1 ≠ cellOf l t.2.1 := by
  unfold crossL arcP
  rw [List.mem_map]
  constructor
  · rintro ⟨p, hp, rfl⟩
    obtain ⟨h1, h2⟩ := List.mem_filter.1 hp
    refine ⟨p.2, p.1, rfl, (List.mem_zipIdx_iff_getElem?.1 h1), ?_⟩
    simpa [crossB] using h2
  · rintro ⟨a, t, rfl, h1, h2⟩
    exact ⟨(t, a), List.mem_filter.2 ⟨List.mem_zipIdx_iff_getElem?.2 h1, by simpa [crossB] using h2⟩, rfl⟩
theorem cellOf_get {l : List Int} {v : Nat} (h : v < l.length) : l[v]? = some (cellOf l (v : Int)) := by
  rw [cellOf_nat (List.getElem?_eq_getElem h), List.getElem?_eq_getElem h]
theorem gate_there {ar : List Tri} {n : Nat} {l : List Int} (hl : LvlOk n l) {z : Int} (hz : z ∈ l) : ∃ q : Nat, z = (q : Int) ∧ ∃ y, (gateRow ar l)[q]? = some y := by
  have h0 := hl.lo z hz
  have h1 := lt_mostN hz
  exact ⟨z.toNat, by omega, _, gateRow_get (by omega)⟩
/-- The two ends' cells: apart above, apart below. -/
theorem apart_below {l lb : List Int} {n u v : Nat} (hn : NestOk lb l) (h1 : l.length = n) (h2 : lb.length = n) (hu : u < n) (hv : v < n) (h : cellOf l (u : Int) ≠ cellOf l (v : Int)) : cellOf lb (u : Int) ≠ cellOf lb (v : Int) := by
  intro e
  have a1 := cellOf_get (l := l) (v := u) (by omega)
  have a2 := cellOf_get (l := l) (v := v) (by omega)
  have b1 := cellOf_get (l := lb) (v := u) (by omega)
  have b2 := cellOf_get (l := lb) (v := v) (by omega)
  have c1 := hn u v _ _ _ _ b1 b2 a1 a2 (by omega)
  have c2 := hn v u _ _ _ _ b2 b1 a2 a1 (by omega)
  exact h (by omega)
/-- What enters a cell above level 1. -/
theorem down_in {ar : List Tri} {ls : List (List Int)} {n j c k : Nat} {l lb : List Int} {x : GateD} {z : Int} (hP : PartOk n ls) (hA : ∀ t ∈ ar, ArcOk n t) (hl : ls[j + 1]? = some l) (hb : ls[j]? = some lb) (hx : (gateRow ar l)[c]? = some x) (hz : x.1[k]? = some z) :
    ∃ (aa v q : Nat) (y : GateD), z = (aa : Int) ∧ (ar.map (·.2.1))[aa]? = some (v : Int) ∧ lb[v]? = some (q : Int) ∧ (gateRow ar lb)[q]? = some y ∧ (aa : Int) ∈ y.1 ∧ (q : Int) ∈ kidsOf l lb (c : Int) n := by
  have hL := hP.lvl l (List.mem_of_getElem? hl)
  have hB := hP.lvl lb (List.mem_of_getElem? hb)
  obtain ⟨h1, h2⟩ := (mem_gate1 hx).1 (List.mem_of_getElem? hz)
  obtain ⟨aa, t, rfl, ht, hne⟩ := mem_cross.1 h1
  have hT := hA t (List.mem_of_getElem? ht)
  obtain ⟨v, hv⟩ : ∃ v : Nat, t.2.1 = (v : Int) := ⟨t.2.1.toNat, by have := hT.g0; omega⟩
  obtain ⟨u, hu⟩ : ∃ u : Nat, t.1 = (u : Int) := ⟨t.1.toNat, by have := hT.f0; omega⟩
  have hvn : v < n := by have := hT.g1; omega
  have hun : u < n := by have := hT.f1; omega
  have e1 := cellOf_get (l := l) (v := v) (by rw [hL.len]; exact hvn)
  have e2 := cellOf_get (l := lb) (v := v) (by rw [hB.len]; exact hvn)
  rw [toC_nat ht, hv] at h2
  rw [h2] at e1
  rw [hu, hv] at hne
  obtain ⟨q, hq, y, hy⟩ := gate_there (ar := ar) hB (List.mem_of_getElem? e2)
  refine ⟨aa, v, q, y, rfl, by rw [List.getElem?_map, ht, Option.map_some, hv], by rw [e2, hq], hy, ?_, ?_⟩
  · refine (mem_gate1 hy).2 ⟨mem_cross.2 ⟨aa, t, rfl, ht, ?_⟩, by rw [toC_nat ht, hv, hq]⟩
    rw [hu, hv]
    exact apart_below (hP.nest j lb l hb hl) hL.len hB.len hun hvn hne
  · exact (mem_kidsOf hL.len hB.len).2 ⟨v, e1, by rw [e2, hq]⟩
theorem down_out {ar : List Tri} {ls : List (List Int)} {n j c k : Nat} {l lb : List Int} {x : GateD} {z : Int} (hP : PartOk n ls) (hA : ∀ t ∈ ar, ArcOk n t) (hl : ls[j + 1]? = some l) (hb : ls[j]? = some lb) (hx : (gateRow ar l)[c]? = some x) (hz : x.2[k]? = some z) :
    ∃ (aa v q : Nat) (y : GateD), z = (aa : Int) ∧ (ar.map (·.1))[aa]? = some (v : Int) ∧ lb[v]? = some (q : Int) ∧ (gateRow ar lb)[q]? = some y ∧ (aa : Int) ∈ y.2 ∧ (q : Int) ∈ kidsOf l lb (c : Int) n := by
  have hL := hP.lvl l (List.mem_of_getElem? hl)
  have hB := hP.lvl lb (List.mem_of_getElem? hb)
  obtain ⟨h1, h2⟩ := (mem_gate2 hx).1 (List.mem_of_getElem? hz)
  obtain ⟨aa, t, rfl, ht, hne⟩ := mem_cross.1 h1
  have hT := hA t (List.mem_of_getElem? ht)
  obtain ⟨v, hv⟩ : ∃ v : Nat, t.2.1 = (v : Int) := ⟨t.2.1.toNat, by have := hT.g0; omega⟩
  obtain ⟨u, hu⟩ : ∃ u : Nat, t.1 = (u : Int) := ⟨t.1.toNat, by have := hT.f0; omega⟩
  have hvn : v < n := by have := hT.g1; omega
  have hun : u < n := by have := hT.f1; omega
  have e1 := cellOf_get (l := l) (v := u) (by rw [hL.len]; exact hun)
  have e2 := cellOf_get (l := lb) (v := u) (by rw [hB.len]; exact hun)
  rw [frC_nat ht, hu] at h2
  rw [h2] at e1
  rw [hu, hv] at hne
  obtain ⟨q, hq, y, hy⟩ := gate_there (ar := ar) hB (List.mem_of_getElem? e2)
  refine ⟨aa, u, q, y, rfl, by rw [List.getElem?_map, ht, Option.map_some, hu], by rw [e2, hq], hy, ?_, ?_⟩
  · refine (mem_gate2 hy).2 ⟨mem_cross.2 ⟨aa, t, rfl, ht, ?_⟩, by rw [frC_nat ht, hu, hq]⟩
    rw [hu, hv]
    exact apart_below (hP.nest j lb l hb hl) hL.len hB.len hun hvn hne
  · exact (mem_kidsOf hL.len hB.len).2 ⟨u, e1, by rw [e2, hq]⟩
/-- Each cell of a level has who stands in it. -/
theorem cell_there {n c : Nat} {l : List Int} (hl : LvlOk n l) (hc : c < (mostN l).toNat) : (c : Int) ∈ l := hl.all c (by omega)
end Go.Proofs.YtgkeolddpielpaaGreat

/- What it costs to go through a cell: by its arcs, by its kids; plain. -/
namespace Go.Proofs.YtgkeolddpielpaaGreat
open Go.RowKit

theorem mkOf_get {l : List Int} {c : Int} {v : Int} (h : v.toNat < l.length) : (mkOf l c).getD v.toNat false = true ↔ cellOf l v = c := by
  unfold mkOf cellOf
  rw [List.getD_eq_getElem?_getD, List.getD_eq_getElem?_getD, List.getElem?_map, List.getElem?_eq_getElem h]
  simp
/-- What a step within a cell is. -/
theorem stA_iff {N : NetD} (hok : NetOk N) {l : List Int} (hl : l.length = N.vs.length) {c : Int} {a b : Nat} {d : Int} : StA N (mkOf l c) a b d ↔
    ∃ x y, N.ar[a]? = some x ∧ N.ar[b]? = some y ∧ x.2.1 = y.1 ∧ turnN N a b ≠ 1152921504606846976 ∧ y.2.2 ≠ 1152921504606846976 ∧ cellOf l y.1 = c ∧ cellOf l y.2.1 = c ∧ d = turnN N a b + y.2.2 := by
  constructor
  · rintro ⟨y, hy, h1, h2, h3, h4, h5⟩
    obtain ⟨x, y', hx, hy', e⟩ := turnN_meet h1
    rw [hy] at hy'
    cases hy'
    have ho := hok.arcs y (List.mem_of_getElem? hy)
    have f0 := ho.f0; have f1 := ho.f1; have g0 := ho.g0; have g1 := ho.g1
    exact ⟨x, y, hx, hy, e, h1, h2, (mkOf_get (by omega)).1 h3, (mkOf_get (by omega)).1 h4, h5⟩
  · rintro ⟨x, y, hx, hy, e, h1, h2, h3, h4, h5⟩
    have ho := hok.arcs y (List.mem_of_getElem? hy)
    have f0 := ho.f0; have f1 := ho.f1; have g0 := ho.g0; have g1 := ho.g1
    exact ⟨y, hy, h1, h2, (mkOf_get (by omega)).2 h3, (mkOf_get (by omega)).2 h4, h5⟩
/-- Where an arc ends, begins. -/
def toV (N : NetD) (a : Nat) : Int := (N.ar.getD a (0, 0, 0)).2.1
def frV (N : NetD) (a : Nat) : Int := (N.ar.getD a (0, 0, 0)).1
def wV (N : NetD) (a : Nat) : Int := (N.ar.getD a (0, 0, 0)).2.2
theorem toV_at {N : NetD} {a : Nat} {x : Tri} (h : N.ar[a]? = some x) : toV N a = x.2.1 ∧ frV N a = x.1 ∧ wV N a = x.2.2 := by
  unfold toV frV wV
  rw [List.getD_eq_getElem?_getD, h]
  exact ⟨rfl, rfl, rfl⟩
/-- The gate of a cell, as arcs. -/
theorem gate_in {N : NetD} {l : List Int} {c : Nat} {x : GateD} (hx : (gateRow N.ar l)[c]? = some x) {a : Nat} : (a : Int) ∈ x.1 ↔ ∃ y, N.ar[a]? = some y ∧ cellOf l y.1 ≠ c ∧ cellOf l y.2.1 = c := by
  rw [mem_gate1 hx, mem_cross]
  constructor
  · rintro ⟨⟨a', t, e, h1, h2⟩, h3⟩
    have : a' = a := by omega
    subst this
    rw [toC_nat h1] at h3
    exact ⟨t, h1, by rw [← h3]; exact h2, h3⟩
  · rintro ⟨t, h1, h2, h3⟩
    exact ⟨⟨a, t, rfl, h1, by rw [h3]; exact h2⟩, by rw [toC_nat h1]; exact h3⟩
theorem gate_out {N : NetD} {l : List Int} {c : Nat} {x : GateD} (hx : (gateRow N.ar l)[c]? = some x) {a : Nat} : (a : Int) ∈ x.2 ↔ ∃ y, N.ar[a]? = some y ∧ cellOf l y.1 = c ∧ cellOf l y.2.1 ≠ c := by
  rw [mem_gate2 hx, mem_cross]
  constructor
  · rintro ⟨⟨a', t, e, h1, h2⟩, h3⟩
    have : a' = a := by omega
    subst this
    rw [frC_nat h1] at h3
    exact ⟨t, h1, h3, by rw [← h3]; exact fun e => h2 e.symm⟩
  · rintro ⟨t, h1, h2, h3⟩
    exact ⟨⟨a, t, rfl, h1, by rw [h2]; exact fun e => h3 e.symm⟩, by rw [frC_nat h1]; exact h2⟩

/-! By arcs: each place an arc. -/
/-- The field of a cell by its arcs. -/
structure FldA (N : NetD) (l : List Int) (c : Nat) (x : GateD) (arcs : List Nat) (L : Nat → List Stp) : Prop where
  at_ : ∀ a ∈ arcs, ∃ y, N.ar[a]? = some y ∧ cellOf l y.2.1 = c
  snd : ∀ p a, arcs[p]? = some a → ∀ s ∈ L p, ∃ b, turnN N a b ≠ 1152921504606846976 ∧ ((∃ k : Nat, x.2[k]? = some (b : Int) ∧ s.2.1 = (k : Int) ∧ s.2.2 = turnN N a b) ∨ ((b : Int) ∉ x.2 ∧ wV N b ≠ 1152921504606846976 ∧ s.2.1 < 0 ∧ arcs[s.1]? = some b ∧ s.2.2 = turnN N a b + wV N b))
  outC : ∀ p a b (k : Nat), arcs[p]? = some a → turnN N a b ≠ 1152921504606846976 → x.2[k]? = some (b : Int) → ∃ s ∈ L p, s.2.1 = (k : Int) ∧ s.2.2 = turnN N a b
  toC : ∀ p a b, arcs[p]? = some a → turnN N a b ≠ 1152921504606846976 → (b : Int) ∉ x.2 → wV N b ≠ 1152921504606846976 → ∃ s ∈ L p, s.2.1 < 0 ∧ arcs[s.1]? = some b ∧ s.2.2 = turnN N a b + wV N b
section
variable {N : NetD} {l : List Int} {c : Nat} {x : GateD} {arcs : List Nat} {L : Nat → List Stp}
theorem FldA.fwd (h : FldA N l c x arcs L) (hok : NetOk N) (hl : l.length = N.vs.length) (hx : (gateRow N.ar l)[c]? = some x) {i s : Nat} (hi : arcs[i]? = some s) {p : Nat} {d : Int} (hr : Rch (StF L) i p d) :
    ∃ a, arcs[p]? = some a ∧ Rch (StA N (mkOf l c)) s a d := by
  induction hr with
  | start => exact ⟨s, hi, .start⟩
  | @step p q d e _ h2 ih =>
    obtain ⟨a, ha, hr⟩ := ih
    obtain ⟨t, ht, h3, rfl, rfl⟩ := h2
    obtain ⟨b, h4, h5⟩ := h.snd p a ha t ht
    rcases h5 with ⟨k, _, h6, _⟩ | ⟨h6, h7, _, h8, h9⟩
    · omega
    · refine ⟨b, h8, hr.step ((stA_iff hok hl).2 ?_)⟩
      obtain ⟨xa, y, hxa, hy, e⟩ := turnN_meet h4
      rw [(toV_at hy).2.2] at h7 h9
      obtain ⟨xa', hxa', hc⟩ := h.at_ a (List.mem_of_getElem? ha)
      rw [hxa] at hxa'
      cases hxa'
      refine ⟨xa, y, hxa, hy, e, h4, h7, by rw [← e]; exact hc, ?_, h9⟩
      apply Classical.byContradiction
      intro hn
      exact h6 ((gate_out hx).2 ⟨y, hy, by rw [← e]; exact hc, hn⟩)
theorem FldA.bwd (h : FldA N l c x arcs L) (hok : NetOk N) (hl : l.length = N.vs.length) (hx : (gateRow N.ar l)[c]? = some x) {i s : Nat} (hi : arcs[i]? = some s) {a : Nat} {d : Int} (hr : Rch (StA N (mkOf l c)) s a d) :
    ∃ p, arcs[p]? = some a ∧ Rch (StF L) i p d := by
  induction hr with
  | start => exact ⟨i, hi, .start⟩
  | @step a b d e _ h2 ih =>
    obtain ⟨p, ha, hr⟩ := ih
    obtain ⟨xa, y, hxa, hy, e, h4, h7, h8, h9, rfl⟩ := (stA_iff hok hl).1 h2
    have hw := (toV_at hy).2.2
    obtain ⟨t, ht, h10, h11, h12⟩ := h.toC p a b ha h4 (fun hm => by
      obtain ⟨y', hy', _, h13⟩ := (gate_out hx).1 hm
      rw [hy] at hy'
      cases hy'
      exact h13 h9) (by rw [hw]; exact h7)
    exact ⟨t.1, h11, hr.step ⟨t, ht, h10, rfl, by rw [h12, hw]⟩⟩
/-- The least over the field is what it costs to go through. -/
theorem FldA.entry (h : FldA N l c x arcs L) (hok : NetOk N) (hl : l.length = N.vs.length) (hx : (gateRow N.ar l)[c]? = some x) {i s k t : Nat} (hi : arcs[i]? = some s) (hk : x.2[k]? = some (t : Int)) {v : Int} (hv : Lst (OutC (StF L) (OuF L) i k) v) :
    EntC N (mkOf l c) s t v := by
  have hinj : ∀ (b k' : Nat), x.2[k']? = some (b : Int) → k' = k → b = t := fun b k' h1 e => by
    subst e
    rw [hk] at h1
    have := Option.some.inj h1
    omega
  refine hv.conv (fun d hd => ?_) (fun d hd => ?_)
  · obtain ⟨p, d1, d2, h1, ⟨u, hu, h2, h3⟩, rfl⟩ := hd
    obtain ⟨a, ha, hr⟩ := h.fwd hok hl hx hi h1
    obtain ⟨b, h4, h5⟩ := h.snd p a ha u hu
    rcases h5 with ⟨k', h6, h7, h8⟩ | ⟨_, _, h6, _⟩
    · have hb := hinj b k' h6 (by omega)
      subst hb
      exact ⟨_, ⟨a, d1, _, hr, ⟨h4, rfl⟩, rfl⟩, by omega⟩
    · omega
  · obtain ⟨a, d1, d2, h1, ⟨h2, h3⟩, rfl⟩ := hd
    obtain ⟨p, ha, hr⟩ := h.bwd hok hl hx hi h1
    obtain ⟨u, hu, h4, h5⟩ := h.outC p a t k ha h2 hk
    exact ⟨_, ⟨p, d1, _, hr, ⟨u, hu, h4, rfl⟩, rfl⟩, by omega⟩
theorem FldA.bound (h : FldA N l c x arcs L) (hok : NetOk N) (hl : l.length = N.vs.length) (hx : (gateRow N.ar l)[c]? = some x) {i s : Nat} (hi : arcs[i]? = some s) (hnd : arcs.Nodup) (p : Nat) (d : Int) (hr : Rch (StF L) i p d) : ∃ e, Rch (StF L) i p e ∧ e ≤ MB := by
  obtain ⟨a, ha, h1⟩ := h.fwd hok hl hx hi hr
  obtain ⟨e, h2, h3⟩ := rchA_bd hok a d h1
  obtain ⟨q, hq, h4⟩ := h.bwd hok hl hx hi h2
  have : q = p := (List.getElem?_inj (List.getElem?_eq_some_iff.1 hq).1 hnd).1 (hq.trans ha.symm)
  subst this
  exact ⟨e, h4, h3⟩
end

/-! By kids: each place an arc that enters a kid. -/
/-- What the entries of the kids tell; a: an arc that enters a kid, m: one that leaves it. -/
def StC (N : NetD) (lb : List Int) (x : GateD) : StepR := fun a m d => ∃ v, (∃ y z, N.ar[a]? = some y ∧ N.ar[m]? = some z ∧ cellOf lb y.1 ≠ cellOf lb y.2.1 ∧ cellOf lb z.1 = cellOf lb y.2.1 ∧ cellOf lb z.2.1 ≠ cellOf lb y.2.1 ∧ z.2.2 ≠ 1152921504606846976 ∧ d = v + z.2.2 ∧
  EntC N (mkOf lb (cellOf lb y.2.1)) a m v) ∧ v ≠ 1152921504606846976 ∧ (m : Int) ∉ x.2
def OuC (N : NetD) (lb : List Int) (x : GateD) : StepR := fun a m v => (∃ y z, N.ar[a]? = some y ∧ N.ar[m]? = some z ∧ cellOf lb y.1 ≠ cellOf lb y.2.1 ∧ cellOf lb z.1 = cellOf lb y.2.1 ∧ cellOf lb z.2.1 ≠ cellOf lb y.2.1 ∧
  EntC N (mkOf lb (cellOf lb y.2.1)) a m v) ∧ v ≠ 1152921504606846976 ∧ (m : Int) ∈ x.2
/-- A step that stays within a kid. -/
def StK (N : NetD) (l lb : List Int) (c : Nat) : StepR := fun a b d => StA N (mkOf l c) a b d ∧ cellOf lb (frV N b) = cellOf lb (toV N b)
section
variable {N : NetD} {l lb : List Int} {c : Nat} {x : GateD}
/-- Within a kid: the same as within its marks. -/
theorem kid_fwd (hok : NetOk N) (hl : l.length = N.vs.length) (hb : lb.length = N.vs.length) {a p : Nat} {y : Tri} {d : Int} (hy : N.ar[a]? = some y) (hr : Rch (StK N l lb c) a p d) :
    Rch (StA N (mkOf lb (cellOf lb y.2.1))) a p d ∧ ∃ z, N.ar[p]? = some z ∧ cellOf lb z.2.1 = cellOf lb y.2.1 := by
  induction hr with
  | start => exact ⟨.start, y, hy, rfl⟩
  | @step p q d e _ h2 ih =>
    obtain ⟨ih, z, hz, hc⟩ := ih
    obtain ⟨h3, h4⟩ := h2
    obtain ⟨z', w, hz', hw, e1, h5, h6, h7, h8, rfl⟩ := (stA_iff hok hl).1 h3
    rw [hz] at hz'
    cases hz'
    obtain ⟨t1, t2, t3⟩ := toV_at hw
    rw [t1, t2] at h4
    refine ⟨ih.step ((stA_iff hok hb).2 ⟨z, w, hz, hw, e1, h5, h6, by rw [← e1]; exact hc, ?_, rfl⟩), w, hw, ?_⟩
    · rw [← h4, ← e1]; exact hc
    · rw [← h4, ← e1]; exact hc
/-- The kid stands in the cell. -/
theorem kid_in (hok : NetOk N) (hl : l.length = N.vs.length) (hb : lb.length = N.vs.length) (hn : NestOk lb l) {y z : Tri} (hy : y ∈ N.ar) (u v : Int) (hu : u = y.2.1) (hv : v = z.2.1 ∨ v = z.1) (hz : z ∈ N.ar) (h : cellOf lb u = cellOf lb v) : cellOf l u = cellOf l v := by
  have o1 := hok.arcs y hy
  have o2 := hok.arcs z hz
  have a0 := o1.g0; have a1 := o1.g1; have b0 := o2.g0; have b1 := o2.g1; have c0 := o2.f0; have c1 := o2.f1
  apply Classical.byContradiction
  intro hne
  have hu0 : 0 ≤ u ∧ u < N.vs.length := by subst hu; exact ⟨a0, a1⟩
  have hv0 : 0 ≤ v ∧ v < N.vs.length := by rcases hv with rfl | rfl <;> omega
  obtain ⟨u', rfl⟩ : ∃ u' : Nat, u = (u' : Int) := ⟨u.toNat, by omega⟩
  obtain ⟨v', rfl⟩ : ∃ v' : Nat, v = (v' : Int) := ⟨v.toNat, by omega⟩
  exact apart_below hn hl hb (by omega) (by omega) hne h
theorem kid_bwd (hok : NetOk N) (hl : l.length = N.vs.length) (hb : lb.length = N.vs.length) (hn : NestOk lb l) {a p : Nat} {y : Tri} {d : Int} (hy : N.ar[a]? = some y) (hc : cellOf l y.2.1 = c) (hr : Rch (StA N (mkOf lb (cellOf lb y.2.1))) a p d) :
    Rch (StK N l lb c) a p d := by
  induction hr with
  | start => exact .start
  | @step p q d e _ h2 ih =>
    obtain ⟨z, w, hz, hw, e1, h5, h6, h7, h8, rfl⟩ := (stA_iff hok hb).1 h2
    have m1 := List.mem_of_getElem? hy
    have m2 := List.mem_of_getElem? hw
    obtain ⟨t1, t2, t3⟩ := toV_at hw
    refine ih.step ⟨(stA_iff hok hl).2 ⟨z, w, hz, hw, e1, h5, h6, ?_, ?_, rfl⟩, by rw [t1, t2, h7, h8]⟩
    · rw [← kid_in hok hl hb hn m1 y.2.1 w.1 rfl (.inr rfl) m2 h7.symm]; exact hc
    · rw [← kid_in hok hl hb hn m1 y.2.1 w.2.1 rfl (.inl rfl) m2 h8.symm]; exact hc
/-- An arc into a kid of the cell. -/
def InKid (N : NetD) (l lb : List Int) (c : Nat) (a : Nat) : Prop := ∃ y, N.ar[a]? = some y ∧ cellOf lb y.1 ≠ cellOf lb y.2.1 ∧ cellOf l y.2.1 = c
theorem nested (hok : NetOk N) (hl : l.length = N.vs.length) (hb : lb.length = N.vs.length) (hn : NestOk lb l) (hx : (gateRow N.ar l)[c]? = some x)
    (hE : ∀ a m y z, InKid N l lb c a → N.ar[a]? = some y → N.ar[m]? = some z → cellOf lb z.1 = cellOf lb y.2.1 → cellOf lb z.2.1 ≠ cellOf lb y.2.1 → ∃ v, EntC N (mkOf lb (cellOf lb y.2.1)) a m v) {k : Nat} (hk : (k : Int) ∈ x.2) :
    Nested (StA N (mkOf l c)) (fun a t d => OuA N a t d ∧ t = k) (StK N l lb c) (fun a m v => ∃ y, N.ar[a]? = some y ∧ EntC N (mkOf lb (cellOf lb y.2.1)) a m v) (fun a m d => StC N lb x a m d ∧ InKid N l lb c a ∧ InKid N l lb c m) (fun a t d => OuC N lb x a t d ∧ InKid N l lb c a ∧ t = k) (InKid N l lb c) (wV N) (OuA N) where
  sub := fun p q d h => h.1
  split := fun p q d h => by
    obtain ⟨z, w, hz, hw, e1, h5, h6, h7, h8, rfl⟩ := (stA_iff hok hl).1 h
    obtain ⟨t1, t2, t3⟩ := toV_at hw
    by_cases hc : cellOf lb w.1 = cellOf lb w.2.1
    · exact .inl ⟨h, by rw [t1, t2]; exact hc⟩
    · have := (wOk_bd (hok.arcs w (List.mem_of_getElem? hw)).w).resolve_left h6
      exact .inr ⟨⟨w, hw, hc, h8⟩, _, ⟨h5, rfl⟩, by rw [t3], by rw [t3]; exact this.1⟩
  join := fun a p q c' t _ _ h1 ⟨d, h2, _⟩ => by
    obtain ⟨z, w, hz, hw, e1, h5, h6, h7, h8, rfl⟩ := (stA_iff hok hl).1 h2
    obtain ⟨t1, t2, t3⟩ := toV_at hw
    obtain ⟨_, rfl⟩ := h1
    rw [t3]
    exact h2
  cst := fun a q d h => by
    obtain ⟨⟨v, ⟨y, z, hy, hz, h1, h2, h3, h4, rfl, h5⟩, h6, h7⟩, h8, h9⟩ := h
    refine ⟨h8, h9, v, ⟨y, hy, h5⟩, by rw [(toV_at hz).2.2], ?_⟩
    rcases h5 with ⟨⟨p, c1, t, g1, g2, rfl⟩, _⟩ | ⟨g, _⟩
    · obtain ⟨y', hy', _, hcy⟩ := h8
      rw [hy] at hy'
      cases hy'
      refine ⟨p, c1, t, kid_bwd hok hl hb hn hy hcy g1, g2, rfl, ?_⟩
      obtain ⟨g3, rfl⟩ := g2
      obtain ⟨w, z', hw, hz', e⟩ := turnN_meet g3
      rw [hz] at hz'
      cases hz'
      obtain ⟨z', hz', _, hcz⟩ := h9
      rw [hz] at hz'
      cases hz'
      have m1 := List.mem_of_getElem? hy
      have m2 := List.mem_of_getElem? hz
      refine (stA_iff hok hl).2 ⟨w, z, hw, hz, e, g3, h4, ?_, hcz, by rw [(toV_at hz).2.2]⟩
      rw [← kid_in hok hl hb hn m1 y.2.1 z.1 rfl (.inr rfl) m2 h2.symm]
      exact hcy
    · exact absurd g h6
  cst2 := fun a p q c' t hin hr ht hq hst hns => by
    obtain ⟨y, hy, h1, h2⟩ := hin
    obtain ⟨g1, u, hu, g2⟩ := kid_fwd hok hl hb hy hr
    obtain ⟨z, w, hz, hw, e1, h5, h6, h7, h8, h9⟩ := (stA_iff hok hl).1 hst
    rw [hu] at hz
    cases hz
    obtain ⟨t1, t2, t3⟩ := toV_at hw
    have hne : cellOf lb w.1 ≠ cellOf lb w.2.1 := fun e => hns ⟨hst, by rw [t1, t2]; exact e⟩
    have hf : cellOf lb w.1 = cellOf lb y.2.1 := by rw [← e1]; exact g2
    obtain ⟨v, hv⟩ := hE a q y w ⟨y, hy, h1, h2⟩ hy hw hf (by rw [← hf]; exact fun e => hne e.symm)
    have hle : v ≤ c' + t ∧ v ≠ 1152921504606846976 := by
      rcases hv with ⟨⟨p', c1, t', k1, k2, rfl⟩, k3⟩ | ⟨_, k3⟩
      · refine ⟨k3 _ ⟨p, c', t, g1, ht, rfl⟩, ?_⟩
        have b1 := (EntC.bd hok (N := N) (v := c1 + t') (s := a) (t := q) (mk := mkOf lb (cellOf lb y.2.1)) (.inl ⟨⟨p', c1, t', k1, k2, rfl⟩, k3⟩))
        obtain ⟨e, h10, h11⟩ := rchA_bd hok p' c1 k1
        have b2 := OuA.bd hok k2
        have := k3 _ ⟨p', e, t', h10, k2, rfl⟩
        unfold MB at h11
        omega
      · exact absurd ⟨p, c', t, g1, ht, rfl⟩ (k3 _)
    refine ⟨v + w.2.2, ⟨⟨v, ⟨y, w, hy, hw, h1, hf, by rw [← hf]; exact fun e => hne e.symm, h6, rfl, hv⟩, hle.2, fun hm => ?_⟩, ⟨y, hy, h1, h2⟩, hq⟩, by rw [t3]; omega⟩
    obtain ⟨w', hw', _, hn'⟩ := (gate_out hx).1 hm
    rw [hw] at hw'
    cases hw'
    exact hn' h8
  cout := fun a k' d h => by
    obtain ⟨⟨⟨y, z, hy, hz, h1, h2, h3, h5⟩, h6, h7⟩, h8, rfl⟩ := h
    rcases h5 with ⟨⟨p, c1, t, g1, g2, rfl⟩, _⟩ | ⟨g, _⟩
    · obtain ⟨y', hy', _, hcy⟩ := h8
      rw [hy] at hy'
      cases hy'
      exact ⟨p, c1, t, kid_bwd hok hl hb hn hy hcy g1, ⟨g2, rfl⟩, rfl⟩
    · exact absurd g h6
  cout2 := fun a p k' c' t hin hr ht => by
    obtain ⟨ht, rfl⟩ := ht
    obtain ⟨y, hy, h1, h2⟩ := hin
    obtain ⟨g1, u, hu, g2⟩ := kid_fwd hok hl hb hy hr
    obtain ⟨w, z, hw, hz, e⟩ := turnN_meet ht.1
    rw [hu] at hw
    cases hw
    have hf : cellOf lb z.1 = cellOf lb y.2.1 := by rw [← e]; exact g2
    obtain ⟨z', hz', k1, k2⟩ := (gate_out hx).1 hk
    rw [hz] at hz'
    cases hz'
    have hne : cellOf lb z.2.1 ≠ cellOf lb y.2.1 := fun e2 => by
      have m1 := List.mem_of_getElem? hy
      have m2 := List.mem_of_getElem? hz
      have := kid_in hok hl hb hn m1 y.2.1 z.2.1 rfl (.inl rfl) m2 e2.symm
      exact k2 (this.symm.trans h2)
    obtain ⟨v, hv⟩ := hE a k' y z ⟨y, hy, h1, h2⟩ hy hz hf hne
    have hle : v ≤ c' + t ∧ v ≠ 1152921504606846976 := by
      rcases hv with ⟨⟨p', c1, t', j1, j2, rfl⟩, k3⟩ | ⟨_, k3⟩
      · refine ⟨k3 _ ⟨p, c', t, g1, ht, rfl⟩, ?_⟩
        obtain ⟨e, h10, h11⟩ := rchA_bd hok p' c1 j1
        have b2 := OuA.bd hok j2
        have := k3 _ ⟨p', e, t', h10, j2, rfl⟩
        unfold MB at h11
        omega
      · exact absurd ⟨p, c', t, g1, ht, rfl⟩ (k3 _)
    exact ⟨v, ⟨⟨⟨y, z, hy, hz, h1, hf, hne, hv⟩, hle.2, hk⟩, ⟨y, hy, h1, h2⟩, rfl⟩, hle.1⟩
end
end Go.Proofs.YtgkeolddpielpaaGreat

/- A cell's field by its arcs, as it grows; plain. -/
namespace Go.Proofs.YtgkeolddpielpaaGreat
open Go.RowKit

/-- What the steps behind an arc a tell, of the arcs of Gone. -/
structure StO (N : NetD) (x : GateD) (arcs : List Nat) (a : Nat) (Gone : Nat → Prop) (l : List Stp) : Prop where
  snd : ∀ s ∈ l, ∃ b, turnN N a b ≠ 1152921504606846976 ∧ ((∃ k : Nat, x.2[k]? = some (b : Int) ∧ s.2.1 = (k : Int) ∧ s.2.2 = turnN N a b) ∨ ((b : Int) ∉ x.2 ∧ wV N b ≠ 1152921504606846976 ∧ s.2.1 < 0 ∧ arcs[s.1]? = some b ∧ s.2.2 = turnN N a b + wV N b))
  outC : ∀ b (k : Nat), Gone b → turnN N a b ≠ 1152921504606846976 → x.2[k]? = some (b : Int) → ∃ s ∈ l, s.2.1 = (k : Int) ∧ s.2.2 = turnN N a b
  toC : ∀ b, Gone b → turnN N a b ≠ 1152921504606846976 → (b : Int) ∉ x.2 → wV N b ≠ 1152921504606846976 → ∃ s ∈ l, s.2.1 < 0 ∧ arcs[s.1]? = some b ∧ s.2.2 = turnN N a b + wV N b
section
variable {N : NetD} {x : GateD} {arcs : List Nat} {a b : Nat} {Gone : Nat → Prop} {l : List Stp}
theorem StO.nil (N : NetD) (x : GateD) (arcs : List Nat) (a : Nat) : StO N x arcs a (fun _ => False) [] := ⟨fun s h => (by cases h), fun b k h => h.elim, fun b h => h.elim⟩
theorem StO.gone {G' : Nat → Prop} (h : StO N x arcs a Gone l) (hg : ∀ b, G' b → turnN N a b ≠ 1152921504606846976 → Gone b) : StO N x arcs a G' l :=
  ⟨h.snd, fun b k g t e => h.outC b k (hg b g t) t e, fun b g t => h.toC b (hg b g t) t⟩
theorem StO.more (h : StO N x arcs a Gone l) (z : Nat) : StO N x (arcs ++ [z]) a Gone l := by
  have key : ∀ {i : Nat} {b : Nat}, arcs[i]? = some b → (arcs ++ [z])[i]? = some b := fun {i b} h => by
    rw [List.getElem?_append_left (List.getElem?_eq_some_iff.1 h).1]; exact h
  refine ⟨fun s hs => ?_, h.outC, fun b g t m w => ?_⟩
  · obtain ⟨b, h1, h2⟩ := h.snd s hs
    exact ⟨b, h1, h2.imp id (fun ⟨k1, k2, k3, k4, k5⟩ => ⟨k1, k2, k3, key k4, k5⟩)⟩
  · obtain ⟨s, h1, h2, h3, h4⟩ := h.toC b g t m w
    exact ⟨s, h1, h2, key h3, h4⟩
theorem StO.skip (h : StO N x arcs a Gone l) (hb : turnN N a b = 1152921504606846976 ∨ ((b : Int) ∉ x.2 ∧ wV N b = 1152921504606846976)) : StO N x arcs a (fun q => Gone q ∨ q = b) l := by
  refine ⟨h.snd, fun q k g t e => ?_, fun q g t m w => ?_⟩
  · rcases g with g | rfl
    · exact h.outC q k g t e
    · rcases hb with hb | hb
      · exact absurd hb t
      · exact absurd (List.mem_of_getElem? e) hb.1
  · rcases g with g | rfl
    · exact h.toC q g t m w
    · rcases hb with hb | hb
      · exact absurd hb t
      · exact absurd hb.2 w
theorem nodup_at {l : List Int} (h : l.Pairwise (· < ·)) {i j : Nat} {v : Int} (hi : l[i]? = some v) (hj : l[j]? = some v) : i = j := by
  have h1 := plI_sorted h hi
  have h2 := plI_sorted h hj
  rw [h1] at h2
  omega
theorem StO.out (h : StO N x arcs a Gone l) (hs : x.2.Pairwise (· < ·)) (ht : turnN N a b ≠ 1152921504606846976) {k : Nat} (hk : x.2[k]? = some (b : Int)) : StO N x arcs a (fun q => Gone q ∨ q = b) (l ++ [(0, (k : Int), turnN N a b)]) := by
  refine ⟨fun s hs => ?_, fun q k' g t e => ?_, fun q g t m w => ?_⟩
  · rcases List.mem_append.1 hs with hs | hs
    · exact h.snd s hs
    · obtain rfl := List.mem_singleton.1 hs
      exact ⟨b, ht, .inl ⟨k, hk, rfl, rfl⟩⟩
  · rcases g with g | rfl
    · obtain ⟨s, h1, h2⟩ := h.outC q k' g t e
      exact ⟨s, List.mem_append_left _ h1, h2⟩
    · obtain rfl := nodup_at hs hk e
      exact ⟨_, List.mem_append_right _ (List.mem_singleton.2 rfl), rfl, rfl⟩
  · rcases g with g | rfl
    · obtain ⟨s, h1, h2⟩ := h.toC q g t m w
      exact ⟨s, List.mem_append_left _ h1, h2⟩
    · exact absurd (List.mem_of_getElem? hk) m
theorem StO.to (h : StO N x arcs a Gone l) (ht : turnN N a b ≠ 1152921504606846976) (hm : (b : Int) ∉ x.2) (hw : wV N b ≠ 1152921504606846976) {p : Nat} (hp : arcs[p]? = some b) : StO N x arcs a (fun q => Gone q ∨ q = b) (l ++ [(p, -1, turnN N a b + wV N b)]) := by
  refine ⟨fun s hs => ?_, fun q k' g t e => ?_, fun q g t m w => ?_⟩
  · rcases List.mem_append.1 hs with hs | hs
    · exact h.snd s hs
    · obtain rfl := List.mem_singleton.1 hs
      exact ⟨b, ht, .inr ⟨hm, hw, (by decide : (-1 : Int) < 0), hp, rfl⟩⟩
  · rcases g with g | rfl
    · obtain ⟨s, h1, h2⟩ := h.outC q k' g t e
      exact ⟨s, List.mem_append_left _ h1, h2⟩
    · exact absurd (List.mem_of_getElem? e) hm
  · rcases g with g | rfl
    · obtain ⟨s, h1, h2⟩ := h.toC q g t m w
      exact ⟨s, List.mem_append_left _ h1, h2⟩
    · exact ⟨_, List.mem_append_right _ (List.mem_singleton.2 rfl), (by decide : (-1 : Int) < 0), hp, rfl⟩
end
/-- The arcs of a field: each ends within the cell, none stands twice; the map tells where each stands. -/
structure ArcsI (N : NetD) (l : List Int) (c : Nat) (arcs : List Nat) (f : Nat → Option Nat) : Prop where
  at_ : ∀ a ∈ arcs, ∃ y, N.ar[a]? = some y ∧ cellOf l y.2.1 = c
  map : ∀ b p, f b = some p ↔ arcs[p]? = some b
theorem ArcsI.nodup {N : NetD} {l : List Int} {c : Nat} {arcs : List Nat} {f : Nat → Option Nat} (h : ArcsI N l c arcs f) : arcs.Nodup := by
  rw [List.Nodup, List.pairwise_iff_getElem]
  intro i j hi hj hij e
  have h1 := (h.map (arcs[i]) i).2 (List.getElem?_eq_getElem hi)
  have h2 := (h.map (arcs[i]) j).2 (by rw [List.getElem?_eq_getElem hj, e])
  rw [h1] at h2
  injection h2 with h2
  omega
theorem ArcsI.len {N : NetD} {l : List Int} {c : Nat} {arcs : List Nat} {f : Nat → Option Nat} (h : ArcsI N l c arcs f) : arcs.length ≤ N.ar.length :=
  nodup_le N.ar.length arcs h.nodup (fun a ha => by obtain ⟨y, hy, _⟩ := h.at_ a ha; exact (List.getElem?_eq_some_iff.1 hy).1)
theorem ArcsI.push {N : NetD} {l : List Int} {c b : Nat} {arcs : List Nat} {f : Nat → Option Nat} (h : ArcsI N l c arcs f) {y : Tri} (hy : N.ar[b]? = some y) (hc : cellOf l y.2.1 = c) (hno : f b = none) : ArcsI N l c (arcs ++ [b]) (fun q => if q = b then some arcs.length else f q) := by
  refine ⟨fun a ha => ?_, fun q p => ?_⟩
  · rcases List.mem_append.1 ha with ha | ha
    · exact h.at_ a ha
    · obtain rfl := List.mem_singleton.1 ha
      exact ⟨y, hy, hc⟩
  · by_cases e : q = b
    · subst e
      rw [if_pos rfl]
      constructor
      · intro e2; injection e2 with e2; subst e2; rw [List.getElem?_append_right (Nat.le_refl _), Nat.sub_self]; rfl
      · intro e2
        rcases Nat.lt_trichotomy p arcs.length with h1 | h1 | h1
        · rw [List.getElem?_append_left h1] at e2
          have := (h.map q p).2 e2
          rw [hno] at this
          cases this
        · rw [h1]
        · rw [List.getElem?_eq_none (by simp; omega)] at e2
          cases e2
    · rw [if_neg e]
      rw [h.map]
      rcases Nat.lt_trichotomy p arcs.length with h1 | h1 | h1
      · rw [List.getElem?_append_left h1]
      · subst h1
        rw [List.getElem?_append_right (Nat.le_refl _), Nat.sub_self, List.getElem?_eq_none (Nat.le_refl _)]
        constructor
        · intro h; cases h
        · intro h; injection h with h; exact absurd h.symm e
      · have h2 : (arcs ++ [b])[p]? = none := List.getElem?_eq_none (by rw [List.length_append, List.length_singleton]; omega)
        have h3 : arcs[p]? = none := List.getElem?_eq_none (by omega)
        rw [h2, h3]
theorem FldA.of {N : NetD} {l : List Int} {c : Nat} {x : GateD} {arcs : List Nat} {f : Nat → Option Nat} {Ls : List (List Stp)} (h : ArcsI N l c arcs f) (hl : Ls.length = arcs.length) (hs : ∀ (p a : Nat) (t : List Stp), arcs[p]? = some a → Ls[p]? = some t → StO N x arcs a (fun _ => True) t) :
    FldA N l c x arcs (fun p => Ls.getD p []) := by
  have key : ∀ p a, arcs[p]? = some a → StO N x arcs a (fun _ => True) (Ls.getD p []) := fun p a ha => by
    have hp := (List.getElem?_eq_some_iff.1 ha).1
    exact hs p a _ ha (getD_lt [] (by omega))
  exact ⟨h.at_, fun p a ha s hs => (key p a ha).snd s hs, fun p a b k ha ht hk => (key p a ha).outC b k trivial ht hk, fun p a b ha ht hm hw => (key p a ha).toC b trivial ht hm hw⟩
theorem FldA.fld {N : NetD} (hok : NetOk N) {l : List Int} {c : Nat} {x : GateD} {arcs : List Nat} {Ls : List (List Stp)} (h : FldA N l c x arcs (fun p => Ls.getD p [])) : FldOk (fun p => Ls.getD p []) arcs.length x.2.length 4294967296 := by
  have key : ∀ p, p < arcs.length → ∀ s ∈ Ls.getD p [], (s.2.1 < 0 → s.1 < arcs.length) ∧ s.2.1 < x.2.length ∧ 0 ≤ s.2.2 ∧ s.2.2 ≤ 4294967296 := fun p hp s hs => by
    obtain ⟨b, h1, h2⟩ := h.snd p _ (List.getElem?_eq_getElem hp) s hs
    have hb := (turnN_bd hok _ b).resolve_left h1
    rcases h2 with ⟨k, h3, h4, h5⟩ | ⟨h3, h4, h5, h6, h7⟩
    · have hk := (List.getElem?_eq_some_iff.1 h3).1
      exact ⟨fun e => by omega, by omega, by omega, by omega⟩
    · obtain ⟨xa, y, _, hy, _⟩ := turnN_meet h1
      rw [(toV_at hy).2.2] at h4 h7
      have hw := (wOk_bd (hok.arcs y (List.mem_of_getElem? hy)).w).resolve_left h4
      exact ⟨fun _ => (List.getElem?_eq_some_iff.1 h6).1, by omega, by omega, by omega⟩
  exact ⟨fun p hp s hs => (key p hp s hs).1, fun p hp s hs => (key p hp s hs).2.1, fun p hp s hs => (key p hp s hs).2.2⟩
end Go.Proofs.YtgkeolddpielpaaGreat
