/- DownIn, DownOut of Over. -/
import Derived.Test.YtgkeolddpielpaaGreatOg
namespace Go.Proofs.YtgkeolddpielpaaGreat
open Go.RowKit

attribute [local go_sem ↓] Go.wp_at_zero Go.wp_at_succ

theorem gate_sorted1 {ar : List Tri} {l : List Int} {c : Nat} {x : GateD} (h : (gateRow ar l)[c]? = some x) : x.1.Pairwise (· < ·) := by
  have hc : c < (mostN l).toNat := by rw [← gateRow_len ar l]; exact (List.getElem?_eq_some_iff.1 h).1
  rw [gateRow_get hc] at h
  cases h
  exact List.Pairwise.filter _ (arcP_sorted _ _)
theorem gate_sorted2 {ar : List Tri} {l : List Int} {c : Nat} {x : GateD} (h : (gateRow ar l)[c]? = some x) : x.2.Pairwise (· < ·) := by
  have hc : c < (mostN l).toNat := by rw [← gateRow_len ar l]; exact (List.getElem?_eq_some_iff.1 h).1
  rw [gateRow_get hc] at h
  cases h
  exact List.Pairwise.filter _ (arcP_sorted _ _)

set_option maxHeartbeats 2000000 in
set_option maxRecDepth 20000 in
theorem oDownIn_ok (o j c k aa v q : Nat) (ar : List Tri) (ls : List (List Int)) (l lb : List Int) (x y : GateD) (w : World) (h : RdOv w o ar ls) (hl : ls[j + 1]? = some l) (hlb : ls[j]? = some lb) (hL : ls.length ≤ 1000000) (hx : (gateRow ar l)[c]? = some x) (hk : x.1[k]? = some (aa : Int)) (hv : (ar.map (·.2.1))[aa]? = some (v : Int)) (hq : lb[v]? = some (q : Int)) (hy : (gateRow ar lb)[q]? = some y) (ha : ar.length ≤ 1000000) (hlen : lb.length ≤ 1000000) :
    Calls Tryz.prog 14 #[.pointer (some ⟨o, 0, none⟩), .int .i64 ((j : Int) + 1 + 1), .int .i64 c, .int .i64 k] w fun e w' => e = .returned (.tuple #[.int .i64 q, .int .i64 (plI y.1 aa)]) ∧ Below w.heap.size w w' := by
  have hcM : c < (mostN l).toNat := by rw [← gateRow_len ar l]; exact (List.getElem?_eq_some_iff.1 hx).1
  have HH := Lib.hid (show ∀ V, V = w → Calls Tryz.prog 39 #[.pointer (some ⟨o, 0, none⟩), .int .i64 ((j : Int) + 1 + 1), .int .i64 c] V fun e w' => e = .returned (.bool true) ∧ V = w' from fun V e => by
    have := oHas_ok o (j + 1) c _ ar ls l w h hl hL rfl hcM
    subst e
    simpa using this)
  obtain ⟨Q, F, T, G, S, L, m, cq, cf, ct, cg, cs, h⟩ := h
  have h0 := h.n0
  have ht := h.n2
  have h3 := h.n3
  have hjL : j + 1 < L := by rw [← h.part.1]; exact (List.getElem?_eq_some_iff.1 hl).1
  have hLL : L ≤ 1000000 := by rw [← h.part.1]; exact hL
  obtain ⟨row, gb, go_, A, n, cA, hrow, rfl, hc, hr, _⟩ := h.gates.at_ hjL
  rw [gates_get hl] at hrow
  cases hrow
  have hn : n = (mostN l).toNat := by rw [← hr.1, gateRow_len]
  obtain ⟨x', cb, co, A1, n1, c1, A2, n2, c2, hx', rfl, hc1, hr1, hc2, hr2, _⟩ := hr.at_ (c := c) (by omega)
  rw [hx] at hx'
  cases hx'
  obtain ⟨ib, io, _, rfl, e1, hca⟩ := hr1.at_ (i := k) (by rw [← hr1.1]; exact (List.getElem?_eq_some_iff.1 hk).1)
  rw [hk] at e1
  cases e1
  have hkn : k < n1 := by rw [← hr1.1]; exact (List.getElem?_eq_some_iff.1 hk).1
  have hg := gate_in_le hx
  have hn1 : n1 ≤ 1000000 := by rw [← hr1.1]; omega
  obtain ⟨rowb, gb', go', Ab, nb, cAb, hrowb, e, hcb, hrb, _⟩ := h.gates.at_ (i := j) (by omega)
  cases e
  rw [gates_get hlb] at hrowb
  cases hrowb
  have hqM : q < nb := by rw [← hrb.1]; exact (List.getElem?_eq_some_iff.1 hy).1
  obtain ⟨y', db, do_, B1, m1, d1, B2, m2, d2, hy', rfl, hd1, hs1, hd2, hs2, _⟩ := hrb.at_ (c := q) hqM
  rw [hy] at hy'
  cases hy'
  have hgy := gate_in_le hy
  have hm1 : m1 ≤ 1000000 := by rw [← hs1.1]; omega
  have HPL := Lib.hid (fun nq => gPlace_ok B1 m1 d1 y.1 aa (w.drewN nq) hs1 (gate_sorted1 hy) hm1)
  obtain ⟨tb, to_, _, rfl, e1, hct⟩ := h.to.at_ (i := aa) (by rw [← h.to.1]; exact (List.getElem?_eq_some_iff.1 hv).1)
  rw [hv] at e1
  cases e1
  have ham : aa < m := by rw [← h.to.1]; exact (List.getElem?_eq_some_iff.1 hv).1
  obtain ⟨qb, qo, Aq, nq', cq', lb', rfl, hlb', hcq, hrq, _⟩ := h.part.at_ (i := j) (by omega)
  rw [hlb] at hlb'
  cases hlb'
  obtain ⟨vb, vo, _, rfl, e1, hcv⟩ := hrq.at_ (i := v) (by rw [← hrq.1]; exact (List.getElem?_eq_some_iff.1 hq).1)
  rw [hq] at e1
  cases e1
  have hvn : v < nq' := by rw [← hrq.1]; exact (List.getElem?_eq_some_iff.1 hq).1
  have hnq1 : nq' ≤ 1000000 := by rw [← hrq.1]; exact hlen
  have hm2 : m ≤ 1000000 := by rw [← h.to.1]; simpa using ha
  have hMM : (mostN l).toNat ≤ 9223372036854775807 := by omega
  have i1 : ¬ ((j : Int) + 1 + 1 < 2) := by omega
  have i2 : (j : Int) + 1 + 1 - 1 = (j : Int) + 1 := by omega
  have i3 : (j : Int) + 1 + 1 - 2 = (j : Int) := by omega
  have i4 : (0 : Int) ≤ (j : Int) := by omega
  have i5 : (j : Int) + 1 < (L : Int) := by omega
  have i6 : (j : Int) < (L : Int) := by omega
  have i7 : (0 : Int) ≤ (c : Int) := by omega
  have i8 : (c : Int) < (n : Int) := by omega
  have i9 : (0 : Int) ≤ (k : Int) := by omega
  have i10 : (k : Int) < (n1 : Int) := by omega
  have i11 : (0 : Int) ≤ (aa : Int) := by omega
  have i12 : (aa : Int) < (m : Int) := by omega
  have i13 : (0 : Int) ≤ (v : Int) := by omega
  have i14 : (v : Int) < (nq' : Int) := by omega
  have i15 : (0 : Int) ≤ (q : Int) := by omega
  have i16 : (q : Int) < (nb : Int) := by omega
  have i17 : (0 : Int) ≤ (j : Int) + 1 := by omega
  have i18 : ((j : Int) + 1).toNat = j + 1 := by omega
  clear h hl hlb hL hx hk hv hq hy hr hr1 hr2 hn hrb hs1 hs2 hrq hg hgy ha hlen
  go_enter Tryz.func14, Tryz.ntmps14
  go_wp2_with fail
  with_reducible refine (HH.out _ rfl).mono ?_
  rintro e w' ⟨rfl, rfl⟩
  go_wp2_with fail
  go_quiet (fail)
  go_wp2_with fail
  with_reducible refine (HPL.out _).mono ?_
  rintro e w' ⟨rfl, hb⟩
  have hb' : Below w.heap.size w w' := Bel.step (below_drewN (Below.refl _ _) nq) hb
  clear hb
  obtain ⟨z, hz⟩ : ∃ z, z = plI y.1 (aa : Int) := ⟨_, rfl⟩
  rw [← hz]
  have HZ := Lib.hid hz
  clear hz HPL
  go_wp2_with fail
  go_ret2
  exact ⟨by rw [← HZ.out]; rfl, hb'⟩

set_option maxHeartbeats 2000000 in
set_option maxRecDepth 20000 in
theorem oDownOut_ok (o j c k aa v q : Nat) (ar : List Tri) (ls : List (List Int)) (l lb : List Int) (x y : GateD) (w : World) (h : RdOv w o ar ls) (hl : ls[j + 1]? = some l) (hlb : ls[j]? = some lb) (hL : ls.length ≤ 1000000) (hx : (gateRow ar l)[c]? = some x) (hk : x.2[k]? = some (aa : Int)) (hv : (ar.map (·.1))[aa]? = some (v : Int)) (hq : lb[v]? = some (q : Int)) (hy : (gateRow ar lb)[q]? = some y) (ha : ar.length ≤ 1000000) (hlen : lb.length ≤ 1000000) :
    Calls Tryz.prog 16 #[.pointer (some ⟨o, 0, none⟩), .int .i64 ((j : Int) + 1 + 1), .int .i64 c, .int .i64 k] w fun e w' => e = .returned (.tuple #[.int .i64 q, .int .i64 (plI y.2 aa)]) ∧ Below w.heap.size w w' := by
  have hcM : c < (mostN l).toNat := by rw [← gateRow_len ar l]; exact (List.getElem?_eq_some_iff.1 hx).1
  have HH := Lib.hid (show ∀ V, V = w → Calls Tryz.prog 39 #[.pointer (some ⟨o, 0, none⟩), .int .i64 ((j : Int) + 1 + 1), .int .i64 c] V fun e w' => e = .returned (.bool true) ∧ V = w' from fun V e => by
    have := oHas_ok o (j + 1) c _ ar ls l w h hl hL rfl hcM
    subst e
    simpa using this)
  obtain ⟨Q, F, T, G, S, L, m, cq, cf, ct, cg, cs, h⟩ := h
  have h0 := h.n0
  have ht := h.n1
  have h3 := h.n3
  have hjL : j + 1 < L := by rw [← h.part.1]; exact (List.getElem?_eq_some_iff.1 hl).1
  have hLL : L ≤ 1000000 := by rw [← h.part.1]; exact hL
  obtain ⟨row, gb, go_, A, n, cA, hrow, rfl, hc, hr, _⟩ := h.gates.at_ hjL
  rw [gates_get hl] at hrow
  cases hrow
  have hn : n = (mostN l).toNat := by rw [← hr.1, gateRow_len]
  obtain ⟨x', cb, co, A1, n1, c1, A2, n2, c2, hx', rfl, hc1, hr1, hc2, hr2, _⟩ := hr.at_ (c := c) (by omega)
  rw [hx] at hx'
  cases hx'
  obtain ⟨ib, io, _, rfl, e1, hca⟩ := hr2.at_ (i := k) (by rw [← hr2.1]; exact (List.getElem?_eq_some_iff.1 hk).1)
  rw [hk] at e1
  cases e1
  have hkn : k < n2 := by rw [← hr2.1]; exact (List.getElem?_eq_some_iff.1 hk).1
  have hg := gate_in_le hx
  have hn1 : n2 ≤ 1000000 := by rw [← hr2.1]; omega
  obtain ⟨rowb, gb', go', Ab, nb, cAb, hrowb, e, hcb, hrb, _⟩ := h.gates.at_ (i := j) (by omega)
  cases e
  rw [gates_get hlb] at hrowb
  cases hrowb
  have hqM : q < nb := by rw [← hrb.1]; exact (List.getElem?_eq_some_iff.1 hy).1
  obtain ⟨y', db, do_, B1, m1, d1, B2, m2, d2, hy', rfl, hd1, hs1, hd2, hs2, _⟩ := hrb.at_ (c := q) hqM
  rw [hy] at hy'
  cases hy'
  have hgy := gate_in_le hy
  have hm1 : m2 ≤ 1000000 := by rw [← hs2.1]; omega
  have HPL := Lib.hid (fun nq => gPlace_ok B2 m2 d2 y.2 aa (w.drewN nq) hs2 (gate_sorted2 hy) hm1)
  obtain ⟨tb, to_, _, rfl, e1, hct⟩ := h.fr.at_ (i := aa) (by rw [← h.fr.1]; exact (List.getElem?_eq_some_iff.1 hv).1)
  rw [hv] at e1
  cases e1
  have ham : aa < m := by rw [← h.fr.1]; exact (List.getElem?_eq_some_iff.1 hv).1
  obtain ⟨qb, qo, Aq, nq', cq', lb', rfl, hlb', hcq, hrq, _⟩ := h.part.at_ (i := j) (by omega)
  rw [hlb] at hlb'
  cases hlb'
  obtain ⟨vb, vo, _, rfl, e1, hcv⟩ := hrq.at_ (i := v) (by rw [← hrq.1]; exact (List.getElem?_eq_some_iff.1 hq).1)
  rw [hq] at e1
  cases e1
  have hvn : v < nq' := by rw [← hrq.1]; exact (List.getElem?_eq_some_iff.1 hq).1
  have hnq1 : nq' ≤ 1000000 := by rw [← hrq.1]; exact hlen
  have hm2 : m ≤ 1000000 := by rw [← h.fr.1]; simpa using ha
  have hMM : (mostN l).toNat ≤ 9223372036854775807 := by omega
  have i1 : ¬ ((j : Int) + 1 + 1 < 2) := by omega
  have i2 : (j : Int) + 1 + 1 - 1 = (j : Int) + 1 := by omega
  have i3 : (j : Int) + 1 + 1 - 2 = (j : Int) := by omega
  have i4 : (0 : Int) ≤ (j : Int) := by omega
  have i5 : (j : Int) + 1 < (L : Int) := by omega
  have i6 : (j : Int) < (L : Int) := by omega
  have i7 : (0 : Int) ≤ (c : Int) := by omega
  have i8 : (c : Int) < (n : Int) := by omega
  have i9 : (0 : Int) ≤ (k : Int) := by omega
  have i10 : (k : Int) < (n2 : Int) := by omega
  have i11 : (0 : Int) ≤ (aa : Int) := by omega
  have i12 : (aa : Int) < (m : Int) := by omega
  have i13 : (0 : Int) ≤ (v : Int) := by omega
  have i14 : (v : Int) < (nq' : Int) := by omega
  have i15 : (0 : Int) ≤ (q : Int) := by omega
  have i16 : (q : Int) < (nb : Int) := by omega
  have i17 : (0 : Int) ≤ (j : Int) + 1 := by omega
  have i18 : ((j : Int) + 1).toNat = j + 1 := by omega
  clear h hl hlb hL hx hk hv hq hy hr hr1 hr2 hn hrb hs1 hs2 hrq hg hgy ha hlen
  go_enter Tryz.func16, Tryz.ntmps16
  go_wp2_with fail
  with_reducible refine (HH.out _ rfl).mono ?_
  rintro e w' ⟨rfl, rfl⟩
  go_wp2_with fail
  go_quiet (fail)
  go_wp2_with fail
  with_reducible refine (HPL.out _).mono ?_
  rintro e w' ⟨rfl, hb⟩
  have hb' : Below w.heap.size w w' := Bel.step (below_drewN (Below.refl _ _) nq) hb
  clear hb
  obtain ⟨z, hz⟩ : ∃ z, z = plI y.2 (aa : Int) := ⟨_, rfl⟩
  rw [← hz]
  have HZ := Lib.hid hz
  clear hz HPL
  go_wp2_with fail
  go_ret2
  exact ⟨by rw [← HZ.out]; rfl, hb'⟩
end Go.Proofs.YtgkeolddpielpaaGreat
