/- (*Over).Kids; Cells beyond the levels; DownIn of a cell with no in; Is. -/
import Derived.Test.YtgkeolddpielpaaGreatOg
import Derived.Test.YtgkeolddpielpaaGreatKi
import Derived.Test.YtgkeolddpielpaaGreatSi
namespace Go.Proofs.YtgkeolddpielpaaGreat
open Go.RowKit

attribute [local go_sem ↓] Go.wp_at_zero Go.wp_at_succ

theorem oKids_ok (o j n : Nat) (cell : Int) (ar : List Tri) (ls : List (List Int)) (row below : List Int) (w : World) (h : RdOv w o ar ls) (hr : ls[j + 1]? = some row) (hb : ls[j]? = some below) (hL : ls.length ≤ 1000000) (h1 : row.length = n) (h2 : below.length = n) (hn : n ≤ 1000000) (hne : cell ∈ row) :
    Calls Tryz.prog 13 #[.pointer (some ⟨o, 0, none⟩), .int .i64 ((j : Int) + 1 + 1), .int .i64 cell] w fun e w' => ∃ A c, e = .returned (.slice A (kidsOf row below cell n).length c) ∧ RdI w' A (kidsOf row below cell n).length (kidsOf row below cell n) ∧ Below w.heap.size w w' := by
  obtain ⟨Q, F, T, G, S, L, m, cq, cf, ct, cg, cs, h⟩ := h
  have h0 := h.n0
  have HK := Lib.hid (kids_ok Q L cq j n cell ls row below w h.part hr hb (by rw [← h.part.1]; exact hL) h1 h2 hn hne)
  clear h hr hb hL h1 h2 hn hne
  generalize kidsOf row below cell n = ks at *
  go_enter Tryz.func13, Tryz.ntmps13
  go_wp2_with fail
  with_reducible refine HK.out.mono ?_
  rintro e w' ⟨A, c, rfl, hA, hbl⟩
  have HA := Lib.hid hA
  clear hA
  go_wp2_with fail
  go_ret
  exact ⟨A, c, rfl, HA.out, hbl⟩
theorem oCells_no (o i : Nat) (ar : List Tri) (ls : List (List Int)) (w : World) (h : RdOv w o ar ls) (hi : ls.length ≤ i) (hL : i ≤ 1000000) : Calls Tryz.prog 11 #[.pointer (some ⟨o, 0, none⟩), .int .i64 ((i : Int) + 1)] w fun e w' => e = .returned (.int .i64 0) ∧ w = w' := by
  obtain ⟨Q, F, T, G, S, L, m, cq, cf, ct, cg, cs, h⟩ := h
  have h0 := h.n3
  have hi' : L ≤ i := by rw [← h.part.1]; exact hi
  have i3 : ¬ ((i : Int) + 1 < 1) := by omega
  have i4 : (i : Int) + 1 > (L : Int) := by omega
  clear h hi
  go_enter Tryz.func11, Tryz.ntmps11
  go_wp2
  go_ret
  exact ⟨rfl, rfl⟩
theorem oDownIn_no (o j c k : Nat) (ar : List Tri) (ls : List (List Int)) (l : List Int) (x : GateD) (w : World) (h : RdOv w o ar ls) (hl : ls[j + 1]? = some l) (hL : ls.length ≤ 1000000) (hx : (gateRow ar l)[c]? = some x) (hk : x.1.length ≤ k) (hk1 : k ≤ 1000000) :
    Calls Tryz.prog 14 #[.pointer (some ⟨o, 0, none⟩), .int .i64 ((j : Int) + 1 + 1), .int .i64 c, .int .i64 k] w fun e w' => e = .returned (.tuple #[.int .i64 (-1), .int .i64 (-1)]) ∧ Below w.heap.size w w' := by
  have hcM : c < (mostN l).toNat := by rw [← gateRow_len ar l]; exact (List.getElem?_eq_some_iff.1 hx).1
  have HH := Lib.hid (show ∀ V, V = w → Calls Tryz.prog 39 #[.pointer (some ⟨o, 0, none⟩), .int .i64 ((j : Int) + 1 + 1), .int .i64 c] V fun e w' => e = .returned (.bool true) ∧ V = w' from fun V e => by
    have := oHas_ok o (j + 1) c _ ar ls l w h hl hL rfl hcM
    subst e
    simpa using this)
  obtain ⟨Q, F, T, G, S, L, m, cq, cf, ct, cg, cs, h⟩ := h
  have h3 := h.n3
  have hjL : j + 1 < L := by rw [← h.part.1]; exact (List.getElem?_eq_some_iff.1 hl).1
  have hLL : L ≤ 1000000 := by rw [← h.part.1]; exact hL
  obtain ⟨row, gb, go_, A, n, cA, hrow, rfl, hc, hr, _⟩ := h.gates.at_ hjL
  rw [gates_get hl] at hrow
  cases hrow
  have hn : n = (mostN l).toNat := by rw [← hr.1, gateRow_len]
  obtain ⟨x', cb, co, A1, n1, c1, A2, n2, c2, hx', rfl, hc1, hr1, hc2, hr2, _⟩ := hr.at_ (c := c) (by omega)
  rw [hx] at hx'
  cases hx'
  have hkn : n1 ≤ k := by rw [← hr1.1]; exact hk
  have i1 : ¬ ((j : Int) + 1 + 1 < 2) := by omega
  have i2 : (j : Int) + 1 + 1 - 1 = (j : Int) + 1 := by omega
  have i5 : (j : Int) + 1 < (L : Int) := by omega
  have i7 : (0 : Int) ≤ (c : Int) := by omega
  have i8 : (c : Int) < (n : Int) := by omega
  have i9 : ¬ ((k : Int) < 0) := by omega
  have i10 : (n1 : Int) ≤ (k : Int) := by omega
  have i17 : (0 : Int) ≤ (j : Int) + 1 := by omega
  have i18 : ((j : Int) + 1).toNat = j + 1 := by omega
  clear h hl hL hx hk hr hr1 hr2 hn
  go_enter Tryz.func14, Tryz.ntmps14
  go_wp2_with fail
  with_reducible refine (HH.out _ rfl).mono ?_
  rintro e w' ⟨rfl, rfl⟩
  go_wp2_with fail
  go_ret2
  exact ⟨rfl, Below.refl _ _⟩

theorem is_ok (A1 A2 B1 B2 : Option Addr) (n1 c1 n2 c2 m1 d1 m2 d2 : Nat) (x y z u : List Int) (w : World) (h1 : RdI w A1 n1 x) (h2 : RdI w A2 n2 y) (h3 : RdI w B1 m1 z) (h4 : RdI w B2 m2 u) (q1 : n1 ≤ 1000000) (q2 : n2 ≤ 1000000) (q3 : m1 ≤ 1000000) (q4 : m2 ≤ 1000000) (e1 : x = z) (e2 : y = u) :
    Calls Tryz.prog 34 #[.agg #[.slice A1 n1 c1, .slice A2 n2 c2], .agg #[.slice B1 m1 d1, .slice B2 m2 d2]] w fun e w' => e = .returned (.bool true) ∧ Below w.heap.size w w' := by
  have HS1 := Lib.hid (fun (V : World) (hV : Below w.heap.size w V) => sameInts_any A1 B1 n1 m1 c1 d1 x z V (h1.below hV) (h3.below hV) (by omega) (by omega))
  have HS2 := Lib.hid (fun (V : World) (hV : Below w.heap.size w V) => sameInts_any A2 B2 n2 m2 c2 d2 y u V (h2.below hV) (h4.below hV) (by omega) (by omega))
  have E1 : decide (x = z) = true := by simpa using e1
  have E2 : decide (y = u) = true := by simpa using e2
  rw [E1] at HS1
  rw [E2] at HS2
  clear h1 h2 h3 h4 q1 q2 q3 q4 e1 e2 E1 E2
  go_enter Tryz.func34, Tryz.ntmps34
  go_wp2_with fail
  (refine calls_named ?_; intro w1 hw1)
  have hb1 : Below w.heap.size w w1 := by rw [hw1]; exact (by repeat (first | exact Below.refl _ _ | assumption | apply Below.drew | apply below_drewN | apply Bel.alloc | (refine Bel.setCell_ ?_ ?_; rotate_left; omega) | (refine Bel.step ?_ (by assumption))))
  have hX : Blk w1 w.heap.size 38 #[.slice A1 n1 c1, .slice A2 n2 c2] := by rw [hw1]; exact (by repeat (first | assumption | (refine Blk.new' _ _ _ ?_; first | with_unfolding_all rfl | (simp; done)) | apply Blk.drewN | apply Blk.drew | apply Blk.alloc | (refine Blk.far_ ?_ ?_ _; rotate_left; omega)))
  have hY : Blk w1 (w.heap.size + 1) 74 #[.slice B1 m1 d1, .slice B2 m2 d2] := by rw [hw1]; exact (by repeat (first | assumption | (refine Blk.new' _ _ _ ?_; first | with_unfolding_all rfl | (simp; done)) | apply Blk.drewN | apply Blk.drew | apply Blk.alloc | (refine Blk.far_ ?_ ?_ _; rotate_left; omega)))
  have x0 := hX.cell 0
  have x1 := hX.cell 1
  have y0 := hY.cell 0
  have y1 := hY.cell 1
  simp only [List.getElem?_toArray, List.getElem?_cons_zero, List.getElem?_cons_succ] at x0 x1 y0 y1
  have lX := hX.lt
  have lY := hY.lt
  clear hw1 hX hY
  with_reducible refine (HS1.out w1 hb1).mono ?_
  rintro e w' ⟨rfl, k, rfl⟩
  go_wp2_with fail
  with_reducible refine (HS2.out _ (Bel.step hb1 (below_drewN (Below.refl _ _) k))).mono ?_
  rintro e w' ⟨rfl, k2, rfl⟩
  go_wp2_with fail
  go_ret
  exact ⟨rfl, Bel.step hb1 (below_drewN (Below.refl _ _) (k + k2))⟩
end Go.Proofs.YtgkeolddpielpaaGreat
