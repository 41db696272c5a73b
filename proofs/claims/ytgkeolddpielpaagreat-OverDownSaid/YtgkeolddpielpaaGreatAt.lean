/- (*Over).At. -/
import Derived.Test.YtgkeolddpielpaaGreatWp
namespace Go.Proofs.YtgkeolddpielpaaGreat
open Go.RowKit

attribute [local go_sem ↓] Go.wp_at_zero Go.wp_at_succ

set_option maxHeartbeats 1000000 in
/-- Where an entry stands. -/
theorem at_ok (o i c a b : Nat) (ar : List Tri) (ls : List (List Int)) (l : List Int) (x : GateD) (w : World) (h : RdOv w o ar ls) (hl : ls[i]? = some l) (hx : (gateRow ar l)[c]? = some x) (ha : a < x.1.length) (hb : b < x.2.length) (hL : ls.length ≤ 1000000) (hS : sumA (gatesOf ar ls) ≤ 1000000000000) :
    Calls Tryz.prog 30 #[.pointer (some ⟨o, 0, none⟩), .int .i64 ((i : Int) + 1), .int .i64 c, .int .i64 a, .int .i64 b] w fun e w' => e = .returned (.int .i64 ((enAt (gatesOf ar ls) (gateRow ar l) i c x a b : Nat) : Int)) ∧ Below w.heap.size w w' := by
  obtain ⟨z, hz⟩ : ∃ z, z = enAt (gatesOf ar ls) (gateRow ar l) i c x a b := ⟨_, rfl⟩
  have hrow := gates_get (ar := ar) hl
  have z3 := enAt_lt2 hrow hx ha hb
  have z4 := sumA_all (gatesOf ar ls) (i + 1)
  have hcM : c < (mostN l).toNat := by rw [← gateRow_len ar l]; exact (List.getElem?_eq_some_iff.1 hx).1
  rw [← hz] at z3 ⊢
  have HH := Lib.hid (oHas_ok o i c _ ar ls l w h hl hL rfl hcM)
  obtain ⟨Q, F, T, G, S, L, m, cq, cf, ct, cg, cs, h⟩ := h
  have h4 := h.n4
  have h3 := h.n3
  have hiL : i < L := by rw [← h.part.1]; exact (List.getElem?_eq_some_iff.1 hl).1
  have hLL : L ≤ 1000000 := by rw [← h.part.1]; exact hL
  obtain ⟨row, gb, go_, Ag, ng, cA, hrowg, rfl, hcg, hrg, _⟩ := h.gates.at_ hiL
  rw [hrow] at hrowg
  cases hrowg
  have hcng : c < ng := by rw [← hrg.1]; exact (List.getElem?_eq_some_iff.1 hx).1
  obtain ⟨x', cb, co, A1, n1, c1, A2, n2, c2, hx', rfl, hc1, hr1, hc2, hr2, hc21⟩ := hrg.at_ (c := c) hcng
  rw [hx] at hx'
  cases hx'
  have hn1 : x.1.length = n1 := hr1.1
  have hn2 : x.2.length = n2 := hr2.1
  obtain ⟨sb, so, Ar, n, c', lr, rfl, elr, hrc, hrr, hrn⟩ := h.starts.at_ hiL
  rw [stAll_get hrow] at elr
  cases elr
  have hnM : n = (mostN l).toNat := by rw [← hrr.1, stRow_len, gateRow_len]
  have hcn : c < n := by omega
  obtain ⟨rb, ro, y0, rfl, ey0, hy0⟩ := hrr.at_ hcn
  rw [stRow_get (by rw [gateRow_len]; exact hcM)] at ey0
  obtain ⟨s, hs⟩ : ∃ s, s = sumA ((gatesOf ar ls).take i) + sumS ((gateRow ar l).take c) := ⟨_, rfl⟩
  rw [← hs] at ey0
  cases ey0
  have hzd : z = s + (a * n2 + b) := by rw [hz, hs, ← hn2]; rfl
  obtain ⟨p, hp⟩ : ∃ p, p = a * n2 := ⟨_, rfl⟩
  rw [← hp] at hzd
  have m1 : (a : Int) * (n2 : Int) = (p : Int) := by rw [hp]; simp
  have wp_ : IntKind.i64.wrap (p : Int) = (p : Int) := IntWalk.i64_in _ (by omega)
  obtain ⟨t, ht⟩ : ∃ t, t = s + p := ⟨_, rfl⟩
  have m2 : (s : Int) + (p : Int) = (t : Int) := by omega
  have wt : IntKind.i64.wrap (t : Int) = (t : Int) := IntWalk.i64_in _ (by omega)
  have m3 : (t : Int) + (b : Int) = (z : Int) := by omega
  have m3' : (b : Int) + (t : Int) = (z : Int) := by omega
  have wz : IntKind.i64.wrap (z : Int) = (z : Int) := IntWalk.i64_in _ (by omega)
  have wi : IntKind.i64.wrap (i : Int) = (i : Int) := IntWalk.i64_in _ (by omega)
  have i1 : (0 : Int) ≤ (i : Int) := by omega
  have i2 : (i : Int) < (L : Int) := by omega
  have i5 : (i : Int) + 1 - 1 = (i : Int) := by omega
  have i6 : (0 : Int) ≤ (c : Int) := by omega
  have i7 : (c : Int) < (ng : Int) := by omega
  have i8 : (c : Int) < (n : Int) := by omega
  have i9 : ¬ ((a : Int) < 0) := by omega
  have i10 : ¬ ((n1 : Int) ≤ (a : Int)) := by omega
  have i11 : ¬ ((b : Int) < 0) := by omega
  have i12 : ¬ ((n2 : Int) ≤ (b : Int)) := by omega
  have ho : o < w.heap.size := World.block_lt_of_cell? _ _ h3
  clear h hl hrow hx ha hb hL hS hz z3 z4 hrg hr1 hr2 hc21 hn1 hn2 hrr hs hzd hp ht hnM hcM hrn
  go_enter Tryz.func30, Tryz.ntmps30
  go_wp2_with fail
  with_reducible refine HH.out.mono ?_
  rintro e w' ⟨rfl, rfl⟩
  go_wp2_with fail
  (refine wp_named ?_; intro W hW)
  have hb1 : Below w.heap.size w W := by rw [hW]; exact (by repeat (first | exact Below.refl _ _ | assumption | apply Below.drew | apply below_drewN | apply Bel.alloc | (refine Bel.setCell_ ?_ ?_; rotate_left; omega) | (refine Bel.step ?_ (by assumption))))
  have hX : Blk W w.heap.size 38 #[.slice A1 n1 c1, .slice A2 n2 c2] := by rw [hW]; exact (by repeat (first | assumption | (refine Blk.new' _ _ _ ?_; first | with_unfolding_all rfl | (simp; done)) | apply Blk.drewN | apply Blk.drew | apply Blk.alloc | (refine Blk.far_ ?_ ?_ _; rotate_left; omega)))
  clear hW
  have g3 := Below.cellOf hb1 (Nat.le_refl _) h3
  have g4 := Below.cellOf hb1 (Nat.le_refl _) h4
  have gr := Below.cellOf hb1 (Nat.le_refl _) hrc
  have gy := Below.cellOf hb1 (Nat.le_refl _) hy0
  have x0 := hX.cell 0
  have x1 := hX.cell 1
  simp only [List.getElem?_toArray, List.getElem?_cons_zero, List.getElem?_cons_succ] at x0 x1
  clear hX
  go_wp2_with fail
  go_quiet (fail)
  go_wp2_with fail
  go_ret
  exact ⟨rfl, below_drewN hb1 _⟩
/-- Of a cell that no arc enters: none. -/
theorem at_no (o i c a b : Nat) (ar : List Tri) (ls : List (List Int)) (l : List Int) (x : GateD) (w : World) (h : RdOv w o ar ls) (hl : ls[i]? = some l) (hx : (gateRow ar l)[c]? = some x) (ha : x.1.length ≤ a) (hL : ls.length ≤ 1000000) :
    Calls Tryz.prog 30 #[.pointer (some ⟨o, 0, none⟩), .int .i64 ((i : Int) + 1), .int .i64 c, .int .i64 a, .int .i64 b] w fun e w' => e = .returned (.int .i64 (-1)) ∧ Below w.heap.size w w' := by
  have hrow := gates_get (ar := ar) hl
  have hcM : c < (mostN l).toNat := by rw [← gateRow_len ar l]; exact (List.getElem?_eq_some_iff.1 hx).1
  have HH := Lib.hid (oHas_ok o i c _ ar ls l w h hl hL rfl hcM)
  obtain ⟨Q, F, T, G, S, L, m, cq, cf, ct, cg, cs, h⟩ := h
  have h3 := h.n3
  have hiL : i < L := by rw [← h.part.1]; exact (List.getElem?_eq_some_iff.1 hl).1
  have hLL : L ≤ 1000000 := by rw [← h.part.1]; exact hL
  obtain ⟨row, gb, go_, Ag, ng, cA, hrowg, rfl, hcg, hrg, _⟩ := h.gates.at_ hiL
  rw [hrow] at hrowg
  cases hrowg
  have hcng : c < ng := by rw [← hrg.1]; exact (List.getElem?_eq_some_iff.1 hx).1
  obtain ⟨x', cb, co, A1, n1, c1, A2, n2, c2, hx', rfl, hc1, hr1, hc2, hr2, hc21⟩ := hrg.at_ (c := c) hcng
  rw [hx] at hx'
  cases hx'
  have hn1 : x.1.length = n1 := hr1.1
  have i1 : (0 : Int) ≤ (i : Int) := by omega
  have i2 : (i : Int) < (L : Int) := by omega
  have i5 : (i : Int) + 1 - 1 = (i : Int) := by omega
  have i6 : (0 : Int) ≤ (c : Int) := by omega
  have i7 : (c : Int) < (ng : Int) := by omega
  have i9 : ¬ ((a : Int) < 0) := by omega
  have i10 : ((n1 : Int) ≤ (a : Int)) := by omega
  have ho : o < w.heap.size := World.block_lt_of_cell? _ _ h3
  clear h hl hrow hx ha hL hrg hr1 hr2 hc21 hn1 hcM
  go_enter Tryz.func30, Tryz.ntmps30
  go_wp2_with fail
  with_reducible refine HH.out.mono ?_
  rintro e w' ⟨rfl, rfl⟩
  go_wp2_with fail
  go_ret
  exact ⟨rfl, (by repeat (first | exact Below.refl _ _ | assumption | apply Below.drew | apply below_drewN | apply Bel.alloc | (refine Bel.setCell_ ?_ ?_; rotate_left; omega) | (refine Bel.step ?_ (by assumption))))⟩
end Go.Proofs.YtgkeolddpielpaaGreat
