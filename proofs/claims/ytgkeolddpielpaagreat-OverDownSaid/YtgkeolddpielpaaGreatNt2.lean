/- net.meet, net.Check of a net that may be. -/
import Derived.Test.YtgkeolddpielpaaGreatNt1
namespace Go.Proofs.YtgkeolddpielpaaGreat
open Go.RowKit

attribute [local go_sem ↓] Go.wp_at_zero Go.wp_at_succ

theorem Blk.three {w : World} {g : Nat} {t : TypeId} {a b c : Value} (h : Blk w g t #[a, b, c]) : w.cell? ⟨g, 0, none⟩ = some a ∧ w.cell? ⟨g, 1, none⟩ = some b ∧ w.cell? ⟨g, 2, none⟩ = some c :=
  ⟨by rw [h.cell]; rfl, by rw [h.cell]; rfl, by rw [h.cell]; rfl⟩
/-- How many have each number. -/
def cnts (f : Tri → Int) (l : List Tri) (n : Nat) : List Int := (List.range n).map (fun v : Nat => ((l.countP (fun a => f a == (v : Int)) : Nat) : Int))
theorem cnts_len (f : Tri → Int) (l : List Tri) (n : Nat) : (cnts f l n).length = n := by simp [cnts]
theorem cnts_get {f : Tri → Int} {l : List Tri} {n v : Nat} (h : v < n) : (cnts f l n)[v]? = some ((l.countP (fun a => f a == (v : Int)) : Nat) : Int) := by
  unfold cnts
  rw [List.getElem?_map, List.getElem?_range h]
  rfl
theorem cnts_zero (f : Tri → Int) (n : Nat) : ints (cnts f [] n) = zeros (.int .i64 0) n := by
  rw [zeros_int]
  congr 1
  apply List.ext_getElem?
  intro i
  rcases Nat.lt_or_ge i n with h | h
  · rw [cnts_get h]; simp [h]
  · rw [List.getElem?_eq_none (by rw [cnts_len]; exact h), List.getElem?_eq_none (by simpa using h)]
theorem cnts_next {f : Tri → Int} {l : List Tri} {n v k : Nat} {a : Tri} (ha : l[k]? = some a) (hv : f a = (v : Int)) (h : v < n) :
    (cnts f (l.take k) n).set v ((((l.take k).countP (fun a => f a == (v : Int)) : Nat) : Int) + 1) = cnts f (l.take (k + 1)) n := by
  apply List.ext_getElem?
  intro i
  rw [List.take_succ_eq_append_getElem (List.getElem?_eq_some_iff.1 ha).1, (List.getElem?_eq_some_iff.1 ha).2]
  rcases Nat.lt_or_ge i n with hi | hi
  · rw [cnts_get hi, List.countP_append]
    by_cases e : v = i
    · subst e
      rw [List.getElem?_set_self (by rw [cnts_len]; exact h)]
      simp [hv]
    · rw [List.getElem?_set_ne e, cnts_get hi]
      have : (f a == (i : Int)) = false := by rw [hv]; simp; omega
      simp [this]
  · rw [List.getElem?_eq_none (by rw [List.length_set, cnts_len]; exact hi), List.getElem?_eq_none (by rw [cnts_len]; exact hi)]
theorem cnts_bd (f : Tri → Int) (l : List Tri) (k : Nat) (v : Int) : (l.take k).countP (fun a => f a == v) ≤ k := Nat.le_trans List.countP_le_length (List.length_take_le _ _)

set_option maxHeartbeats 4000000 in
set_option maxRecDepth 100000 in
theorem meet_ok (A B C : Option Addr) (n m k c d e : Nat) (N : NetD) (w : World) (h : RdNet w A B C n m k N) (hN : NetOk N) :
    Calls Tryz.prog 124 #[.agg #[.slice A n c, .slice B m d, .slice C k e]] w fun e w' => e = .returned .nilIface ∧ Below w.heap.size w w' := by
  obtain ⟨hv, ha, ht⟩ := h
  have HLV := Lib.hid hv.1
  have HLA := Lib.hid ha.1
  have HLT := Lib.hid ht.1
  have hn : n ≤ 4096 := by rw [← hv.1]; exact hN.lv
  have hm : m ≤ 16384 := by rw [← ha.1]; exact hN.la
  have hmk := run_makeI n (by omega)
  have HN := Lib.hid hN
  clear hN
  go_enter Tryz.func124, Tryz.ntmps124
  go_wp2_with fail
  (refine wp_named ?_; intro w1 hw1)
  have hb1 : Below w.heap.size w w1 := by rw [hw1]; exact (by repeat (first | exact Below.refl _ _ | assumption | apply Below.drew | apply below_drewN | apply Bel.alloc | (refine Bel.setCell_ ?_ ?_; rotate_left; omega) | (refine Bel.step ?_ (by assumption))))
  have hN1 : Blk w1 w.heap.size 95 #[.slice A n c, .slice B m d, .slice C k e] := by rw [hw1]; exact (by repeat (first | assumption | (refine Blk.new' _ _ _ ?_; first | with_unfolding_all rfl | (simp; done)) | apply Blk.drewN | apply Blk.drew | apply Blk.alloc | (refine Blk.far_ ?_ ?_ _; rotate_left; omega)))
  have hI1 : Blk w1 (w.heap.size + 1) 3 (zeros (.int .i64 0) n) := by rw [hw1]; exact (by repeat (first | assumption | (refine Blk.new' _ _ _ ?_; first | with_unfolding_all rfl | (simp; done)) | apply Blk.drewN | apply Blk.drew | apply Blk.alloc | (refine Blk.far_ ?_ ?_ _; rotate_left; omega)))
  have hO1 : Blk w1 (w.heap.size + 1 + 1) 3 (zeros (.int .i64 0) n) := by rw [hw1]; exact (by repeat (first | assumption | (refine Blk.new' _ _ _ ?_; first | with_unfolding_all rfl | (simp; done)) | apply Blk.drewN | apply Blk.drew | apply Blk.alloc | (refine Blk.far_ ?_ ?_ _; rotate_left; omega)))
  clear hw1 hmk
  go_loopw [21] (fun q W => ∃ i : Nat, i ≤ m ∧ q = .int .i64 i ∧ Below w.heap.size w W ∧ Blk W w.heap.size 95 #[.slice A n c, .slice B m d, .slice C k e] ∧ Blk W (w.heap.size + 1) 3 (ints (cnts (·.2.1) (N.ar.take i) n)) ∧ Blk W (w.heap.size + 1 + 1) 3 (ints (cnts (·.1) (N.ar.take i) n))) (fun q _ => m - (intOf q).toNat)
  case atStart => exact ⟨0, Nat.zero_le _, rfl, hb1, hN1, by rw [List.take_zero, cnts_zero]; exact hI1, by rw [List.take_zero, cnts_zero]; exact hO1⟩
  case round =>
    clear hb1 hN1 hI1 hO1
    obtain ⟨i, hi, rfl, hbl, hNN, hI, hO⟩ := hrel
    by_cases hlt : i < m
    · obtain ⟨b, o, x, y, z, rfl, hx, cx, cy, cz⟩ := (ha.below hbl).at_ hlt
      have hok := HN.out.arcs _ (List.mem_of_getElem? hx)
      have f0 := hok.f0
      have f1 := hok.f1
      have g0 := hok.g0
      have g1 := hok.g1
      simp only at f0 f1 g0 g1
      rw [HLV.out] at f1 g1
      obtain ⟨u, rfl⟩ : ∃ u : Nat, x = u := ⟨x.toNat, by omega⟩
      obtain ⟨v, rfl⟩ : ∃ v : Nat, y = v := ⟨y.toNat, by omega⟩
      have hu : u < n := by omega
      have hvn : v < n := by omega
      have hx1 := cnts_next (f := (·.2.1)) (n := n) (v := v) hx rfl hvn
      have hx2 := cnts_next (f := (·.1)) (n := n) (v := u) hx rfl hu
      have c1 := hI.cellI (cnts_get (f := (·.2.1)) (l := N.ar.take i) hvn)
      have c2 := hO.cellI (cnts_get (f := (·.1)) (l := N.ar.take i) hu)
      have d1 := cnts_bd (·.2.1) N.ar i v
      have d2 := cnts_bd (·.1) N.ar i u
      have HX1 := Lib.hid hx1
      have HX2 := Lib.hid hx2
      clear hx1 hx2
      generalize (N.ar.take i).countP (fun a => a.2.1 == (v : Int)) = p at *
      generalize (N.ar.take i).countP (fun a => a.1 == (u : Int)) = q at *
      have q1 := hI.frozen v
      have q2 := hO.frozen u
      have z1 := hI.lt
      have z2 := hO.lt
      have i1 : (0 : Int) ≤ (i : Int) := by omega
      have i2 : (i : Int) < (m : Int) := by omega
      have hz := hbl.size
      obtain ⟨W2, hW2⟩ : ∃ W2, W2 = ((wr.setCell ⟨w.heap.size + 1, v, none⟩ (.int .i64 ((p : Int) + 1))).setCell ⟨w.heap.size + 1 + 1, u, none⟩ (.int .i64 ((q : Int) + 1))).alloc (.cells #[.int .i64 u, .int .i64 v, .int .i64 z] 111) := ⟨_, rfl⟩
      have HW2 := Lib.hid hW2
      have hb2 : Below w.heap.size w W2 := by rw [hW2]; exact Bel.alloc ((hbl.setCell (by simp only; omega) _).setCell (by simp only; omega) _)
      have hN2 : Blk W2 w.heap.size 95 #[.slice A n c, .slice (some ⟨b, o, none⟩) m d, .slice C k e] := by rw [hW2]; exact (by repeat (first | assumption | apply Blk.drewN | apply Blk.drew | apply Blk.alloc | (refine Blk.far_ ?_ ?_ _; rotate_left; omega)))
      have hI2 : Blk W2 (w.heap.size + 1) 3 (ints (cnts (·.2.1) (N.ar.take (i + 1)) n)) := by
        rw [hW2]; exact ((hI.setI HX1.out).far_ (by omega) _).alloc _
      have hO2 : Blk W2 (w.heap.size + 1 + 1) 3 (ints (cnts (·.1) (N.ar.take (i + 1)) n)) := by
        rw [hW2]; exact (Blk.setI (hO.far_ (by omega) _) HX2.out).alloc _
      have HI2 := Lib.hid hI2
      have HO2 := Lib.hid hO2
      have HN2 := Lib.hid hN2
      clear hW2 hx hok hI hO hNN hI2 hO2 hN2
      go_wp2_with fail
      rw [← HW2.out]
      go_roundw
      case rel => exact ⟨i + 1, by omega, by go_num, hb2, HN2.out, HI2.out, HO2.out⟩
      case measure => simp [intOf]; omega
    · obtain rfl : i = m := by omega
      rw [List.take_of_length_le (by rw [HLA.out]; exact Nat.le_refl _)] at hI hO
      obtain ⟨w2, hw2⟩ : ∃ w2, w2 = wr := ⟨_, rfl⟩
      subst hw2
      obtain ⟨n0, n1, n2⟩ := hNN.three
      go_wp2_with fail
      clear n0 n1 n2
      have hv2 := hv.below hbl
      have ht2 := ht.below hbl
      go_loopw [43] (fun q W => ∃ j : Nat, j ≤ n ∧ q = .int .i64 j ∧ Below w2.heap.size w2 W) (fun q _ => n - (intOf q).toNat)
      case atStart => exact ⟨0, Nat.zero_le _, rfl, Below.refl _ _⟩
      case round =>
        obtain ⟨j, hj, rfl, hb2⟩ := hrel
        by_cases hlt2 : j < n
        · obtain ⟨b, o, x, y, z, rfl, hx, cx, cy, cz⟩ := (hv2.below hb2).at_ hlt2
          have hok := HN.out.verts _ (List.mem_of_getElem? hx)
          have t0 := hok.t0
          have t1 := hok.t1
          simp only at t0 t1
          rw [HLT.out] at t1
          obtain ⟨u, rfl⟩ : ∃ u : Nat, z = u := ⟨z.toNat, by omega⟩
          have hu : u < k := by omega
          obtain ⟨b', o', t, rfl, htt, k0, k1, A', n', c', k2, _, _, _⟩ := (ht2.below hb2).at_ hu
          have hm1 := HN.out.meet j _ t hx (by simpa using htt)
          have hT := HN.out.tabs t (List.mem_of_getElem? htt)
          have m1 : (cntTo N.ar j : Int) = t.ins := hm1.1
          have m2 : (cntFr N.ar j : Int) = t.outs := hm1.2
          have b1 := hT.i16
          have b2 := hT.o16
          have b3 := hT.i0
          have b4 := hT.o0
          have hIr := hI.below hb2 hI.lt
          have hOr := hO.below hb2 hO.lt
          have hNr := hNN.below hb2 hNN.lt
          obtain ⟨_, _, n2⟩ := hNr.three
          have c1 := hIr.cellI (cnts_get (f := (·.2.1)) (l := N.ar) hlt2)
          have c2 := hOr.cellI (cnts_get (f := (·.1)) (l := N.ar) hlt2)
          have HC := Lib.hid (show ∀ V, Below wr.heap.size wr V → V.cell? ⟨w.heap.size + 1, j, none⟩ = some (.int .i64 ((N.ar.countP (fun a => a.2.1 == (j : Int)) : Nat) : Int)) ∧ V.cell? ⟨w.heap.size + 1 + 1, j, none⟩ = some (.int .i64 ((N.ar.countP (fun a => a.1 == (j : Int)) : Nat) : Int)) from fun V hV => ⟨Below.cellOf hV (Nat.le_refl _) c1, Below.cellOf hV (Nat.le_refl _) c2⟩)
          unfold cntTo at m1
          unfold cntFr at m2
          generalize N.ar.countP (fun a => a.2.1 == (j : Int)) = p at *
          generalize N.ar.countP (fun a => a.1 == (j : Int)) = q at *
          obtain ⟨ti, to_, tc⟩ := t
          simp only at m1 m2 b1 b2 b3 b4 k0 k1
          subst m1; subst m2
          have z0 := hNr.lt
          have z1 := hIr.lt
          have z2 := hOr.lt
          have i1 : (0 : Int) ≤ (j : Int) := by omega
          have i2 : (j : Int) < (n : Int) := by omega
          have i3 : (0 : Int) ≤ (u : Int) := by omega
          have i4 : (u : Int) < (k : Int) := by omega
          have zb : b' < wr.heap.size := lt_of_cell k0
          clear hx hok htt hm1 hT hNr
          go_wp2_with fail
          (refine wp_named ?_; intro w3 hw3)
          have hb3 : Below wr.heap.size wr w3 := by rw [hw3]; exact (by repeat (first | exact Below.refl _ _ | assumption | apply Below.drew | apply below_drewN | apply Bel.alloc | (refine Bel.setCell_ ?_ ?_; rotate_left; omega) | (refine Bel.step ?_ (by assumption))))
          have hT3 : Blk w3 (wr.heap.size + 1) 149 #[.int .i64 p, .int .i64 q, .slice A' n' c'] := by rw [hw3]; exact (by repeat (first | assumption | (refine Blk.new' _ _ _ ?_; first | with_unfolding_all rfl | (simp; done)) | apply Blk.drewN | apply Blk.drew | apply Blk.alloc | (refine Blk.far_ ?_ ?_ _; rotate_left; omega)))
          obtain ⟨c1', c2'⟩ := HC.out w3 hb3
          obtain ⟨t0', t1', t2'⟩ := hT3.three
          clear hw3 c1 c2 cx cy cz k0 k1 k2 n2
          have d1 : (((p : Nat) : Int) != ((p : Nat) : Int)) = false := by simp
          have d2 : (((q : Nat) : Int) != ((q : Nat) : Int)) = false := by simp
          go_wp2_with fail
          go_quiet (fail)
          go_wp2_with fail
          go_roundw
          case rel => exact ⟨j + 1, by omega, by go_num, below_drewN (Bel.step hb2 hb3) _⟩
          case measure => simp [intOf]; omega
        · go_wp2_with fail
          go_ret
          exact ⟨rfl, Bel.step hbl hb2⟩
end Go.Proofs.YtgkeolddpielpaaGreat
