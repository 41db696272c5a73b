/- law3.Few, law3.May, law8.Small. -/
import Derived.Test.YtgkeolddpielpaaGreatNt6
namespace Go.Proofs.YtgkeolddpielpaaGreat
open Go.RowKit

attribute [local go_sem ↓] Go.wp_at_zero Go.wp_at_succ

/-- A truth that holds just where (if it is told) G does. -/
def BoolRes (G : Prop) (e : Ending) : Prop := ∃ b : Bool, e = .returned (.bool b) ∧ (b = true → G)
structure FewOk (N : NetD) : Prop where
  v : N.vs.length ≤ 80
  a : N.ar.length ≤ 300
  t : N.ts.length ≤ 80
  c : ∀ t ∈ N.ts, t.costs.length ≤ 300
set_option maxHeartbeats 1000000 in
theorem few_any (A B C : Option Addr) (n m k c d e : Nat) (N : NetD) (w : World) (h : RdNet w A B C n m k N) :
    Calls Tryz.prog 89 #[.agg #[.slice A n c, .slice B m d, .slice C k e]] w fun e w' => BoolRes (FewOk N) e ∧ Below w.heap.size w w' := by
  have HH := Lib.hid h
  have HLV := Lib.hid h.1.1
  have HLA := Lib.hid h.2.1.1
  have HLT := Lib.hid h.2.2.1
  clear h
  by_cases q0 : (n : Int) > 80
  · go_enter Tryz.func89, Tryz.ntmps89
    go_wp2_with fail
    go_ret
    exact ⟨⟨false, rfl, fun h => by cases h⟩, (by repeat (first | exact Below.refl _ _ | assumption | apply Below.drew | apply below_drewN | apply Bel.alloc | (refine Bel.setCell_ ?_ ?_; rotate_left; omega) | (refine Bel.step ?_ (by assumption))))⟩
  by_cases q1 : (m : Int) > 300
  · go_enter Tryz.func89, Tryz.ntmps89
    go_wp2_with fail
    go_ret
    exact ⟨⟨false, rfl, fun h => by cases h⟩, (by repeat (first | exact Below.refl _ _ | assumption | apply Below.drew | apply below_drewN | apply Bel.alloc | (refine Bel.setCell_ ?_ ?_; rotate_left; omega) | (refine Bel.step ?_ (by assumption))))⟩
  by_cases q2 : (k : Int) > 80
  · go_enter Tryz.func89, Tryz.ntmps89
    go_wp2_with fail
    go_ret
    exact ⟨⟨false, rfl, fun h => by cases h⟩, (by repeat (first | exact Below.refl _ _ | assumption | apply Below.drew | apply below_drewN | apply Bel.alloc | (refine Bel.setCell_ ?_ ?_; rotate_left; omega) | (refine Bel.step ?_ (by assumption))))⟩
  go_enter Tryz.func89, Tryz.ntmps89
  go_wp2_with fail
  (refine wp_named ?_; intro w1 hw1)
  have hb1 : Below w.heap.size w w1 := by rw [hw1]; exact (by repeat (first | exact Below.refl _ _ | assumption | apply Below.drew | apply below_drewN | apply Bel.alloc | (refine Bel.setCell_ ?_ ?_; rotate_left; omega) | (refine Bel.step ?_ (by assumption))))
  have hN1 : Blk w1 w.heap.size 26 #[.slice A n c, .slice B m d, .slice C k e] := by rw [hw1]; exact Blk.new _ _ _
  clear hw1
  obtain ⟨n0, n1, n2⟩ := hN1.three
  have zN := hN1.lt
  have H1 := Lib.hid (HH.out.below hb1)
  go_loop [3] (fun q => ∃ i : Nat, i ≤ k ∧ q = .int .i64 i ∧ ∀ j t, j < i → N.ts[j]? = some t → t.costs.length ≤ 300) (fun q => k - (intOf q).toNat)
  case atStart => exact ⟨0, Nat.zero_le _, rfl, fun _ _ h => absurd h (Nat.not_lt_zero _)⟩
  case round =>
    obtain ⟨i, hi, rfl, hall⟩ := hrel
    have HA := Lib.hid hall
    clear hall
    by_cases hlt : i < k
    · obtain ⟨b, o, t, rfl, ht, k0, k1, A', n', c', k2, hr, hc1, hc2⟩ := H1.out.2.2.at_ hlt
      have i1 : (0 : Int) ≤ (i : Int) := by omega
      have i2 : (i : Int) < (k : Int) := by omega
      have HT := Lib.hid ht
      have HC := Lib.hid hr.1
      clear ht hr
      by_cases q3 : (n' : Int) > 300
      · go_wp2_with fail
        go_ret
        exact ⟨⟨false, rfl, fun h => by cases h⟩, hb1⟩
      · go_wp2_with fail
        go_round
        case rel =>
          refine ⟨i + 1, by omega, by go_num, fun j y hj hy => ?_⟩
          by_cases e : j = i
          · subst e
            rw [HT.out] at hy
            cases hy
            rw [HC.out]
            omega
          · exact HA.out j y (by omega) hy
        case measure => simp [intOf]; omega
    · obtain rfl : i = k := by omega
      go_wp2_with fail
      go_ret
      refine ⟨⟨true, rfl, fun _ => ⟨by rw [HLV.out]; omega, by rw [HLA.out]; omega, by rw [HLT.out]; omega, fun t ht => ?_⟩⟩, hb1⟩
      obtain ⟨j, hj⟩ := List.getElem?_of_mem ht
      exact HA.out j t (by rw [← HLT.out]; exact (List.getElem?_eq_some_iff.1 hj).1) hj
theorem fieldErr (A : Option Addr) (n m : Nat) (c : Int) (V : World) : (Instr.field 126 (.agg #[.slice A n m, .int .i64 c]) 1).run Tryz.prog V = .ok (.int .i64 c) V := by kernel_rfl
set_option maxHeartbeats 400000 in
set_option maxRecDepth 20000 in
theorem may3_any (A B C : Option Addr) (n m k c d e : Nat) (N : NetD) (w : World) (h : RdNet w A B C n m k N) (hn : n ≤ 9223372036854775807) (hm : m ≤ 9223372036854775807) (hk : k ≤ 9223372036854775807) :
    Calls Tryz.prog 61 #[.agg #[.slice A n c, .slice B m d, .slice C k e]] w fun e w' => BoolRes (FewOk N ∧ NetOk N) e ∧ Below w.heap.size w w' := by
  go_enter Tryz.func61, Tryz.ntmps61
  go_wp2_with fail
  (refine calls_named ?_; intro w1 hw1)
  have hb1 : Below w.heap.size w w1 := by rw [hw1]; exact (by repeat (first | exact Below.refl _ _ | assumption | apply Below.drew | apply below_drewN | apply Bel.alloc | (refine Bel.setCell_ ?_ ?_; rotate_left; omega) | (refine Bel.step ?_ (by assumption))))
  have hN1 : Blk w1 w.heap.size 26 #[.slice A n c, .slice B m d, .slice C k e] := by rw [hw1]; exact Blk.new _ _ _
  clear hw1
  with_reducible refine (few_any A B C n m k c d e N w1 (h.below hb1)).mono ?_
  rintro e' w2 ⟨⟨b, rfl, hf⟩, hb2⟩
  have hb2' := Bel.step hb1 hb2
  obtain ⟨n0, n1, n2⟩ := (hN1.below hb2 hN1.lt).three
  cases b
  · go_wp2_with fail
    go_ret
    exact ⟨⟨false, rfl, fun h => by cases h⟩, (by repeat (first | exact Below.refl _ _ | assumption | apply Below.drew | apply below_drewN | apply Bel.alloc | (refine Bel.setCell_ ?_ ?_; rotate_left; omega) | (refine Bel.step ?_ (by assumption))))⟩
  have HF := Lib.hid (hf rfl)
  clear hf
  go_wp2_with fail
  with_reducible refine (refCheckNet_any A B C n m k c d e N w2 (h.below hb2') hn hm hk).mono ?_
  rintro e' w3 ⟨⟨A4, k4, c4, x, rfl, hx⟩, hb3⟩
  have hb3' := Bel.step hb2' hb3
  have hfe := fieldErr A4 k4 c4 x w3
  clear hn hm hk h n0 n1 n2
  rcases hx with ⟨rfl, hG⟩ | hx
  · have HG := Lib.hid hG
    clear hG
    go_wp2_with fail
    go_ret
    exact ⟨⟨true, rfl, fun _ => ⟨HF.out, HG.out⟩⟩, hb3'⟩
  · go_wp2_with fail
    go_ret
    exact ⟨⟨_, rfl, fun h => absurd (by simpa using h) hx⟩, hb3'⟩
structure SmallOk (N : NetD) : Prop where
  v : N.vs.length ≤ 24
  a : N.ar.length ≤ 90
  few : FewOk N
  ok : NetOk N
set_option maxHeartbeats 400000 in
set_option maxRecDepth 20000 in
theorem small_any (A B C : Option Addr) (n m k c d e : Nat) (N : NetD) (w : World) (h : RdNet w A B C n m k N) (hk : k ≤ 9223372036854775807) :
    Calls Tryz.prog 35 #[.agg #[.slice A n c, .slice B m d, .slice C k e]] w fun e w' => BoolRes (SmallOk N) e ∧ Below w.heap.size w w' := by
  have HLV := Lib.hid h.1.1
  have HLA := Lib.hid h.2.1.1
  have HH := Lib.hid h
  have HK := Lib.hid hk
  clear hk h
  by_cases q0 : (n : Int) ≤ 24
  rotate_left
  · go_enter Tryz.func35, Tryz.ntmps35
    go_wp2_with fail
    go_ret
    exact ⟨⟨false, rfl, fun h => by cases h⟩, (by repeat (first | exact Below.refl _ _ | assumption | apply Below.drew | apply below_drewN | apply Bel.alloc | (refine Bel.setCell_ ?_ ?_; rotate_left; omega) | (refine Bel.step ?_ (by assumption))))⟩
  by_cases q1 : (m : Int) ≤ 90
  rotate_left
  · go_enter Tryz.func35, Tryz.ntmps35
    go_wp2_with fail
    go_ret
    exact ⟨⟨false, rfl, fun h => by cases h⟩, (by repeat (first | exact Below.refl _ _ | assumption | apply Below.drew | apply below_drewN | apply Bel.alloc | (refine Bel.setCell_ ?_ ?_; rotate_left; omega) | (refine Bel.step ?_ (by assumption))))⟩
  go_enter Tryz.func35, Tryz.ntmps35
  go_wp2_with fail
  (refine calls_named ?_; intro w1 hw1)
  have hb1 : Below w.heap.size w w1 := by rw [hw1]; exact (by repeat (first | exact Below.refl _ _ | assumption | apply Below.drew | apply below_drewN | apply Bel.alloc | (refine Bel.setCell_ ?_ ?_; rotate_left; omega) | (refine Bel.step ?_ (by assumption))))
  clear hw1
  with_reducible refine (may3_any A B C n m k c d e N w1 (HH.out.below hb1) (by omega) (by omega) HK.out).mono ?_
  rintro e' w2 ⟨⟨b, rfl, hf⟩, hb2⟩
  have HF := Lib.hid hf
  clear hf
  have hb2' := Bel.step hb1 hb2
  go_wp2_with fail
  go_ret
  exact ⟨⟨b, rfl, fun h => ⟨by rw [HLV.out]; omega, by rw [HLA.out]; omega, (HF.out h).1, (HF.out h).2⟩⟩, hb2'⟩
end Go.Proofs.YtgkeolddpielpaaGreat
