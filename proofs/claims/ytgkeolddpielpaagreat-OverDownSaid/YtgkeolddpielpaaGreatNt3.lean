/- net.Check of a net that may be. -/
import Derived.Test.YtgkeolddpielpaaGreatNt2
namespace Go.Proofs.YtgkeolddpielpaaGreat
open Go.RowKit

attribute [local go_sem ↓] Go.wp_at_zero Go.wp_at_succ

set_option maxHeartbeats 4000000 in
set_option maxRecDepth 100000 in
theorem netCheck_ok (A B C : Option Addr) (n m k c d e : Nat) (N : NetD) (w : World) (h : RdNet w A B C n m k N) (hN : NetOk N) :
    Calls Tryz.prog 81 #[.agg #[.slice A n c, .slice B m d, .slice C k e]] w fun e w' => e = .returned .nilIface ∧ Below w.heap.size w w' := by
  have HH := Lib.hid h
  have HLV := Lib.hid h.1.1
  have HLA := Lib.hid h.2.1.1
  have HLT := Lib.hid h.2.2.1
  have hn : n ≤ 4096 := by rw [← h.1.1]; exact hN.lv
  have hm : m ≤ 16384 := by rw [← h.2.1.1]; exact hN.la
  have hk : k ≤ 256 := by rw [← h.2.2.1]; exact hN.lt
  have j0 : ¬ (n : Int) > 4096 := by omega
  have j1 : ¬ (m : Int) > 16384 := by omega
  have j2 : ¬ (k : Int) > 256 := by omega
  have HN := Lib.hid hN
  clear hN h
  go_enter Tryz.func81, Tryz.ntmps81
  go_wp2_with fail
  (refine wp_named ?_; intro w1 hw1)
  have hb1 : Below w.heap.size w w1 := by rw [hw1]; exact (by repeat (first | exact Below.refl _ _ | assumption | apply Below.drew | apply below_drewN | apply Bel.alloc | (refine Bel.setCell_ ?_ ?_; rotate_left; omega) | (refine Bel.step ?_ (by assumption))))
  have hN1 : Blk w1 w.heap.size 95 #[.slice A n c, .slice B m d, .slice C k e] := by rw [hw1]; exact Blk.new _ _ _
  have H1 := Lib.hid (HH.out.below hb1)
  clear hw1 j0 j1 j2
  go_loopw [34] (fun q W => ∃ i : Nat, i ≤ k ∧ q = .int .i64 i ∧ Below w1.heap.size w1 W) (fun q _ => k - (intOf q).toNat)
  case atStart => exact ⟨0, Nat.zero_le _, rfl, Below.refl _ _⟩
  case round =>
    obtain ⟨i, hi, rfl, hbl⟩ := hrel
    by_cases hlt : i < k
    · obtain ⟨b, o, t, rfl, ht, k0, k1, A', n', c', k2, hr, _, _⟩ := (H1.out.2.2.below hbl).at_ hlt
      have i1 : (0 : Int) ≤ (i : Int) := by omega
      have i2 : (i : Int) < (k : Int) := by omega
      have hT := HN.out.tabs t (List.mem_of_getElem? ht)
      have HTC := Lib.hid (show ∀ V, Below wr.heap.size wr V → Calls Tryz.prog 121 #[.agg #[.int .i64 t.ins, .int .i64 t.outs, .slice A' n' c']] V fun e w' => e = .returned .nilIface ∧ Below V.heap.size V w' from fun V hV => turnCheck_ok A' n' c' t V (hr.below hV) hT)
      clear ht hT
      go_wp2_with fail
      (refine calls_named ?_; intro w2 hw2)
      have hb2 : Below wr.heap.size wr w2 := by rw [hw2]; exact (by repeat (first | exact Below.refl _ _ | assumption | apply Below.drew | apply below_drewN | apply Bel.alloc | (refine Bel.setCell_ ?_ ?_; rotate_left; omega) | (refine Bel.step ?_ (by assumption))))
      clear hw2
      with_reducible refine (HTC.out w2 hb2).mono ?_
      rintro e w3 ⟨rfl, hb3⟩
      go_wp2_with fail
      go_roundw
      case rel => exact ⟨i + 1, by omega, by go_num, Bel.step hbl (Bel.step hb2 hb3)⟩
      case measure => simp [intOf]; omega
    · obtain ⟨w2, hw2⟩ : ∃ w2, w2 = wr := ⟨_, rfl⟩
      subst hw2
      obtain ⟨n0, n1, n2⟩ := (hN1.below hbl hN1.lt).three
      go_wp2_with fail
      clear n0 n1 n2
      go_loopw [50] (fun q W => ∃ j : Nat, j ≤ n ∧ q = .int .i64 j ∧ Below w1.heap.size w1 W) (fun q _ => n - (intOf q).toNat)
      case atStart => exact ⟨0, Nat.zero_le _, rfl, hbl⟩
      case round =>
        clear hbl
        obtain ⟨j, hj, rfl, hbl⟩ := hrel
        have hNr := hN1.below hbl hN1.lt
        obtain ⟨n0, n1, n2⟩ := hNr.three
        have zz := hNr.lt
        by_cases hlt2 : j < n
        · obtain ⟨b, o, x, y, z, rfl, hx, cx, cy, cz⟩ := (H1.out.1.below hbl).at_ hlt2
          have hok := HN.out.verts _ (List.mem_of_getElem? hx)
          have t0 := hok.t0
          have t1 := hok.t1
          simp only at t0 t1
          rw [HLT.out] at t1
          have HF1 := Lib.hid (show ∀ V, Calls Tryz.prog 122 #[.int .i64 x] V fun e w' => e = .returned (.bool false) ∧ V = w' from fun V => far_ok x V hok.x)
          have HF2 := Lib.hid (show ∀ V, Calls Tryz.prog 122 #[.int .i64 y] V fun e w' => e = .returned (.bool false) ∧ V = w' from fun V => far_ok y V hok.y)
          have i1 : (0 : Int) ≤ (j : Int) := by omega
          have i2 : (j : Int) < (n : Int) := by omega
          have t2 : ¬ z < 0 := by omega
          have t3 : ¬ z ≥ (k : Int) := by omega
          clear hx hok hNr
          go_wp2_with fail
          with_reducible refine (HF1.out _).mono ?_
          rintro e w' ⟨rfl, rfl⟩
          go_wp2_with fail
          with_reducible refine (HF2.out _).mono ?_
          rintro e w' ⟨rfl, rfl⟩
          go_wp2_with fail
          go_roundw
          case rel => exact ⟨j + 1, by omega, by go_num, Bel.alloc hbl⟩
          case measure => simp [intOf]; omega
        · obtain ⟨w3, hw3⟩ : ∃ w3, w3 = wr := ⟨_, rfl⟩
          subst hw3
          clear zz hNr
          go_wp2_with fail
          clear n0 n1 n2
          go_loopw [86] (fun q W => ∃ j : Nat, j ≤ m ∧ q = .int .i64 j ∧ Below w1.heap.size w1 W) (fun q _ => m - (intOf q).toNat)
          case atStart => exact ⟨0, Nat.zero_le _, rfl, hbl⟩
          case round =>
            clear hbl
            obtain ⟨q, hq, rfl, hbl⟩ := hrel
            have hNr := hN1.below hbl hN1.lt
            obtain ⟨n0, n1, n2⟩ := hNr.three
            have zz := hNr.lt
            by_cases hlt3 : q < m
            · obtain ⟨b, o, x, y, z, rfl, hx, cx, cy, cz⟩ := (H1.out.2.1.below hbl).at_ hlt3
              have hok := HN.out.arcs _ (List.mem_of_getElem? hx)
              have HV1 := Lib.hid (show ∀ V, Calls Tryz.prog 123 #[.agg #[.slice A n c, .slice (some ⟨b, o, none⟩) m d, .slice C k e], .int .i64 x] V fun e w' => e = .returned (.bool true) ∧ Below V.heap.size V w' from fun V => vertex_ok A _ C n m k c d e x V hok.f0 (by have := hok.f1; rw [HLV.out] at this; exact this))
              have HV2 := Lib.hid (show ∀ V, Calls Tryz.prog 123 #[.agg #[.slice A n c, .slice (some ⟨b, o, none⟩) m d, .slice C k e], .int .i64 y] V fun e w' => e = .returned (.bool true) ∧ Below V.heap.size V w' from fun V => vertex_ok A _ C n m k c d e y V hok.g0 (by have := hok.g1; rw [HLV.out] at this; exact this))
              have HW := Lib.hid (show ∀ V, Calls Tryz.prog 54 #[.int .i64 z] V fun e w' => e = .returned (.bool true) ∧ V = w' from fun V => by
                have := costWeight_any z V
                rw [hok.w] at this
                exact this)
              have i1 : (0 : Int) ≤ (q : Int) := by omega
              have i2 : (q : Int) < (m : Int) := by omega
              clear hx hok
              go_wp2_with fail
              (refine calls_named ?_; intro w4 hw4)
              have hb4 : Below wr.heap.size wr w4 := by rw [hw4]; exact (by repeat (first | exact Below.refl _ _ | assumption | apply Below.drew | apply below_drewN | apply Bel.alloc | (refine Bel.setCell_ ?_ ?_; rotate_left; omega) | (refine Bel.step ?_ (by assumption))))
              have hA4 : Blk w4 wr.heap.size 111 #[.int .i64 x, .int .i64 y, .int .i64 z] := by rw [hw4]; exact (by repeat (first | assumption | (refine Blk.new' _ _ _ ?_; first | with_unfolding_all rfl | (simp; done)) | apply Blk.drewN | apply Blk.drew | apply Blk.alloc | (refine Blk.far_ ?_ ?_ _; rotate_left; omega)))
              clear hw4
              with_reducible refine (HV1.out w4).mono ?_
              rintro e w5 ⟨rfl, hb5⟩
              have hb45 : Below wr.heap.size wr w5 := Bel.step hb4 hb5
              have hA5 := hA4.below hb5 hA4.lt
              have hN5 := hNr.below hb45 hNr.lt
              clear n0 n1 n2
              obtain ⟨n0, n1, n2⟩ := hN5.three
              obtain ⟨a0, a1, a2⟩ := hA5.three
              clear hA4 hb4 hb5
              go_wp2_with fail
              with_reducible refine (HV2.out w5).mono ?_
              rintro e w6 ⟨rfl, hb6⟩
              have hb46 : Below wr.heap.size wr w6 := Bel.step hb45 hb6
              obtain ⟨_, _, a2'⟩ := (hA5.below hb6 hA5.lt).three
              clear a0 a1 a2 n0 n1 n2 hb6 hb45
              go_wp2_with fail
              with_reducible refine (HW.out _).mono ?_
              rintro e w' ⟨rfl, rfl⟩
              go_wp2_with fail
              go_roundw
              case rel => exact ⟨q + 1, by omega, by go_num, Bel.step hbl hb46⟩
              case measure => simp [intOf]; omega
            · have HM := Lib.hid (meet_ok A B C n m k c d e N wr (H1.out.below hbl) HN.out)
              clear zz hNr
              go_wp2_with fail
              with_reducible refine HM.out.mono ?_
              rintro e w4 ⟨rfl, hb4⟩
              go_wp2_with fail
              go_ret
              exact ⟨rfl, Bel.step hb1 (Bel.step hbl hb4)⟩
end Go.Proofs.YtgkeolddpielpaaGreat
