/- Parts of the proof: Nt6. -/
import Derived.Test.YtpffhoefmcpniaaGreatDoorB1
import Derived.Test.YtpffhoefmcpniaaGreatDoorB23
namespace Go.Proofs.YtpffhoefmcpniaaGreatDoor
open Go.RowKit

attribute [local go_sem ↓] Go.wp_at_zero Go.wp_at_succ

set_option maxHeartbeats 6000000 in
set_option maxRecDepth 100000 in
theorem refCheckNet_any (A B C : Option Addr) (n m k c d e : Nat) (N : NetD) (w : World) (h : RdNet w A B C n m k N) (hn : n ≤ 9223372036854775807) (hm : m ≤ 9223372036854775807) (hk : k ≤ 9223372036854775807) :
 Calls Tryz.prog 50 #[.agg #[.slice A n c, .slice B m d, .slice C k e]] w fun e w' => CkRes0 (NetOk N) e ∧ Below w.heap.size w w' := by
 have HH := Lib.hid h
 have HLV := Lib.hid h.1.1
 have HLA := Lib.hid h.2.1.1
 have HLT := Lib.hid h.2.2.1
 clear h
 by_cases q0 : (n : Int) > 4096
 · go_enter Tryz.func50, Tryz.ntmps50
   go_wp2_with fail
   (refine calls_named ?_; intro w5 hw5)
   have hB5 : Blk w5 (w.heap.size + 1) 42 #[.slice none 0 0, .int .i64 0] := by rw [hw5]; exact bLNt
   have hb5 : Below w.heap.size w w5 := by rw [hw5]; exact bELt
   clear hw5
   with_reducible refine (refAt0_any _ _ _ _).mono ?_
   rintro e w2 ⟨⟨A4, n4, m4, rfl, hg4⟩, hb⟩
   have hB2 := Blk.below hB5 hb hB5.lt
   obtain ⟨c0, c1, f0, f1⟩ := hB2.two
   have hb2 : Below w.heap.size w w2 := Bel.step hb5 hb
   go_wp2_with fail
   refine bodyPost_ret (v := .agg #[.slice A4 n4 m4, .int .i64 4]) (by simp [results, Tryz.results50, go_sem, c0, c1]) rfl ?_
   first | exact ⟨CkRes0.no (by decide), bELt⟩ | exact ⟨CkRes.no (Wg.mono (B := w5.heap.size) (Wg.setCell (Wg.setCell hg4 hB5.lt _) hB5.lt _) hb5.size) (by decide), bELt⟩
 by_cases q1 : (m : Int) > 16384
 · go_enter Tryz.func50, Tryz.ntmps50
   go_wp2_with fail
   (refine calls_named ?_; intro w5 hw5)
   have hB5 : Blk w5 (w.heap.size + 1) 42 #[.slice none 0 0, .int .i64 0] := by rw [hw5]; exact bLNt
   have hb5 : Below w.heap.size w w5 := by rw [hw5]; exact bELt
   clear hw5
   with_reducible refine (refAt0_any _ _ _ _).mono ?_
   rintro e w2 ⟨⟨A4, n4, m4, rfl, hg4⟩, hb⟩
   have hB2 := Blk.below hB5 hb hB5.lt
   obtain ⟨c0, c1, f0, f1⟩ := hB2.two
   have hb2 : Below w.heap.size w w2 := Bel.step hb5 hb
   go_wp2_with fail
   refine bodyPost_ret (v := .agg #[.slice A4 n4 m4, .int .i64 4]) (by simp [results, Tryz.results50, go_sem, c0, c1]) rfl ?_
   first | exact ⟨CkRes0.no (by decide), bELt⟩ | exact ⟨CkRes.no (Wg.mono (B := w5.heap.size) (Wg.setCell (Wg.setCell hg4 hB5.lt _) hB5.lt _) hb5.size) (by decide), bELt⟩
 by_cases q2 : (k : Int) > 256
 · go_enter Tryz.func50, Tryz.ntmps50
   go_wp2_with fail
   (refine calls_named ?_; intro w5 hw5)
   have hB5 : Blk w5 (w.heap.size + 1) 42 #[.slice none 0 0, .int .i64 0] := by rw [hw5]; exact bLNt
   have hb5 : Below w.heap.size w w5 := by rw [hw5]; exact bELt
   clear hw5
   with_reducible refine (refAt0_any _ _ _ _).mono ?_
   rintro e w2 ⟨⟨A4, n4, m4, rfl, hg4⟩, hb⟩
   have hB2 := Blk.below hB5 hb hB5.lt
   obtain ⟨c0, c1, f0, f1⟩ := hB2.two
   have hb2 : Below w.heap.size w w2 := Bel.step hb5 hb
   go_wp2_with fail
   refine bodyPost_ret (v := .agg #[.slice A4 n4 m4, .int .i64 4]) (by simp [results, Tryz.results50, go_sem, c0, c1]) rfl ?_
   first | exact ⟨CkRes0.no (by decide), bELt⟩ | exact ⟨CkRes.no (Wg.mono (B := w5.heap.size) (Wg.setCell (Wg.setCell hg4 hB5.lt _) hB5.lt _) hb5.size) (by decide), bELt⟩
 go_enter Tryz.func50, Tryz.ntmps50
 go_wp2_with fail
 (refine wp_named ?_; intro w1 hw1)
 have hb1 : Below w.heap.size w w1 := by rw [hw1]; exact bELt
 have hN1 : Blk w1 w.heap.size 26 #[.slice A n c, .slice B m d, .slice C k e] := by rw [hw1]; exact bLNt
 have hR1 : Blk w1 (w.heap.size + 1) 42 #[.slice none 0 0, .int .i64 0] := by rw [hw1]; exact bLNt
 clear hw1
 go_loopw [3] (fun q W => ∃ i : Nat, i ≤ k ∧ q = .int .i64 i ∧ Below w.heap.size w W ∧ Blk W w.heap.size 26 #[.slice A n c, .slice B m d, .slice C k e] ∧ Blk W (w.heap.size + 1) 42 #[.slice none 0 0, .int .i64 0] ∧ ∀ j t, j < i → N.ts[j]? = some t → TabOk t) (fun q _ => k - (intOf q).toNat)
 case atStart => exact ⟨0, Nat.zero_le _, rfl, hb1, hN1, hR1, fun _ _ h => absurd h (Nat.not_lt_zero _)⟩
 case round =>
  clear hb1 hN1 hR1
  obtain ⟨i, hi, rfl, hbl, hNN, hRR, hall⟩ := hrel
  have HA := Lib.hid hall
  clear hall
  obtain ⟨n0, n1, n2⟩ := hNN.three
  have zN := hNN.lt
  have zR := hRR.lt
  by_cases hlt : i < k
  · obtain ⟨b, o, t, rfl, ht, k0, k1, A', n', c', k2, hr, hc1, hc2⟩ := (HH.out.2.2.below hbl).at_ hlt
    have i1 : (0 : Int) ≤ (i : Int) := by omega
    have i2 : (i : Int) < (k : Int) := by omega
    have HT := Lib.hid ht
    clear ht
    have HTC := Lib.hid (show Calls Tryz.prog 71 #[.agg #[.int .i64 t.ins, .int .i64 t.outs, .slice A' n' c']] wr fun e w' => CkRes (TabOk t) wr.heap.size e w' ∧ Below wr.heap.size wr w' from refCheckTable_any A' n' c' t wr hr (by omega))
    go_wp2_with fail
    with_reducible refine (HTC.out).mono ?_
    rintro e w2 ⟨⟨A4, k4, c4, x, rfl, hg4, hx⟩, hb2⟩
    have hN2 := hNN.below hb2 hNN.lt
    have hR2 := hRR.below hb2 hRR.lt
    have hbl2 : Below w.heap.size w w2 := Bel.step hbl hb2
    clear n0 n1 n2 k0 k1 k2
    rcases hx with ⟨rfl, hT⟩ | hx
    · have HT2 := Lib.hid hT
      clear hT
      go_wp2_with fail
      go_roundw
      case rel =>
       refine ⟨i + 1, by omega, by go_num, Bel.alloc hbl2, hN2.alloc _, hR2.alloc _, fun j y hj hy => ?_⟩
       by_cases e : j = i
       · subst e
         rw [HT.out] at hy
         cases hy
         exact HT2.out
       · exact HA.out j y (by omega) hy
      case measure => simp [intOf]; omega
    · go_wp2_with fail
      (refine calls_named ?_; intro w5 hw5)
      have hB5 : Blk w5 (w.heap.size + 1) 42 #[.slice none 0 0, .int .i64 0] := by rw [hw5]; exact bLNt
      have hb5 : Below w.heap.size w w5 := by rw [hw5]; exact bELt
      have hg5 : Wg wr.heap.size w5 A4 k4 c4 := by rw [hw5]; exact hg4.alloc _
      clear hw5
      with_reducible refine (refWithin_any _ _ _ _ _ _ _ _ hx hg5).mono ?_
      rintro e w6 ⟨⟨A6, n6, m6, rfl⟩, hb6⟩
      have hB6 := Blk.below hB5 hb6 hB5.lt
      obtain ⟨c0, c1, f0, f1⟩ := hB6.two
      have hb6' : Below w.heap.size w w6 := Bel.step hb5 hb6
      go_wp2_with fail
      refine bodyPost_ret (v := .agg #[.slice A6 n6 m6, .int .i64 x]) (by simp [results, Tryz.results50, go_sem, c0, c1]) rfl ?_
      exact ⟨CkRes0.no hx, bELt⟩
  · obtain rfl : i = k := by omega
    have HTA := Lib.hid (show ∀ t ∈ N.ts, TabOk t from fun t ht => by
     obtain ⟨j, hj⟩ := List.getElem?_of_mem ht
     exact HA.out j t (by rw [← HLT.out]; exact (List.getElem?_eq_some_iff.1 hj).1) hj)
    clear HA
    obtain ⟨w2, hw2⟩ : ∃ w2, w2 = wr := ⟨_, rfl⟩
    subst hw2
    go_wp2_with fail
    clear n0 n1 n2 zN zR hlt hi
    go_loopw [5] (fun q W => ∃ j : Nat, j ≤ n ∧ q = .int .i64 j ∧ Below w.heap.size w W ∧ Blk W w.heap.size 26 #[.slice A n c, .slice B m d, .slice C i e] ∧ Blk W (w.heap.size + 1) 42 #[.slice none 0 0, .int .i64 0] ∧ ∀ r v, r < j → N.vs[r]? = some v → VertOk i v) (fun q _ => n - (intOf q).toNat)
    case atStart => exact ⟨0, Nat.zero_le _, rfl, hbl, hNN, hRR, fun _ _ h => absurd h (Nat.not_lt_zero _)⟩
    case round =>
     clear hbl hNN hRR
     obtain ⟨j, hj, rfl, hbl, hNN, hRR, hall⟩ := hrel
     have HA := Lib.hid hall
     clear hall
     obtain ⟨n0, n1, n2⟩ := hNN.three
     have zN := hNN.lt
     have zR := hRR.lt
     by_cases hlt : j < n
     · obtain ⟨b, o, x, y, z, rfl, hx, cx, cy, cz⟩ := (HH.out.1.below hbl).at_ hlt
       have i1 : (0 : Int) ≤ (j : Int) := by omega
       have i2 : (j : Int) < (n : Int) := by omega
       have HX := Lib.hid hx
       clear hx
       have HF1 := Lib.hid (show ∀ V, Calls Tryz.prog 73 #[.int .i64 x] V fun e w' => e = .returned (.bool (coordB x)) ∧ V = w' from fun V => coord_any x V)
       have HF2 := Lib.hid (show ∀ V, Calls Tryz.prog 73 #[.int .i64 y] V fun e w' => e = .returned (.bool (coordB y)) ∧ V = w' from fun V => coord_any y V)
       cases e1 : coordB x
       · rw [e1] at HF1
         go_wp2_with fail
         with_reducible refine (HF1.out _).mono ?_
         rintro e w' ⟨rfl, rfl⟩
         go_wp2_with fail
         (refine calls_named ?_; intro w5 hw5)
         have hB5 : Blk w5 (w.heap.size + 1) 42 #[.slice none 0 0, .int .i64 0] := by rw [hw5]; exact bLNt
         have hb5 : Below w.heap.size w w5 := by rw [hw5]; exact bELt
         clear hw5
         with_reducible refine (refAt0_any _ _ _ _).mono ?_
         rintro e w2 ⟨⟨A4, n4, m4, rfl, hg4⟩, hb⟩
         have hB2 := Blk.below hB5 hb hB5.lt
         obtain ⟨c0, c1, f0, f1⟩ := hB2.two
         have hb2 : Below w.heap.size w w2 := Bel.step hb5 hb
         go_wp2_with fail
         refine bodyPost_ret (v := .agg #[.slice A4 n4 m4, .int .i64 1]) (by simp [results, Tryz.results50, go_sem, c0, c1]) rfl ?_
         first | exact ⟨CkRes0.no (by decide), bELt⟩ | exact ⟨CkRes.no (Wg.mono (B := w5.heap.size) (Wg.setCell (Wg.setCell hg4 hB5.lt _) hB5.lt _) hb5.size) (by decide), bELt⟩
       cases e2 : coordB y
       · rw [e1] at HF1
         rw [e2] at HF2
         have HE := Lib.hid e1
         clear e1
         go_wp2_with fail
         with_reducible refine (HF1.out _).mono ?_
         rintro e w' ⟨rfl, rfl⟩
         go_wp2_with fail
         with_reducible refine (HF2.out _).mono ?_
         rintro e w' ⟨rfl, rfl⟩
         go_wp2_with fail
         (refine calls_named ?_; intro w5 hw5)
         have hB5 : Blk w5 (w.heap.size + 1) 42 #[.slice none 0 0, .int .i64 0] := by rw [hw5]; exact bLNt
         have hb5 : Below w.heap.size w w5 := by rw [hw5]; exact bELt
         clear hw5
         with_reducible refine (refAt0_any _ _ _ _).mono ?_
         rintro e w2 ⟨⟨A4, n4, m4, rfl, hg4⟩, hb⟩
         have hB2 := Blk.below hB5 hb hB5.lt
         obtain ⟨c0, c1, f0, f1⟩ := hB2.two
         have hb2 : Below w.heap.size w w2 := Bel.step hb5 hb
         go_wp2_with fail
         refine bodyPost_ret (v := .agg #[.slice A4 n4 m4, .int .i64 1]) (by simp [results, Tryz.results50, go_sem, c0, c1]) rfl ?_
         first | exact ⟨CkRes0.no (by decide), bELt⟩ | exact ⟨CkRes.no (Wg.mono (B := w5.heap.size) (Wg.setCell (Wg.setCell hg4 hB5.lt _) hB5.lt _) hb5.size) (by decide), bELt⟩
       rw [e1] at HF1
       rw [e2] at HF2
       have HE1 := Lib.hid e1
       have HE2 := Lib.hid e2
       clear e1 e2
       go_wp2_with fail
       with_reducible refine (HF1.out _).mono ?_
       rintro e w' ⟨rfl, rfl⟩
       go_wp2_with fail
       with_reducible refine (HF2.out _).mono ?_
       rintro e w' ⟨rfl, rfl⟩
       by_cases z0 : z < 0
       ·
        go_wp2_with fail
        (refine calls_named ?_; intro w5 hw5)
        have hB5 : Blk w5 (w.heap.size + 1) 42 #[.slice none 0 0, .int .i64 0] := by rw [hw5]; exact bLNt
        have hb5 : Below w.heap.size w w5 := by rw [hw5]; exact bELt
        clear hw5
        with_reducible refine (refAt0_any _ _ _ _).mono ?_
        rintro e w2 ⟨⟨A4, n4, m4, rfl, hg4⟩, hb⟩
        have hB2 := Blk.below hB5 hb hB5.lt
        obtain ⟨c0, c1, f0, f1⟩ := hB2.two
        have hb2 : Below w.heap.size w w2 := Bel.step hb5 hb
        go_wp2_with fail
        refine bodyPost_ret (v := .agg #[.slice A4 n4 m4, .int .i64 5]) (by simp [results, Tryz.results50, go_sem, c0, c1]) rfl ?_
        first | exact ⟨CkRes0.no (by decide), bELt⟩ | exact ⟨CkRes.no (Wg.mono (B := w5.heap.size) (Wg.setCell (Wg.setCell hg4 hB5.lt _) hB5.lt _) hb5.size) (by decide), bELt⟩
       by_cases z1 : z ≥ (i : Int)
       ·
        go_wp2_with fail
        (refine calls_named ?_; intro w5 hw5)
        have hB5 : Blk w5 (w.heap.size + 1) 42 #[.slice none 0 0, .int .i64 0] := by rw [hw5]; exact bLNt
        have hb5 : Below w.heap.size w w5 := by rw [hw5]; exact bELt
        clear hw5
        with_reducible refine (refAt0_any _ _ _ _).mono ?_
        rintro e w2 ⟨⟨A4, n4, m4, rfl, hg4⟩, hb⟩
        have hB2 := Blk.below hB5 hb hB5.lt
        obtain ⟨c0, c1, f0, f1⟩ := hB2.two
        have hb2 : Below w.heap.size w w2 := Bel.step hb5 hb
        go_wp2_with fail
        refine bodyPost_ret (v := .agg #[.slice A4 n4 m4, .int .i64 5]) (by simp [results, Tryz.results50, go_sem, c0, c1]) rfl ?_
        first | exact ⟨CkRes0.no (by decide), bELt⟩ | exact ⟨CkRes.no (Wg.mono (B := w5.heap.size) (Wg.setCell (Wg.setCell hg4 hB5.lt _) hB5.lt _) hb5.size) (by decide), bELt⟩
       go_wp2_with fail
       go_roundw
       case rel =>
        refine ⟨j + 1, by omega, by go_num, Bel.alloc hbl, hNN.alloc _, hRR.alloc _, fun r v hr hv => ?_⟩
        by_cases e : r = j
        · subst e
          rw [HX.out] at hv
          cases hv
          exact ⟨HE1.out, HE2.out, by simp only; omega, by simp only; omega⟩
        · exact HA.out r v (by omega) hv
       case measure => simp [intOf]; omega
     · obtain rfl : j = n := by omega
       have HVA := Lib.hid (show ∀ v ∈ N.vs, VertOk i v from fun v hv => by
        obtain ⟨r, hr⟩ := List.getElem?_of_mem hv
        exact HA.out r v (by rw [← HLV.out]; exact (List.getElem?_eq_some_iff.1 hr).1) hr)
       clear HA
       obtain ⟨w3, hw3⟩ : ∃ w3, w3 = wr := ⟨_, rfl⟩
       subst hw3
       have hmk := run_makeI j (by omega)
       go_wp2_with fail
       (refine wp_named ?_; intro w4 hw4)
       have hb4 : Below w.heap.size w w4 := by rw [hw4]; exact bELt
       have hN4 : Blk w4 w.heap.size 26 #[.slice A j c, .slice B m d, .slice C i e] := by rw [hw4]; exact bLKt
       have hR4 : Blk w4 (w.heap.size + 1) 42 #[.slice none 0 0, .int .i64 0] := by rw [hw4]; exact bLKt
       have hI4 : Blk w4 w3.heap.size 3 (zeros (.int .i64 0) j) := by rw [hw4]; exact bLNt
       have hO4 : Blk w4 (w3.heap.size + 1) 3 (zeros (.int .i64 0) j) := by rw [hw4]; exact bLNt
       obtain ⟨g, hg⟩ : ∃ g, g = w3.heap.size := ⟨_, rfl⟩
       rw [← hg] at hI4 hO4 zR
       rw [← hg]
       clear hw4 hmk n0 n1 n2 zN hbl hNN hRR hj hlt hg
       go_loopw [9] (fun q W => ∃ r : Nat, r ≤ m ∧ q = .int .i64 r ∧ Below w.heap.size w W ∧ Blk W w.heap.size 26 #[.slice A j c, .slice B m d, .slice C i e] ∧ Blk W (w.heap.size + 1) 42 #[.slice none 0 0, .int .i64 0] ∧ Blk W g 3 (ints (cnts (·.2.1) (N.ar.take r) j)) ∧ Blk W (g + 1) 3 (ints (cnts (·.1) (N.ar.take r) j)) ∧ ∀ p a, p < r → N.ar[p]? = some a → ArcOk j a) (fun q _ => m - (intOf q).toNat)
       case atStart => exact ⟨0, Nat.zero_le _, rfl, hb4, hN4, hR4, by rw [List.take_zero, cnts_zero]; exact hI4, by rw [List.take_zero, cnts_zero]; exact hO4, fun _ _ h => absurd h (Nat.not_lt_zero _)⟩
       case round =>
        clear hb4 hN4 hR4 hI4 hO4
        obtain ⟨r, hr, rfl, hbl, hNN, hRR, hI, hO, hall⟩ := hrel
        have HA := Lib.hid hall
        clear hall
        obtain ⟨n0, n1, n2⟩ := hNN.three
        have zN := hNN.lt
        have zI := hI.lt
        have zO := hO.lt
        by_cases hlt : r < m
        · obtain ⟨b, o, x, y, z, rfl, hx, cx, cy, cz⟩ := (HH.out.2.1.below hbl).at_ hlt
          have i1 : (0 : Int) ≤ (r : Int) := by omega
          have i2 : (r : Int) < (m : Int) := by omega
          have HX := Lib.hid hx
          clear hx
          by_cases x0 : x < 0
          ·
           go_wp2_with fail
           (refine calls_named ?_; intro w5 hw5)
           have hB5 : Blk w5 (w.heap.size + 1) 42 #[.slice none 0 0, .int .i64 0] := by rw [hw5]; exact bLNt
           have hb5 : Below w.heap.size w w5 := by rw [hw5]; exact bELt
           clear hw5
           with_reducible refine (refAt0_any _ _ _ _).mono ?_
           rintro e w2 ⟨⟨A4, n4, m4, rfl, hg4⟩, hb⟩
           have hB2 := Blk.below hB5 hb hB5.lt
           obtain ⟨c0, c1, f0, f1⟩ := hB2.two
           have hb2 : Below w.heap.size w w2 := Bel.step hb5 hb
           go_wp2_with fail
           refine bodyPost_ret (v := .agg #[.slice A4 n4 m4, .int .i64 5]) (by simp [results, Tryz.results50, go_sem, c0, c1]) rfl ?_
           first | exact ⟨CkRes0.no (by decide), bELt⟩ | exact ⟨CkRes.no (Wg.mono (B := w5.heap.size) (Wg.setCell (Wg.setCell hg4 hB5.lt _) hB5.lt _) hb5.size) (by decide), bELt⟩
          by_cases x1 : x ≥ (j : Int)
          ·
           go_wp2_with fail
           (refine calls_named ?_; intro w5 hw5)
           have hB5 : Blk w5 (w.heap.size + 1) 42 #[.slice none 0 0, .int .i64 0] := by rw [hw5]; exact bLNt
           have hb5 : Below w.heap.size w w5 := by rw [hw5]; exact bELt
           clear hw5
           with_reducible refine (refAt0_any _ _ _ _).mono ?_
           rintro e w2 ⟨⟨A4, n4, m4, rfl, hg4⟩, hb⟩
           have hB2 := Blk.below hB5 hb hB5.lt
           obtain ⟨c0, c1, f0, f1⟩ := hB2.two
           have hb2 : Below w.heap.size w w2 := Bel.step hb5 hb
           go_wp2_with fail
           refine bodyPost_ret (v := .agg #[.slice A4 n4 m4, .int .i64 5]) (by simp [results, Tryz.results50, go_sem, c0, c1]) rfl ?_
           first | exact ⟨CkRes0.no (by decide), bELt⟩ | exact ⟨CkRes.no (Wg.mono (B := w5.heap.size) (Wg.setCell (Wg.setCell hg4 hB5.lt _) hB5.lt _) hb5.size) (by decide), bELt⟩
          by_cases y0 : y < 0
          ·
           go_wp2_with fail
           (refine calls_named ?_; intro w5 hw5)
           have hB5 : Blk w5 (w.heap.size + 1) 42 #[.slice none 0 0, .int .i64 0] := by rw [hw5]; exact bLNt
           have hb5 : Below w.heap.size w w5 := by rw [hw5]; exact bELt
           clear hw5
           with_reducible refine (refAt0_any _ _ _ _).mono ?_
           rintro e w2 ⟨⟨A4, n4, m4, rfl, hg4⟩, hb⟩
           have hB2 := Blk.below hB5 hb hB5.lt
           obtain ⟨c0, c1, f0, f1⟩ := hB2.two
           have hb2 : Below w.heap.size w w2 := Bel.step hb5 hb
           go_wp2_with fail
           refine bodyPost_ret (v := .agg #[.slice A4 n4 m4, .int .i64 5]) (by simp [results, Tryz.results50, go_sem, c0, c1]) rfl ?_
           first | exact ⟨CkRes0.no (by decide), bELt⟩ | exact ⟨CkRes.no (Wg.mono (B := w5.heap.size) (Wg.setCell (Wg.setCell hg4 hB5.lt _) hB5.lt _) hb5.size) (by decide), bELt⟩
          by_cases y1 : y ≥ (j : Int)
          ·
           go_wp2_with fail
           (refine calls_named ?_; intro w5 hw5)
           have hB5 : Blk w5 (w.heap.size + 1) 42 #[.slice none 0 0, .int .i64 0] := by rw [hw5]; exact bLNt
           have hb5 : Below w.heap.size w w5 := by rw [hw5]; exact bELt
           clear hw5
           with_reducible refine (refAt0_any _ _ _ _).mono ?_
           rintro e w2 ⟨⟨A4, n4, m4, rfl, hg4⟩, hb⟩
           have hB2 := Blk.below hB5 hb hB5.lt
           obtain ⟨c0, c1, f0, f1⟩ := hB2.two
           have hb2 : Below w.heap.size w w2 := Bel.step hb5 hb
           go_wp2_with fail
           refine bodyPost_ret (v := .agg #[.slice A4 n4 m4, .int .i64 5]) (by simp [results, Tryz.results50, go_sem, c0, c1]) rfl ?_
           first | exact ⟨CkRes0.no (by decide), bELt⟩ | exact ⟨CkRes.no (Wg.mono (B := w5.heap.size) (Wg.setCell (Wg.setCell hg4 hB5.lt _) hB5.lt _) hb5.size) (by decide), bELt⟩
          have HF1 := Lib.hid (show ∀ V, Calls Tryz.prog 25 #[.int .i64 z] V fun e w' => e = .returned (.bool (wOk z)) ∧ V = w' from fun V => refWeight_any z V)
          cases e1 : wOk z
          · rw [e1] at HF1
            go_wp2_with fail
            with_reducible refine (HF1.out _).mono ?_
            rintro e w' ⟨rfl, rfl⟩
            go_wp2_with fail
            (refine calls_named ?_; intro w5 hw5)
            have hB5 : Blk w5 (w.heap.size + 1) 42 #[.slice none 0 0, .int .i64 0] := by rw [hw5]; exact bLNt
            have hb5 : Below w.heap.size w w5 := by rw [hw5]; exact bELt
            clear hw5
            with_reducible refine (refAt0_any _ _ _ _).mono ?_
            rintro e w2 ⟨⟨A4, n4, m4, rfl, hg4⟩, hb⟩
            have hB2 := Blk.below hB5 hb hB5.lt
            obtain ⟨c0, c1, f0, f1⟩ := hB2.two
            have hb2 : Below w.heap.size w w2 := Bel.step hb5 hb
            go_wp2_with fail
            refine bodyPost_ret (v := .agg #[.slice A4 n4 m4, .int .i64 8]) (by simp [results, Tryz.results50, go_sem, c0, c1]) rfl ?_
            first | exact ⟨CkRes0.no (by decide), bELt⟩ | exact ⟨CkRes.no (Wg.mono (B := w5.heap.size) (Wg.setCell (Wg.setCell hg4 hB5.lt _) hB5.lt _) hb5.size) (by decide), bELt⟩
          rw [e1] at HF1
          have HE1 := Lib.hid e1
          clear e1
          obtain ⟨u, rfl⟩ : ∃ u : Nat, x = u := ⟨x.toNat, by omega⟩
          obtain ⟨v, rfl⟩ : ∃ v : Nat, y = v := ⟨y.toNat, by omega⟩
          have hu : u < j := by omega
          have hvn : v < j := by omega
          have HX1 := Lib.hid (cnts_next (f := (·.2.1)) (n := j) (v := v) HX.out rfl hvn)
          have HX2 := Lib.hid (cnts_next (f := (·.1)) (n := j) (v := u) HX.out rfl hu)
          have c1 := hI.cellI (cnts_get (f := (·.2.1)) (l := N.ar.take r) hvn)
          have c2 := hO.cellI (cnts_get (f := (·.1)) (l := N.ar.take r) hu)
          have d1 := cnts_bd (·.2.1) N.ar r v
          have d2 := cnts_bd (·.1) N.ar r u
          generalize (N.ar.take r).countP (fun a => a.2.1 == (v : Int)) = p at *
          generalize (N.ar.take r).countP (fun a => a.1 == (u : Int)) = q at *
          have f1 := hI.frozen v
          have f2 := hO.frozen u
          obtain ⟨W2, hW2⟩ : ∃ W2, W2 = ((wr.setCell ⟨g + 1, u, none⟩ (.int .i64 ((q : Int) + 1))).setCell ⟨g, v, none⟩ (.int .i64 ((p : Int) + 1))).alloc (.cells #[.int .i64 u, .int .i64 v, .int .i64 z] 115) := ⟨_, rfl⟩
          have HW2 := Lib.hid hW2
          have hb2 : Below w.heap.size w W2 := by rw [hW2]; exact Bel.alloc ((hbl.setCell (by simp only; omega) _).setCell (by simp only; omega) _)
          have HN2 := Lib.hid (show Blk W2 w.heap.size 26 #[.slice A j c, .slice (some ⟨b, o, none⟩) m d, .slice C i e] from by rw [hW2]; exact bLKt)
          have HR2 := Lib.hid (show Blk W2 (w.heap.size + 1) 42 #[.slice none 0 0, .int .i64 0] from by rw [hW2]; exact bLKt)
          have HI2 := Lib.hid (show Blk W2 g 3 (ints (cnts (·.2.1) (N.ar.take (r + 1)) j)) from by
           rw [hW2]; exact (Blk.setI (hI.far_ (by omega) _) HX1.out).alloc _)
          have HO2 := Lib.hid (show Blk W2 (g + 1) 3 (ints (cnts (·.1) (N.ar.take (r + 1)) j)) from by
           rw [hW2]; exact ((hO.setI HX2.out).far_ (by omega) _).alloc _)
          clear hW2 hI hO hNN hRR
          go_wp2_with fail
          with_reducible refine (HF1.out _).mono ?_
          rintro e w' ⟨rfl, rfl⟩
          go_wp2_with fail
          rw [← HW2.out]
          go_roundw
          case rel =>
           refine ⟨r + 1, by omega, by go_num, hb2, HN2.out, HR2.out, HI2.out, HO2.out, fun p' a hp ha => ?_⟩
           by_cases e : p' = r
           · subst e
             rw [HX.out] at ha
             cases ha
             exact ⟨by simp only; omega, by simp only; omega, by simp only; omega, by simp only; omega, HE1.out⟩
           · exact HA.out p' a (by omega) ha
          case measure => simp [intOf]; omega
        · obtain rfl : r = m := by omega
          rw [List.take_of_length_le (by rw [HLA.out]; exact Nat.le_refl _)] at hI hO
          have HAA := Lib.hid (show ∀ a ∈ N.ar, ArcOk j a from fun a ha => by
           obtain ⟨p, hp⟩ := List.getElem?_of_mem ha
           exact HA.out p a (by rw [← HLA.out]; exact (List.getElem?_eq_some_iff.1 hp).1) hp)
          clear HA
          obtain ⟨w6, hw6⟩ : ∃ w6, w6 = wr := ⟨_, rfl⟩
          subst hw6
          go_wp2_with fail
          clear n0 n1 n2 hlt hr
          go_loopw [11] (fun q W => ∃ s : Nat, s ≤ j ∧ q = .int .i64 s ∧ Below w6.heap.size w6 W ∧ ∀ (p : Nat) v t, p < s → N.vs[p]? = some v → N.ts[v.2.2.toNat]? = some t → (cntTo N.ar p : Int) = t.ins ∧ (cntFr N.ar p : Int) = t.outs) (fun q _ => j - (intOf q).toNat)
          case atStart => exact ⟨0, Nat.zero_le _, rfl, Below.refl _ _, fun _ _ _ h => absurd h (Nat.not_lt_zero _)⟩
          case round =>
           obtain ⟨s, hs, rfl, hb2, hall⟩ := hrel
           have HA := Lib.hid hall
           clear hall
           have hNr := hNN.below hb2 zN
           have hRr := hRR.below hb2 hRR.lt
           have hIr := hI.below hb2 zI
           have hOr := hO.below hb2 zO
           have hblr : Below w.heap.size w wr := Bel.step hbl hb2
           obtain ⟨n0, n1, n2⟩ := hNr.three
           have zr := hb2.size
           by_cases hlt2 : s < j
           · obtain ⟨b, o, x, y, z, rfl, hx, cx, cy, cz⟩ := (HH.out.1.below hblr).at_ hlt2
             have hok := HVA.out _ (List.mem_of_getElem? hx)
             have t0 := hok.t0
             have t1 := hok.t1
             simp only at t0 t1
             obtain ⟨u, rfl⟩ : ∃ u : Nat, z = u := ⟨z.toNat, by omega⟩
             have hu : u < i := by omega
             obtain ⟨b', o', t, rfl, htt, k0, k1, A', n', c', k2, _, _, _⟩ := (HH.out.2.2.below hblr).at_ hu
             obtain ⟨ti, to_, tc⟩ := t
             simp only at k0 k1
             have HX := Lib.hid hx
             have HTT := Lib.hid htt
             have c1 := hIr.cellI (cnts_get (f := (·.2.1)) (l := N.ar) hlt2)
             have c2 := hOr.cellI (cnts_get (f := (·.1)) (l := N.ar) hlt2)
             obtain ⟨p, hp⟩ : ∃ p, p = N.ar.countP (fun a => a.2.1 == (s : Int)) := ⟨_, rfl⟩
             obtain ⟨q, hq⟩ : ∃ q, q = N.ar.countP (fun a => a.1 == (s : Int)) := ⟨_, rfl⟩
             rw [← hp] at c1
             rw [← hq] at c2
             have HP := Lib.hid hp
             have HQ := Lib.hid hq
             have HSX := Lib.hid (show ∀ V, Below wr.heap.size wr V → V.cell? ⟨w.heap.size, 0, none⟩ = some (.slice (some ⟨b, o, none⟩) j c) ∧ V.cell? ⟨w.heap.size, 2, none⟩ = some (.slice (some ⟨b', o', none⟩) i e) ∧ V.cell? ⟨b, o + s * 3 + 2, none⟩ = some (.int .i64 u) ∧ V.cell? ⟨b', o' + u * 3, none⟩ = some (.int .i64 ti) ∧ V.cell? ⟨b', o' + u * 3 + 1, none⟩ = some (.int .i64 to_) ∧ V.cell? ⟨b', o' + u * 3 + 2, none⟩ = some (.slice A' n' c') from fun V hV =>
              ⟨Below.cellOf hV (Nat.le_refl _) n0, Below.cellOf hV (Nat.le_refl _) n2, Below.cellOf hV (Nat.le_refl _) cz, Below.cellOf hV (Nat.le_refl _) k0, Below.cellOf hV (Nat.le_refl _) k1, Below.cellOf hV (Nat.le_refl _) k2⟩)
             have i1 : (0 : Int) ≤ (s : Int) := by omega
             have i2 : (s : Int) < (j : Int) := by omega
             have i3 : (0 : Int) ≤ (u : Int) := by omega
             have i4 : (u : Int) < (i : Int) := by omega
             clear hx htt hok hp hq cx cy cz k0 k1 k2 n1
             go_wp2_with fail
             refine wp_region_held_drew (S := fun V => Below wr.heap.size wr V) (by kernel_rfl) (Below.refl _ _).drew (fun _ => ?_)
             refine tk 0 160 (h := ⟨_, tv, ?_⟩)
             simp only [pE, List.set]
             refine tk 1 161 (h := ⟨_, tv, ?_⟩)
             simp only [pE, List.set]
             refine tk 2 162 (h := ⟨_, tv, ?_⟩)
             simp only [pE, List.set]
             refine tk 3 163 (h := ⟨_, tv, ?_⟩)
             simp only [pE, List.set]
             refine tk 4 164 (h := ⟨_, tv, ?_⟩)
             simp only [pE, List.set]
             refine tk 5 165 (h := ⟨_, tv, ?_⟩)
             simp only [pE, List.set]
             refine tk 6 166 (h := ⟨_, tv, ?_⟩)
             simp only [pE, List.set]
             refine tk 7 167 (h := ⟨_, tv, ?_⟩)
             simp only [pE, List.set]
             refine tk 8 168 (h := ⟨_, tv, ?_⟩)
             simp only [pE, List.set]
             refine tk 9 169 (h := ⟨_, tv, ?_⟩)
             simp only [pE, List.set]
             refine wpAnyH_ready (rs := [10]) (by kernel_rfl) (by simp) ?_
             refine AllReadyH.cons (o := _) rfl (fun K hK => ?_) AllReadyH.nil
             go_simp
             refine hK.out _ _ (by repeat (first | exact Below.refl _ _ | apply Below.drew | apply Bel.alloc)) (fun _ => ?_)
             clear hK K
             refine wpAnyH_ready (rs := [11]) (by kernel_rfl) (by simp) ?_
             refine AllReadyH.cons (o := _) rfl (fun K hK => ?_) AllReadyH.nil
             go_simp
             obtain ⟨w7, hw7⟩ : ∃ w7, w7 = (wr.alloc (.cells #[.int .i64 ti, .int .i64 to_, .slice A' n' c'] 61)).drew := ⟨_, rfl⟩
             rw [← hw7]
             have hb7 : Below wr.heap.size wr w7 := by rw [hw7]; exact ((Below.refl _ _).alloc (Nat.le_refl _) _).drew
             have hT7 : Blk w7 wr.heap.size 61 #[.int .i64 ti, .int .i64 to_, .slice A' n' c'] := by rw [hw7]; exact bLNt
             refine hK.out _ _ hb7 (fun _ => ?_)
             clear hK K hw7
             refine wpAnyH_done (by kernel_rfl) ?_ _
             have hR7 := hRr.below hb7 hRr.lt
             have hbl7 : Below w.heap.size w w7 := Bel.step hblr hb7
             have c1' := Below.cellOf hb7 (Nat.le_refl _) c1
             have c2' := Below.cellOf hb7 (Nat.le_refl _) c2
             obtain ⟨e0, e1, _⟩ := hT7.three
             clear c1 c2 n0 n2
             by_cases p16 : (p : Int) > 16
             ·
              go_wp2_with fail
              (refine calls_named ?_; intro w5 hw5)
              have hB5 : Blk w5 (w.heap.size + 1) 42 #[.slice none 0 0, .int .i64 0] := by rw [hw5]; exact bLNt
              have hb5 : Below w.heap.size w w5 := by rw [hw5]; exact bELt
              clear hw5
              with_reducible refine (refAt0_any _ _ _ _).mono ?_
              rintro e w2 ⟨⟨A4, n4, m4, rfl, hg4⟩, hb⟩
              have hB2 := Blk.below hB5 hb hB5.lt
              obtain ⟨c0, c1, f0, f1⟩ := hB2.two
              have hb2 : Below w.heap.size w w2 := Bel.step hb5 hb
              go_wp2_with fail
              refine bodyPost_ret (v := .agg #[.slice A4 n4 m4, .int .i64 4]) (by simp [results, Tryz.results50, go_sem, c0, c1]) rfl ?_
              first | exact ⟨CkRes0.no (by decide), bELt⟩ | exact ⟨CkRes.no (Wg.mono (B := w5.heap.size) (Wg.setCell (Wg.setCell hg4 hB5.lt _) hB5.lt _) hb5.size) (by decide), bELt⟩
             by_cases q16 : (q : Int) > 16
             ·
              go_wp2_with fail
              (refine calls_named ?_; intro w5 hw5)
              have hB5 : Blk w5 (w.heap.size + 1) 42 #[.slice none 0 0, .int .i64 0] := by rw [hw5]; exact bLNt
              have hb5 : Below w.heap.size w w5 := by rw [hw5]; exact bELt
              clear hw5
              with_reducible refine (refAt0_any _ _ _ _).mono ?_
              rintro e w2 ⟨⟨A4, n4, m4, rfl, hg4⟩, hb⟩
              have hB2 := Blk.below hB5 hb hB5.lt
              obtain ⟨c0, c1, f0, f1⟩ := hB2.two
              have hb2 : Below w.heap.size w w2 := Bel.step hb5 hb
              go_wp2_with fail
              refine bodyPost_ret (v := .agg #[.slice A4 n4 m4, .int .i64 4]) (by simp [results, Tryz.results50, go_sem, c0, c1]) rfl ?_
              first | exact ⟨CkRes0.no (by decide), bELt⟩ | exact ⟨CkRes.no (Wg.mono (B := w5.heap.size) (Wg.setCell (Wg.setCell hg4 hB5.lt _) hB5.lt _) hb5.size) (by decide), bELt⟩
             by_cases m1 : (p : Int) = ti
             rotate_left
             · have d1 : ((p : Int) != ti) = true := by simpa using m1
               have d2 : ((p : Int) == ti) = false := by simpa using m1
               clear m1
               go_wp2_with fail
               go_quiet (fail)
               go_wp2_with fail
               (refine calls_named ?_; intro w5 hw5)
               have hB5 : Blk w5 (w.heap.size + 1) 42 #[.slice none 0 0, .int .i64 0] := by rw [hw5]; exact bLNt
               have hb5 : Below w.heap.size w w5 := by rw [hw5]; exact bELt
               clear hw5
               with_reducible refine (refAt0_any _ _ _ _).mono ?_
               rintro e w2 ⟨⟨A4, n4, m4, rfl, hg4⟩, hb⟩
               have hB2 := Blk.below hB5 hb hB5.lt
               obtain ⟨c0, c1, f0, f1⟩ := hB2.two
               have hb2 : Below w.heap.size w w2 := Bel.step hb5 hb
               go_wp2_with fail
               refine bodyPost_ret (v := .agg #[.slice A4 n4 m4, .int .i64 9]) (by simp [results, Tryz.results50, go_sem, c0, c1]) rfl ?_
               first | exact ⟨CkRes0.no (by decide), bELt⟩ | exact ⟨CkRes.no (Wg.mono (B := w5.heap.size) (Wg.setCell (Wg.setCell hg4 hB5.lt _) hB5.lt _) hb5.size) (by decide), bELt⟩
             subst m1
             have d1 : (((p : Nat) : Int) != ((p : Nat) : Int)) = false := by simp
             by_cases m2 : (q : Int) = to_
             rotate_left
             · have d3 : ((q : Int) != to_) = true := by simpa using m2
               have d4 : ((q : Int) == to_) = false := by simpa using m2
               clear m2
               go_wp2_with fail
               go_quiet (fail)
               go_wp2_with fail
               (refine calls_named ?_; intro w5 hw5)
               have hB5 : Blk w5 (w.heap.size + 1) 42 #[.slice none 0 0, .int .i64 0] := by rw [hw5]; exact bLNt
               have hb5 : Below w.heap.size w w5 := by rw [hw5]; exact bELt
               clear hw5
               with_reducible refine (refAt0_any _ _ _ _).mono ?_
               rintro e w2 ⟨⟨A4, n4, m4, rfl, hg4⟩, hb⟩
               have hB2 := Blk.below hB5 hb hB5.lt
               obtain ⟨c0, c1, f0, f1⟩ := hB2.two
               have hb2 : Below w.heap.size w w2 := Bel.step hb5 hb
               go_wp2_with fail
               refine bodyPost_ret (v := .agg #[.slice A4 n4 m4, .int .i64 9]) (by simp [results, Tryz.results50, go_sem, c0, c1]) rfl ?_
               first | exact ⟨CkRes0.no (by decide), bELt⟩ | exact ⟨CkRes.no (Wg.mono (B := w5.heap.size) (Wg.setCell (Wg.setCell hg4 hB5.lt _) hB5.lt _) hb5.size) (by decide), bELt⟩
             subst m2
             have d2 : (((q : Nat) : Int) != ((q : Nat) : Int)) = false := by simp
             go_wp2_with fail
             go_quiet (fail)
             go_wp2_with fail
             go_roundw
             case rel =>
              refine ⟨s + 1, by omega, by go_num, below_drewN (Bel.step hb2 hb7) _, fun p' v' t' hp' hv' ht' => ?_⟩
              by_cases e : p' = s
              · subst e
                rw [HX.out] at hv'
                cases hv'
                simp only [Int.toNat_natCast] at ht'
                rw [HTT.out] at ht'
                cases ht'
                exact ⟨by rw [HP.out]; rfl, by rw [HQ.out]; rfl⟩
              · exact HA.out p' v' t' (by omega) hv' ht'
             case measure => simp [intOf]; omega
           · obtain rfl : s = j := by omega
             obtain ⟨c0, c1, f0, f1⟩ := hRr.two
             go_wp2_with fail
             refine bodyPost_ret (v := .agg #[.slice none 0 0, .int .i64 0]) (by simp [results, Tryz.results50, go_sem, c0, c1]) rfl ?_
             refine ⟨⟨_, _, _, _, rfl, .inl ⟨rfl, ⟨by rw [HLV.out]; omega, by rw [HLA.out]; omega, by rw [HLT.out]; omega, HTA.out, by rw [HLT.out]; exact HVA.out, by rw [HLV.out]; exact HAA.out, fun p v t hv ht => ?_⟩⟩⟩, bELt⟩
             exact HA.out p v t (by rw [← HLV.out]; exact (List.getElem?_eq_some_iff.1 hv).1) hv ht
end Go.Proofs.YtpffhoefmcpniaaGreatDoor
