/- OverDown: the walk. -/
import Derived.Test.YtgkeolddpielpaaGreatDn
import Derived.Test.YtgkeolddpielpaaGreatKn
import Derived.Test.YtgkeolddpielpaaGreatPe
namespace Go.Proofs.YtgkeolddpielpaaGreat
open Go.RowKit

attribute [local go_sem ↓] Go.wp_at_zero Go.wp_at_succ

theorem plI_at {l : List Int} {v : Int} (h : v ∈ l) : ∃ p : Nat, plI l v = (p : Int) ∧ l[p]? = some v := plI_mem h

set_option maxRecDepth 20000 in
set_option maxHeartbeats 2000000 in
theorem overDown_walk (A B C Q : Option Addr) (n m k c d e L cq : Nat) (N : NetD) (ls : List (List Int)) (w : World) (h : RdNet w A B C n m k N) (hk : k ≤ 9223372036854775807) (hq : RdT w Q L ls) (hL : L ≤ 9223372036854775807) :
    Calls Tryz.prog 3 #[.agg #[.slice A n c, .slice B m d, .slice C k e], .agg #[.slice Q L cq]] w fun r w' => r = .returned (.bool true) ∧ Below w.heap.size w w' := by
  have HH := Lib.hid h
  have HT := Lib.hid hq
  clear h hq
  go_enter Tryz.func3, Tryz.ntmps3
  go_wp2_with fail
  (refine calls_named ?_; intro w1 hw1)
  have hb1 : Below w.heap.size w w1 := by rw [hw1]; exact (by repeat (first | exact Below.refl _ _ | assumption | apply Below.drew | apply below_drewN | apply Bel.alloc | (refine Bel.setCell_ ?_ ?_; rotate_left; omega) | (refine Bel.step ?_ (by assumption))))
  have hX : Blk w1 w.heap.size 26 #[.slice A n c, .slice B m d, .slice C k e] := by
    rw [hw1]
    refine Blk.alloc ?_ _
    refine Blk.new' _ _ _ ?_
    rfl
  have hY : Blk w1 (w.heap.size + 1) 29 #[.slice Q L cq] := by
    rw [hw1]
    refine Blk.new' _ _ _ ?_
    simp
  clear hw1
  with_reducible refine (known17_ok w1).mono ?_
  rintro r w2 ⟨rfl, hb2⟩
  have hX2 := hX.below hb2 hX.lt
  have hY2 := hY.below hb2 hY.lt
  have hb2' := Bel.step hb1 hb2
  clear hX hY hb1 hb2
  have x0 := hX2.cell 0
  have x1 := hX2.cell 1
  have x2 := hX2.cell 2
  have y0 := hY2.cell 0
  simp only [List.getElem?_toArray, List.getElem?_cons_zero, List.getElem?_cons_succ] at x0 x1 x2 y0
  go_wp2_with fail
  with_reducible refine (may15_any A B C Q n m k c d e L cq N ls w2 (HH.out.below hb2') hk (HT.out.below hb2') hL).mono ?_
  rintro r w3 ⟨hr, hb3⟩
  have hb3' := Bel.step hb2' hb3
  have hX3 := hX2.below hb3 hX2.lt
  have hY3 := hY2.below hb3 hY2.lt
  clear x0 x1 x2 y0 hX2 hY2 hb2' hb3
  obtain ⟨b, rfl, hG⟩ := hr
  cases b with
  | false =>
    clear hG
    go_wp2_with fail
    go_ret
    exact ⟨rfl, hb3'⟩
  | true =>
  have hmay := hG rfl
  clear hG
  have HMAY := Lib.hid hmay
  have l6 : L ≤ 6 := by rw [← HT.out.1]; exact hmay.part.l6
  clear hmay
  have x0 := hX3.cell 0
  have x1 := hX3.cell 1
  have x2 := hX3.cell 2
  have y0 := hY3.cell 0
  simp only [List.getElem?_toArray, List.getElem?_cons_zero, List.getElem?_cons_succ] at x0 x1 x2 y0
  have HM := Lib.hid (made17_ok A B C Q n m k c d e L cq N ls w3 (HH.out.below hb3') HMAY.out.small.ok (HT.out.below hb3') HMAY.out.part)
  go_wp2_with fail
  with_reducible refine HM.out.mono ?_
  rintro r w4 ⟨o, rfl, hO, hb4⟩
  have HO := Lib.hid (hO.le (msk_le _ _))
  have hb4' := Bel.step hb3' hb4
  clear hO hb4 hb3' x0 x1 x2 y0 hX3 hY3 HM HH
  have HLS := Lib.hid (show ls.length = L from HT.out.1)
  clear HT
  have HVL := Lib.hid (show N.vs.length ≤ 24 from HMAY.out.small.v)
  obtain ⟨nv, hnv⟩ : ∃ nv, nv = N.vs.length := ⟨_, rfl⟩
  rw [← hnv] at HVL
  have HNV := Lib.hid hnv
  clear hnv
  have HLV := Lib.hid (show ∀ V, Below w4.heap.size w4 V → Calls Tryz.prog 10 #[.pointer (some ⟨o, 0, none⟩)] V fun e w' => e = .returned (.int .i64 (L : Int)) ∧ V = w' from fun V hV => by
    have := oLevels_any o N.ar ls V (HO.out.below hV)
    rw [HLS.out] at this
    exact this)
  have HPT := Lib.hid (show PartOk nv ls by rw [HNV.out]; exact HMAY.out.part)
  have HAR := Lib.hid (show ∀ t ∈ N.ar, ArcOk nv t by rw [HNV.out]; exact fun t ht => HMAY.out.small.ok.arcs t ht)
  have l1 : 1 ≤ L := by rw [← HLS.out]; exact HMAY.out.part.l1
  go_wp2_with fail
  go_loopw [6] (fun q W => Below w4.heap.size w4 W ∧ ∃ j : Nat, j + 1 ≤ L ∧ q = .int .i64 ((j : Int) + 1 + 1)) (fun q _ => L + 2 - (intOf q).toNat)
  case atStart => exact ⟨Below.refl _ _, 0, by omega, rfl⟩
  case round =>
    obtain ⟨hbl1, j, hj, rfl⟩ := hrel
    by_cases hjl : j + 1 < L
    rotate_left
    · have i1 : ¬ ((j : Int) + 1 + 1 ≤ (L : Int)) := by omega
      go_wp2_with fail
      with_reducible refine (HLV.out _ hbl1).mono ?_
      rintro e w' ⟨rfl, rfl⟩
      go_wp2_with fail
      go_ret
      exact ⟨rfl, Bel.step hb4' hbl1⟩
    have i1 : (j : Int) + 1 + 1 ≤ (L : Int) := by omega
    have i2 : (j : Int) + 1 + 1 - 1 = (j : Int) + 1 := by omega
    obtain ⟨l, hl⟩ : ∃ l, ls[j + 1]? = some l := ⟨_, List.getElem?_eq_getElem (by rw [HLS.out]; omega)⟩
    obtain ⟨lb, hlb⟩ : ∃ lb, ls[j]? = some lb := ⟨_, List.getElem?_eq_getElem (by rw [HLS.out]; omega)⟩
    have HLJ1 := Lib.hid hl
    have HLJ := Lib.hid hlb
    have HLL := Lib.hid (show l.length = nv by rw [HNV.out]; exact (HMAY.out.part.lvl l (List.mem_of_getElem? hl)).len)
    have HLB := Lib.hid (show lb.length = nv by rw [HNV.out]; exact (HMAY.out.part.lvl lb (List.mem_of_getElem? hlb)).len)
    obtain ⟨M, hM⟩ : ∃ M, M = (mostN l).toNat := ⟨_, rfl⟩
    have HMM := Lib.hid hM
    have hMB : M ≤ 24 := by
      have h1 := HPT.out.lvl l (List.mem_of_getElem? hl)
      have h2 := mostN_le (l := l) (n := (nv : Int)) (fun x hx => h1.hi x hx) (by omega)
      have h3 := HVL.out
      omega
    have HCL := Lib.hid (show ∀ V, Below w4.heap.size w4 V → Calls Tryz.prog 11 #[.pointer (some ⟨o, 0, none⟩), .int .i64 ((j : Int) + 1 + 1)] V fun e w' => e = .returned (.int .i64 (M : Int)) ∧ V = w' from fun V hV => by
      have := oCells_ok o (j + 1) M N.ar ls l V (HO.out.below hV) hl (by rw [HLS.out]; omega) hM.symm
      simpa using this)
    clear hl hlb hM
    go_wp2_with fail
    with_reducible refine (HLV.out _ hbl1).mono ?_
    rintro e w' ⟨rfl, rfl⟩
    go_wp2_with fail
    go_loopw [7] (fun q W => Below w4.heap.size w4 W ∧ ∃ c : Nat, c ≤ M ∧ q = .int .i64 c) (fun q _ => M - (intOf q).toNat)
    case atStart => exact ⟨hbl1, 0, Nat.zero_le _, rfl⟩
    case round =>
      obtain ⟨hbl2, cc, hcc, rfl⟩ := hrel
      by_cases hcM : cc < M
      rotate_left
      · obtain rfl : cc = M := by omega
        go_wp2_with fail
        with_reducible refine (HCL.out _ hbl2).mono ?_
        rintro e w' ⟨rfl, rfl⟩
        go_wp2_with fail
        go_roundw
        case rel => exact ⟨hbl2, j + 1, by omega, by go_num⟩
        case measure => simp [intOf]; omega
      · obtain ⟨x, hx⟩ : ∃ x, (gateRow N.ar l)[cc]? = some x := ⟨_, gateRow_get (by rw [← HMM.out]; exact hcM)⟩
        have HX := Lib.hid hx
        clear hx
        have i3 : (cc : Int) < (M : Int) := by omega
        have HGT := Lib.hid (show Calls Tryz.prog 12 #[.pointer (some ⟨o, 0, none⟩), .int .i64 ((j : Int) + 1 + 1), .int .i64 cc] wr fun e w' => ∃ A1 n1 c1 A2 n2 c2, e = .returned (.agg #[.slice A1 n1 c1, .slice A2 n2 c2]) ∧ RdI w' A1 n1 x.1 ∧ RdI w' A2 n2 x.2 ∧ Below wr.heap.size wr w' by
          have := oGate_ok o (j + 1) cc N.ar ls l x wr (HO.out.below hbl2) HLJ1.out (by rw [HLS.out]; omega) HX.out (by have := HMAY.out.small.a; omega)
          simpa using this)
        have HKD := Lib.hid (fun (V : World) (hV : Below w4.heap.size w4 V) => oKids_ok o j nv (cc : Int) N.ar ls l lb V (HO.out.below hV) HLJ1.out HLJ.out (by rw [HLS.out]; omega) HLL.out HLB.out (by have := HVL.out; omega) (cell_there (HMAY.out.part.lvl l (List.mem_of_getElem? HLJ1.out)) (by rw [← HMM.out]; exact hcM)))
        go_wp2_with fail
        with_reducible refine (HCL.out _ hbl2).mono ?_
        rintro e w' ⟨rfl, rfl⟩
        go_wp2_with fail
        with_reducible refine HGT.out.mono ?_
        rintro e w5 ⟨A1, n1, c1, A2, n2, c2, rfl, hx1, hx2, hb5⟩
        have hb5' := Bel.step hbl2 hb5
        have hnb1 : n1 ≤ 90 := by rw [← hx1.1]; exact Nat.le_trans (gate_in_le HX.out).1 HMAY.out.small.a
        have hnb2 : n2 ≤ 90 := by rw [← hx2.1]; exact Nat.le_trans (gate_in_le HX.out).2 HMAY.out.small.a
        have HX1 := Lib.hid hx1
        have HX2 := Lib.hid hx2
        clear HGT hx1 hx2 hb5 hbl2
        go_wp2_with fail
        (refine calls_named ?_; intro w6 hw6)
        have hb6 : Below w5.heap.size w5 w6 := by rw [hw6]; exact Bel.alloc (Below.refl _ _)
        have hB6 : Blk w6 w5.heap.size 38 #[.slice A1 n1 c1, .slice A2 n2 c2] := by
          rw [hw6]
          refine Blk.new' _ _ _ ?_
          rfl
        clear hw6
        have hb6' := Bel.step hb5' hb6
        with_reducible refine (HKD.out w6 hb6').mono ?_
        rintro e w7 ⟨K1, ck, rfl, hki, hb7⟩
        have hbw7 := Bel.step hb6' hb7
        have hBw7 := hB6.below hb7 hB6.lt
        have HX1w7 := Lib.hid ((HX1.out.below hb6).below hb7)
        have HX2w7 := Lib.hid ((HX2.out.below hb6).below hb7)
        have HKw7 := Lib.hid hki
        have HKL := Lib.hid (show (kidsOf l lb (cc : Int) nv).length ≤ 24 from Nat.le_trans (kidsOf_len _ _ _ _) HVL.out)
        clear hki hb7 hb6 hb5' hb6' hB6 HKD HX1 HX2
        go_wp2_with fail
        go_loopw [10] (fun q W => Below w7.heap.size w7 W ∧ ∃ i : Nat, i ≤ n1 ∧ q = .int .i64 i) (fun q _ => n1 - (intOf q).toNat)
        case atStart => exact ⟨Below.refl _ _, 0, Nat.zero_le _, rfl⟩
        case round =>
          obtain ⟨hbl, i, hi, rfl⟩ := hrel
          have hBr := hBw7.below hbl hBw7.lt
          have z0 := hBr.cell 0
          have z1 := hBr.cell 1
          simp only [List.getElem?_toArray, List.getElem?_cons_zero, List.getElem?_cons_succ] at z0 z1
          by_cases hlt : i < n1
          · have HXr := Lib.hid (HX1w7.out.below hbl)
            have HKr := Lib.hid (HKw7.out.below hbl)
            have hbo := Bel.step hbw7 hbl
            obtain ⟨b8, o8, zz, rfl, hzz, hzc⟩ := HXr.out.at_ hlt
            obtain ⟨aa, v, q, y, rfl, hv, hq, hy, hay, hkid⟩ := down_in HPT.out HAR.out HLJ1.out HLJ.out HX.out hzz
            obtain ⟨pp, hpp, hyp⟩ := plI_mem hay
            obtain ⟨p0, hp0, _⟩ := plI_mem hkid
            have HD := Lib.hid (show Calls Tryz.prog 14 #[.pointer (some ⟨o, 0, none⟩), .int .i64 ((j : Int) + 1 + 1), .int .i64 cc, .int .i64 i] wr fun e w' => e = .returned (.tuple #[.int .i64 (q : Int), .int .i64 (pp : Int)]) ∧ Below wr.heap.size wr w' by
              have := oDownIn_ok o j cc i aa v q N.ar ls l lb x y wr (HO.out.below hbo) HLJ1.out HLJ.out (by rw [HLS.out]; omega) HX.out hzz hv hq hy (by have := HMAY.out.small.a; omega) (by rw [HLB.out]; have := HVL.out; omega)
              rw [hpp] at this
              exact this)
            have HG2 := Lib.hid (fun (V : World) (hV : Below w4.heap.size w4 V) => oGate_ok o j q N.ar ls lb y V (HO.out.below hV) HLJ.out (by rw [HLS.out]; omega) hy (by have := HMAY.out.small.a; omega))
            have HP0 := Lib.hid hp0
            have HYP := Lib.hid hyp
            have HZZ := Lib.hid hzz
            have i6 : (0 : Int) ≤ (q : Int) := by omega
            have i7 : (0 : Int) ≤ (i : Int) := by omega
            have i8 : (i : Int) < (n1 : Int) := by omega
            clear hv hq hy hay hkid hpp hp0 hyp hzz
            go_wp2_with fail
            with_reducible refine HD.out.mono ?_
            rintro e w8 ⟨rfl, hb8⟩
            have hb8' := Bel.step hbl hb8
            have hbo8 := Bel.step hbo hb8
            clear HD hb8 hbo
            go_wp2_with fail
            with_reducible refine (HG2.out w8 hbo8).mono ?_
            rintro e w9 ⟨B1, m1, d1, B2, m2, d2, rfl, hr1, hr2, hb9⟩
            have HR1 := Lib.hid hr1
            have hb9' := Bel.step hb8' hb9
            clear hr1 hr2 hb8' hb9 hbo8 HG2 hzc HXr HKr hbl hBr z0 z1
            go_wp2_with fail
            (refine wp_named ?_; intro w10 hw10)
            have hb10 : Below w9.heap.size w9 w10 := by rw [hw10]; exact Bel.alloc (Below.refl _ _)
            have hC10 : Blk w10 w9.heap.size 38 #[.slice B1 m1 d1, .slice B2 m2 d2] := by
              rw [hw10]
              refine Blk.new' _ _ _ ?_
              rfl
            clear hw10
            have hb10' := Bel.step hb9' hb10
            have hr := HR1.out.below hb10
            obtain ⟨eb, eo, eA, hec⟩ := hr.2 pp _ HYP.out
            subst eA
            have hpm : pp < m1 := by rw [← hr.1]; exact (List.getElem?_eq_some_iff.1 HYP.out).1
            have hB10 := hBw7.below hb10' hBw7.lt
            have c0 := hC10.cell 0
            have c1' := hC10.cell 1
            have z0 := hB10.cell 0
            have z1 := hB10.cell 1
            simp only [List.getElem?_toArray, List.getElem?_cons_zero, List.getElem?_cons_succ] at c0 c1' z0 z1
            have hX10 := HX1w7.out.below hb10'
            obtain ⟨zb, zo, zx, eZ, hz1, hz2⟩ := hX10.at_ hlt
            cases eZ
            rw [HZZ.out] at hz1
            cases hz1
            have HPL := Lib.hid (show ∀ V, Below w10.heap.size w10 V → Calls Tryz.prog 15 #[.slice K1 (kidsOf l lb (cc : Int) nv).length ck, .int .i64 (q : Int)] V fun e w' => e = .returned (.int .i64 (p0 : Int)) ∧ V = w' from fun V hV => by
              have := place_any K1 (kidsOf l lb (cc : Int) nv).length ck (kidsOf l lb (cc : Int) nv) (q : Int) V ((HKw7.out.below hb10').below hV) (by have := HKL.out; omega)
              rw [HP0.out] at this
              exact this)
            have j1 : ¬ ((p0 : Int) < 0) := by omega
            have j2 : ¬ ((pp : Int) < 0) := by omega
            have j3 : ¬ ((m1 : Int) ≤ (pp : Int)) := by omega
            have j4 : (0 : Int) ≤ (pp : Int) := by omega
            have j5 : (pp : Int) < (m1 : Int) := by omega
            have k1 : decide ((p0 : Int) < 0) = false := decide_eq_false j1
            have k2 : decide ((pp : Int) < 0) = false := decide_eq_false j2
            have k3 : decide ((m1 : Int) ≤ (pp : Int)) = false := decide_eq_false j3
            have HB10 := Lib.hid hb10'
            have HLT := Lib.hid hlt
            clear hr hB10 hC10 hX10 hb9' hb10 hb10' HR1
            go_wp2_with fail
            go_quiet ((go_at_call 15; exact quiet_left (HPL.out _ (by repeat (first | exact Below.refl _ _ | assumption | apply Below.drew | apply below_drewN | apply Bel.alloc | (refine Bel.setCell_ ?_ ?_; rotate_left; omega) | (refine Bel.step ?_ (by assumption)))))))
            go_wp2_with fail
            go_roundw
            case rel => exact ⟨below_drewN HB10.out _, i + 1, by have := HLT.out; omega, by go_num⟩
            case measure => simp [intOf]; have := HLT.out; omega
          · obtain rfl : n1 = i := by omega
            clear hlt
            have hblS := hbl
            go_wp2_with fail
            clear z0 z1 hBr hbl
            go_loopw [14] (fun q W => Below w7.heap.size w7 W ∧ ∃ i : Nat, i ≤ n2 ∧ q = .int .i64 i) (fun q _ => n2 - (intOf q).toNat)
            case atStart => exact ⟨hblS, 0, Nat.zero_le _, rfl⟩
            case round =>
              obtain ⟨hbl, i, hi, rfl⟩ := hrel
              have hBr := hBw7.below hbl hBw7.lt
              have z0 := hBr.cell 0
              have z1 := hBr.cell 1
              simp only [List.getElem?_toArray, List.getElem?_cons_zero, List.getElem?_cons_succ] at z0 z1
              by_cases hlt : i < n2
              · have HXr := Lib.hid (HX2w7.out.below hbl)
                have HKr := Lib.hid (HKw7.out.below hbl)
                have hbo := Bel.step hbw7 hbl
                obtain ⟨b8, o8, zz, rfl, hzz, hzc⟩ := HXr.out.at_ hlt
                obtain ⟨aa, v, q, y, rfl, hv, hq, hy, hay, hkid⟩ := down_out HPT.out HAR.out HLJ1.out HLJ.out HX.out hzz
                obtain ⟨pp, hpp, hyp⟩ := plI_mem hay
                obtain ⟨p0, hp0, _⟩ := plI_mem hkid
                have HD := Lib.hid (show Calls Tryz.prog 16 #[.pointer (some ⟨o, 0, none⟩), .int .i64 ((j : Int) + 1 + 1), .int .i64 cc, .int .i64 i] wr fun e w' => e = .returned (.tuple #[.int .i64 (q : Int), .int .i64 (pp : Int)]) ∧ Below wr.heap.size wr w' by
                  have := oDownOut_ok o j cc i aa v q N.ar ls l lb x y wr (HO.out.below hbo) HLJ1.out HLJ.out (by rw [HLS.out]; omega) HX.out hzz hv hq hy (by have := HMAY.out.small.a; omega) (by rw [HLB.out]; have := HVL.out; omega)
                  rw [hpp] at this
                  exact this)
                have HG2 := Lib.hid (fun (V : World) (hV : Below w4.heap.size w4 V) => oGate_ok o j q N.ar ls lb y V (HO.out.below hV) HLJ.out (by rw [HLS.out]; omega) hy (by have := HMAY.out.small.a; omega))
                have HP0 := Lib.hid hp0
                have HYP := Lib.hid hyp
                have HZZ := Lib.hid hzz
                have i6 : (0 : Int) ≤ (q : Int) := by omega
                have i7 : (0 : Int) ≤ (i : Int) := by omega
                have i8 : (i : Int) < (n2 : Int) := by omega
                clear hv hq hy hay hkid hpp hp0 hyp hzz
                go_wp2_with fail
                with_reducible refine HD.out.mono ?_
                rintro e w8 ⟨rfl, hb8⟩
                have hb8' := Bel.step hbl hb8
                have hbo8 := Bel.step hbo hb8
                clear HD hb8 hbo
                go_wp2_with fail
                with_reducible refine (HG2.out w8 hbo8).mono ?_
                rintro e w9 ⟨B1, m1, d1, B2, m2, d2, rfl, hr1, hr2, hb9⟩
                have HR2 := Lib.hid hr2
                have hb9' := Bel.step hb8' hb9
                clear hr1 hr2 hb8' hb9 hbo8 HG2 hzc HXr HKr hbl hBr z0 z1
                go_wp2_with fail
                (refine wp_named ?_; intro w10 hw10)
                have hb10 : Below w9.heap.size w9 w10 := by rw [hw10]; exact Bel.alloc (Below.refl _ _)
                have hC10 : Blk w10 w9.heap.size 38 #[.slice B1 m1 d1, .slice B2 m2 d2] := by
                  rw [hw10]
                  refine Blk.new' _ _ _ ?_
                  rfl
                clear hw10
                have hb10' := Bel.step hb9' hb10
                have hr := HR2.out.below hb10
                obtain ⟨eb, eo, eA, hec⟩ := hr.2 pp _ HYP.out
                subst eA
                have hpm : pp < m2 := by rw [← hr.1]; exact (List.getElem?_eq_some_iff.1 HYP.out).1
                have hB10 := hBw7.below hb10' hBw7.lt
                have c0 := hC10.cell 0
                have c1' := hC10.cell 1
                have z0 := hB10.cell 0
                have z1 := hB10.cell 1
                simp only [List.getElem?_toArray, List.getElem?_cons_zero, List.getElem?_cons_succ] at c0 c1' z0 z1
                have hX10 := HX2w7.out.below hb10'
                obtain ⟨zb, zo, zx, eZ, hz1, hz2⟩ := hX10.at_ hlt
                cases eZ
                rw [HZZ.out] at hz1
                cases hz1
                have HPL := Lib.hid (show ∀ V, Below w10.heap.size w10 V → Calls Tryz.prog 15 #[.slice K1 (kidsOf l lb (cc : Int) nv).length ck, .int .i64 (q : Int)] V fun e w' => e = .returned (.int .i64 (p0 : Int)) ∧ V = w' from fun V hV => by
                  have := place_any K1 (kidsOf l lb (cc : Int) nv).length ck (kidsOf l lb (cc : Int) nv) (q : Int) V ((HKw7.out.below hb10').below hV) (by have := HKL.out; omega)
                  rw [HP0.out] at this
                  exact this)
                have j1 : ¬ ((p0 : Int) < 0) := by omega
                have j2 : ¬ ((pp : Int) < 0) := by omega
                have j3 : ¬ ((m2 : Int) ≤ (pp : Int)) := by omega
                have j4 : (0 : Int) ≤ (pp : Int) := by omega
                have j5 : (pp : Int) < (m2 : Int) := by omega
                have k1 : decide ((p0 : Int) < 0) = false := decide_eq_false j1
                have k2 : decide ((pp : Int) < 0) = false := decide_eq_false j2
                have k3 : decide ((m2 : Int) ≤ (pp : Int)) = false := decide_eq_false j3
                have HB10 := Lib.hid hb10'
                have HLT := Lib.hid hlt
                clear hr hB10 hC10 hX10 hb9' hb10 hb10' HR2
                go_wp2_with fail
                go_quiet ((go_at_call 15; exact quiet_left (HPL.out _ (by repeat (first | exact Below.refl _ _ | assumption | apply Below.drew | apply below_drewN | apply Bel.alloc | (refine Bel.setCell_ ?_ ?_; rotate_left; omega) | (refine Bel.step ?_ (by assumption)))))))
                go_wp2_with fail
                go_roundw
                case rel => exact ⟨below_drewN HB10.out _, i + 1, by have := HLT.out; omega, by go_num⟩
                case measure => simp [intOf]; have := HLT.out; omega
              · obtain rfl : n2 = i := by omega
                clear hlt
                go_wp2_with fail
                go_roundw
                case rel => exact ⟨Bel.step hbw7 hbl, cc + 1, by omega, by go_num⟩
                case measure => simp [intOf]; omega
end Go.Proofs.YtgkeolddpielpaaGreat
