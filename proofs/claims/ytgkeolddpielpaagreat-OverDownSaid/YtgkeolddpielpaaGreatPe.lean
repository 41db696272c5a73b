/- The document's CheckPart, law13.Few, law13.May, law15.May. -/
import Derived.Test.YtgkeolddpielpaaGreatPd
import Derived.Test.YtgkeolddpielpaaGreatNt7
namespace Go.Proofs.YtgkeolddpielpaaGreat
open Go.RowKit

attribute [local go_sem ↓] Go.wp_at_zero Go.wp_at_succ

theorem lvlCode_inv {n : Nat} {p : Option (List Int)} {l : List Int} (h : lvlCode n p l = 0) : LvlOk n l ∧ ∀ q, p = some q → NestOk q l := by
  unfold lvlCode at h
  split at h
  · cases h
  · split at h
    · assumption
    · cases h
set_option maxHeartbeats 2000000 in
set_option maxRecDepth 20000 in
theorem checkPart_any (Q : Option Addr) (n L cq : Nat) (ls : List (List Int)) (w : World) (h : RdT w Q L ls) :
    Calls Tryz.prog 63 #[.int .i64 n, .agg #[.slice Q L cq], .slice none 0 0] w fun e w' => CkRes0 (PartOk n ls) e ∧ Below w.heap.size w w' := by
  have HT := Lib.hid h
  clear h
  by_cases q0 : (n : Int) > 4096
  · go_enter Tryz.func63, Tryz.ntmps63
    go_wp2_with fail
    (refine calls_named ?_; intro w5 hw5)
    have hB5 : Blk w5 (w.heap.size + 1) 126 #[.slice none 0 0, .int .i64 0] := by rw [hw5]; exact (by repeat (first | assumption | (refine Blk.new' _ _ _ ?_; first | with_unfolding_all rfl | (simp; done)) | apply Blk.drewN | apply Blk.drew | apply Blk.alloc | (refine Blk.far_ ?_ ?_ _; rotate_left; omega)))
    have hb5 : Below w.heap.size w w5 := by rw [hw5]; exact (by repeat (first | exact Below.refl _ _ | assumption | apply Below.drew | apply below_drewN | apply Bel.alloc | (refine Bel.setCell_ ?_ ?_; rotate_left; omega) | (refine Bel.step ?_ (by assumption))))
    clear hw5
    with_reducible refine (refAt0_any _ _ _ _).mono ?_
    rintro e w2 ⟨⟨A4, n4, m4, rfl, hg4⟩, hb⟩
    have hB2 := Blk.below hB5 hb hB5.lt
    obtain ⟨c0, c1, f0, f1⟩ := hB2.two
    have hb2 : Below w.heap.size w w2 := Bel.step hb5 hb
    go_wp2_with fail
    refine bodyPost_ret (v := .agg #[.slice A4 n4 m4, .int .i64 4]) (by simp [results, Tryz.results63, go_sem, c0, c1]) rfl ?_
    first | exact ⟨CkRes0.no (by decide), (by repeat (first | exact Below.refl _ _ | assumption | apply Below.drew | apply below_drewN | apply Bel.alloc | (refine Bel.setCell_ ?_ ?_; rotate_left; omega) | (refine Bel.step ?_ (by assumption))))⟩ | exact ⟨CkRes.no (Wg.mono (B := w5.heap.size) (Wg.setCell (Wg.setCell hg4 hB5.lt _) hB5.lt _) hb5.size) (by decide), (by repeat (first | exact Below.refl _ _ | assumption | apply Below.drew | apply below_drewN | apply Bel.alloc | (refine Bel.setCell_ ?_ ?_; rotate_left; omega) | (refine Bel.step ?_ (by assumption))))⟩
  by_cases q1 : (L : Int) > 6
  · go_enter Tryz.func63, Tryz.ntmps63
    go_wp2_with fail
    (refine calls_named ?_; intro w5 hw5)
    have hB5 : Blk w5 (w.heap.size + 1) 126 #[.slice none 0 0, .int .i64 0] := by rw [hw5]; exact (by repeat (first | assumption | (refine Blk.new' _ _ _ ?_; first | with_unfolding_all rfl | (simp; done)) | apply Blk.drewN | apply Blk.drew | apply Blk.alloc | (refine Blk.far_ ?_ ?_ _; rotate_left; omega)))
    have hb5 : Below w.heap.size w w5 := by rw [hw5]; exact (by repeat (first | exact Below.refl _ _ | assumption | apply Below.drew | apply below_drewN | apply Bel.alloc | (refine Bel.setCell_ ?_ ?_; rotate_left; omega) | (refine Bel.step ?_ (by assumption))))
    clear hw5
    with_reducible refine (refAt0_any _ _ _ _).mono ?_
    rintro e w2 ⟨⟨A4, n4, m4, rfl, hg4⟩, hb⟩
    have hB2 := Blk.below hB5 hb hB5.lt
    obtain ⟨c0, c1, f0, f1⟩ := hB2.two
    have hb2 : Below w.heap.size w w2 := Bel.step hb5 hb
    go_wp2_with fail
    refine bodyPost_ret (v := .agg #[.slice A4 n4 m4, .int .i64 4]) (by simp [results, Tryz.results63, go_sem, c0, c1]) rfl ?_
    first | exact ⟨CkRes0.no (by decide), (by repeat (first | exact Below.refl _ _ | assumption | apply Below.drew | apply below_drewN | apply Bel.alloc | (refine Bel.setCell_ ?_ ?_; rotate_left; omega) | (refine Bel.step ?_ (by assumption))))⟩ | exact ⟨CkRes.no (Wg.mono (B := w5.heap.size) (Wg.setCell (Wg.setCell hg4 hB5.lt _) hB5.lt _) hb5.size) (by decide), (by repeat (first | exact Below.refl _ _ | assumption | apply Below.drew | apply below_drewN | apply Bel.alloc | (refine Bel.setCell_ ?_ ?_; rotate_left; omega) | (refine Bel.step ?_ (by assumption))))⟩
  by_cases q2 : L = 0
  · have j1 : ((L : Int) == 0) = true := by simp; exact q2
    go_enter Tryz.func63, Tryz.ntmps63
    go_wp2_with fail
    (refine calls_named ?_; intro w5 hw5)
    have hB5 : Blk w5 (w.heap.size + 1) 126 #[.slice none 0 0, .int .i64 0] := by rw [hw5]; exact (by repeat (first | assumption | (refine Blk.new' _ _ _ ?_; first | with_unfolding_all rfl | (simp; done)) | apply Blk.drewN | apply Blk.drew | apply Blk.alloc | (refine Blk.far_ ?_ ?_ _; rotate_left; omega)))
    have hb5 : Below w.heap.size w w5 := by rw [hw5]; exact (by repeat (first | exact Below.refl _ _ | assumption | apply Below.drew | apply below_drewN | apply Bel.alloc | (refine Bel.setCell_ ?_ ?_; rotate_left; omega) | (refine Bel.step ?_ (by assumption))))
    clear hw5
    with_reducible refine (refAt0_any _ _ _ _).mono ?_
    rintro e w2 ⟨⟨A4, n4, m4, rfl, hg4⟩, hb⟩
    have hB2 := Blk.below hB5 hb hB5.lt
    obtain ⟨c0, c1, f0, f1⟩ := hB2.two
    have hb2 : Below w.heap.size w w2 := Bel.step hb5 hb
    go_wp2_with fail
    refine bodyPost_ret (v := .agg #[.slice A4 n4 m4, .int .i64 1]) (by simp [results, Tryz.results63, go_sem, c0, c1]) rfl ?_
    first | exact ⟨CkRes0.no (by decide), (by repeat (first | exact Below.refl _ _ | assumption | apply Below.drew | apply below_drewN | apply Bel.alloc | (refine Bel.setCell_ ?_ ?_; rotate_left; omega) | (refine Bel.step ?_ (by assumption))))⟩ | exact ⟨CkRes.no (Wg.mono (B := w5.heap.size) (Wg.setCell (Wg.setCell hg4 hB5.lt _) hB5.lt _) hb5.size) (by decide), (by repeat (first | exact Below.refl _ _ | assumption | apply Below.drew | apply below_drewN | apply Bel.alloc | (refine Bel.setCell_ ?_ ?_; rotate_left; omega) | (refine Bel.step ?_ (by assumption))))⟩
  have j1 : ((L : Int) == 0) = false := by simp; exact q2
  go_enter Tryz.func63, Tryz.ntmps63
  go_wp2_with fail
  (refine wp_named ?_; intro w1 hw1)
  have hb1 : Below w.heap.size w w1 := by rw [hw1]; exact (by repeat (first | exact Below.refl _ _ | assumption | apply Below.drew | apply below_drewN | apply Bel.alloc | (refine Bel.setCell_ ?_ ?_; rotate_left; omega) | (refine Bel.step ?_ (by assumption))))
  have hQ : Blk w1 w.heap.size 29 #[.slice Q L cq] := by rw [hw1]; exact (by repeat (first | assumption | (refine Blk.new' _ _ _ ?_; first | with_unfolding_all rfl | (simp; done)) | apply Blk.drewN | apply Blk.drew | apply Blk.alloc | (refine Blk.far_ ?_ ?_ _; rotate_left; omega)))
  have hB : Blk w1 (w.heap.size + 1) 126 #[.slice none 0 0, .int .i64 0] := by rw [hw1]; exact (by repeat (first | assumption | (refine Blk.new' _ _ _ ?_; first | with_unfolding_all rfl | (simp; done)) | apply Blk.drewN | apply Blk.drew | apply Blk.alloc | (refine Blk.far_ ?_ ?_ _; rotate_left; omega)))
  clear hw1
  go_loopw [7] (fun q W => Below w.heap.size w W ∧ Blk W w.heap.size 29 #[.slice Q L cq] ∧ Blk W (w.heap.size + 1) 126 #[.slice none 0 0, .int .i64 0] ∧ ∃ i : Nat, i ≤ L ∧ q = .int .i64 ((i : Int) + 1) ∧ ∀ (j : Nat) (l : List Int), j < i → ls[j]? = some l → LvlOk n l ∧ ∀ q, prevOf ls j = some q → NestOk q l) (fun q _ => L + 1 - (intOf q).toNat)
  case atStart => exact ⟨hb1, hQ, hB, 0, Nat.zero_le _, rfl, fun _ _ h => absurd h (Nat.not_lt_zero _)⟩
  case round =>
    clear hb1 hQ hB
    obtain ⟨hbl, hQ, hB, i, hi, rfl, hall⟩ := hrel
    have HA := Lib.hid hall
    clear hall
    have y0 := hQ.cell 0
    simp only [List.getElem?_toArray, List.getElem?_cons_zero] at y0
    by_cases hlt : i < L
    · obtain ⟨l, hl⟩ : ∃ l, ls[i]? = some l := ⟨_, List.getElem?_eq_getElem (by rw [HT.out.1]; exact hlt)⟩
      have HCL := Lib.hid (checkLevel_any Q n L cq i ls l wr (HT.out.below hbl) hl (by omega) (by omega) (fun j p e hp => (HA.out j p (by omega) hp).1.len))
      have HLL := Lib.hid hl
      have HI := Lib.hid (@lvlCode_inv n (prevOf ls i) l)
      have i1 : (i : Int) + 1 ≤ (L : Int) := by omega
      clear hl
      generalize lvlCode n (prevOf ls i) l = code at *
      go_wp2_with fail
      with_reducible refine HCL.out.mono ?_
      rintro e w2 ⟨rfl, hb2⟩
      have hQ2 := hQ.below hb2 hQ.lt
      have hB2 := hB.below hb2 hB.lt
      have hbw2 := Bel.step hbl hb2
      clear hQ hB y0 HCL hb2
      by_cases hc : code = 0
      · subst hc
        have HO := Lib.hid (HI.out rfl)
        clear HI
        go_wp2_with fail
        go_roundw
        case rel => exact ⟨hbw2, hQ2, hB2, i + 1, by omega, by go_num, fun j l' hj hl' => by
          by_cases e : j = i
          · subst e
            rw [HLL.out] at hl'
            cases hl'
            exact HO.out
          · exact HA.out j l' (by omega) hl'⟩
        case measure => simp [intOf]; omega
      · have e1 : (code == 0) = false := by simpa using hc
        have e2 : (code != 0) = true := by simpa using hc
        have HC := Lib.hid hc
        clear hc
        go_wp2_with fail
        with_reducible refine (refAt0_any _ _ _ _).mono ?_
        rintro e w3 ⟨⟨A4, n4, m4, rfl, hg4⟩, hb3⟩
        have hB3 := hB2.below hb3 hB2.lt
        obtain ⟨c0, c1, f0, f1⟩ := hB3.two
        have hbw3 := Bel.step hbw2 hb3
        go_wp2_with fail
        refine bodyPost_ret (v := .agg #[.slice A4 n4 m4, .int .i64 code]) (by simp [results, Tryz.results63, go_sem, c0, c1]) rfl ?_
        exact ⟨CkRes0.no HC.out, (by repeat (first | exact Below.refl _ _ | assumption | apply Below.drew | apply below_drewN | apply Bel.alloc | (refine Bel.setCell_ ?_ ?_; rotate_left; omega) | (refine Bel.step ?_ (by assumption))))⟩
    · obtain rfl : L = i := by omega
      obtain ⟨c0, c1, f0, f1⟩ := hB.two
      have zB := hB.lt
      have HP := Lib.hid (show PartOk n ls from ⟨by rw [HT.out.1]; omega, by rw [HT.out.1]; omega, fun l hl => by
        obtain ⟨j, hj⟩ := List.getElem?_of_mem hl
        exact (HA.out j l (by rw [← HT.out.1]; exact (List.getElem?_eq_some_iff.1 hj).1) hj).1, fun j p l hp hl => (HA.out (j + 1) l (by rw [← HT.out.1]; exact (List.getElem?_eq_some_iff.1 hl).1) hl).2 p (by rw [prevOf_succ]; exact hp)⟩)
      clear HA
      go_wp2_with fail
      refine bodyPost_ret (v := .agg #[.slice none 0 0, .int .i64 0]) (by simp [results, Tryz.results63, go_sem, c0, c1]) rfl ?_
      exact ⟨⟨_, _, _, _, rfl, .inl ⟨rfl, HP.out⟩⟩, (by repeat (first | exact Below.refl _ _ | assumption | apply Below.drew | apply below_drewN | apply Bel.alloc | (refine Bel.setCell_ ?_ ?_; rotate_left; omega) | (refine Bel.step ?_ (by assumption))))⟩
structure FewP (ls : List (List Int)) : Prop where
  l : ls.length ≤ 10
  r : ∀ l ∈ ls, l.length ≤ 60
set_option maxHeartbeats 1000000 in
theorem fewP_any (Q : Option Addr) (L cq : Nat) (ls : List (List Int)) (w : World) (h : RdT w Q L ls) (hL : L ≤ 9223372036854775807) :
    Calls Tryz.prog 62 #[.agg #[.slice Q L cq]] w fun e w' => BoolRes (FewP ls) e ∧ Below w.heap.size w w' := by
  have HT := Lib.hid h
  have HLE := Lib.hid h.1
  clear h
  go_enter Tryz.func62, Tryz.ntmps62
  go_wp2_with fail
  (refine wp_named ?_; intro w1 hw1)
  have hb1 : Below w.heap.size w w1 := by rw [hw1]; exact (by repeat (first | exact Below.refl _ _ | assumption | apply Below.drew | apply below_drewN | apply Bel.alloc | (refine Bel.setCell_ ?_ ?_; rotate_left; omega) | (refine Bel.step ?_ (by assumption))))
  have hQ : Blk w1 w.heap.size 29 #[.slice Q L cq] := by rw [hw1]; exact (by repeat (first | assumption | (refine Blk.new' _ _ _ ?_; first | with_unfolding_all rfl | (simp; done)) | apply Blk.drewN | apply Blk.drew | apply Blk.alloc | (refine Blk.far_ ?_ ?_ _; rotate_left; omega)))
  have H1 := Lib.hid (HT.out.below hb1)
  clear hw1
  have y0 := hQ.cell 0
  simp only [List.getElem?_toArray, List.getElem?_cons_zero] at y0
  go_loop [3] (fun q => ∃ i : Nat, i ≤ L ∧ q = .int .i64 i ∧ ∀ j l, j < i → ls[j]? = some l → l.length ≤ 60) (fun q => L - (intOf q).toNat)
  case atStart => exact ⟨0, Nat.zero_le _, rfl, fun _ _ h => absurd h (Nat.not_lt_zero _)⟩
  case round =>
    obtain ⟨i, hi, rfl, hall⟩ := hrel
    have HA := Lib.hid hall
    clear hall
    by_cases hlt : i < L
    · obtain ⟨b, o, A, n, c, l, rfl, hl, hc, hr, q1, q2⟩ := H1.out.at_ hlt
      have i1 : (0 : Int) ≤ (i : Int) := by omega
      have i2 : (i : Int) < (L : Int) := by omega
      have HLL := Lib.hid hl
      have HR := Lib.hid hr.1
      clear hl hr
      by_cases q3 : (n : Int) > 60
      · go_wp2_with fail
        go_ret
        exact ⟨⟨false, rfl, fun h => by cases h⟩, hb1⟩
      · go_wp2_with fail
        go_round
        case rel => exact ⟨i + 1, by omega, by go_num, fun j l' hj hl' => by
          by_cases e : j = i
          · subst e
            rw [HLL.out] at hl'
            cases hl'
            rw [HR.out]
            omega
          · exact HA.out j l' (by omega) hl'⟩
        case measure => simp [intOf]; omega
    · obtain rfl : L = i := by omega
      go_wp2_with fail
      go_ret
      refine ⟨⟨_, rfl, fun h => ⟨by rw [HLE.out]; have := of_decide_eq_true h; omega, fun l hl => ?_⟩⟩, hb1⟩
      obtain ⟨j, hj⟩ := List.getElem?_of_mem hl
      exact HA.out j l (by rw [← HLE.out]; exact (List.getElem?_eq_some_iff.1 hj).1) hj
set_option maxHeartbeats 1000000 in
theorem may13_any (Q : Option Addr) (n L cq : Nat) (ls : List (List Int)) (w : World) (h : RdT w Q L ls) (hL : L ≤ 9223372036854775807) :
    Calls Tryz.prog 36 #[.int .i64 n, .agg #[.slice Q L cq]] w fun e w' => BoolRes (FewP ls ∧ n ≤ 60 ∧ PartOk n ls) e ∧ Below w.heap.size w w' := by
  have HT := Lib.hid h
  clear h
  go_enter Tryz.func36, Tryz.ntmps36
  go_wp2_with fail
  (refine calls_named ?_; intro w1 hw1)
  have hb1 : Below w.heap.size w w1 := by rw [hw1]; exact (by repeat (first | exact Below.refl _ _ | assumption | apply Below.drew | apply below_drewN | apply Bel.alloc | (refine Bel.setCell_ ?_ ?_; rotate_left; omega) | (refine Bel.step ?_ (by assumption))))
  have hQ : Blk w1 w.heap.size 29 #[.slice Q L cq] := by rw [hw1]; exact (by repeat (first | assumption | (refine Blk.new' _ _ _ ?_; first | with_unfolding_all rfl | (simp; done)) | apply Blk.drewN | apply Blk.drew | apply Blk.alloc | (refine Blk.far_ ?_ ?_ _; rotate_left; omega)))
  clear hw1
  with_reducible refine (fewP_any Q L cq ls w1 (HT.out.below hb1) hL).mono ?_
  rintro e w2 ⟨⟨bb, rfl, hf⟩, hb2⟩
  have hbw2 := Bel.step hb1 hb2
  have y0 := (hQ.below hb2 hQ.lt).cell 0
  simp only [List.getElem?_toArray, List.getElem?_cons_zero] at y0
  clear hQ hb2
  cases bb
  · go_wp2_with fail
    go_ret
    exact ⟨⟨false, rfl, fun h => by cases h⟩, hbw2⟩
  have HF := Lib.hid (hf rfl)
  clear hf
  by_cases q0 : (n : Int) ≤ 60
  rotate_left
  · go_wp2_with fail
    go_ret
    exact ⟨⟨false, rfl, fun h => by cases h⟩, hbw2⟩
  go_wp2_with fail
  with_reducible refine (checkPart_any Q n L cq ls w2 (HT.out.below hbw2)).mono ?_
  rintro e w3 ⟨⟨A4, k4, c4, x, rfl, hx⟩, hb3⟩
  have hbw3 := Bel.step hbw2 hb3
  have hfe := fieldErr A4 k4 c4 x w3
  clear y0
  rcases hx with ⟨rfl, hG⟩ | hx
  · have HG := Lib.hid hG
    clear hG
    go_wp2_with fail
    go_ret
    exact ⟨⟨true, rfl, fun _ => ⟨HF.out, by omega, HG.out⟩⟩, hbw3⟩
  · go_wp2_with fail
    go_ret
    exact ⟨⟨_, rfl, fun h => absurd (by simpa using h) hx⟩, hbw3⟩
structure MayOk (N : NetD) (ls : List (List Int)) : Prop where
  small : SmallOk N
  few : FewP ls
  part : PartOk N.vs.length ls
set_option maxHeartbeats 1000000 in
theorem may15_any (A B C Q : Option Addr) (n m k c d e L cq : Nat) (N : NetD) (ls : List (List Int)) (w : World) (h : RdNet w A B C n m k N) (hk : k ≤ 9223372036854775807) (hq : RdT w Q L ls) (hL : L ≤ 9223372036854775807) :
    Calls Tryz.prog 8 #[.agg #[.slice A n c, .slice B m d, .slice C k e], .agg #[.slice Q L cq]] w fun e w' => BoolRes (MayOk N ls) e ∧ Below w.heap.size w w' := by
  have HH := Lib.hid h
  have HT := Lib.hid hq
  have HLV := Lib.hid h.1.1
  clear h hq
  go_enter Tryz.func8, Tryz.ntmps8
  go_wp2_with fail
  (refine calls_named ?_; intro w1 hw1)
  have hb1 : Below w.heap.size w w1 := by rw [hw1]; exact (by repeat (first | exact Below.refl _ _ | assumption | apply Below.drew | apply below_drewN | apply Bel.alloc | (refine Bel.setCell_ ?_ ?_; rotate_left; omega) | (refine Bel.step ?_ (by assumption))))
  have hN : Blk w1 w.heap.size 26 #[.slice A n c, .slice B m d, .slice C k e] := by rw [hw1]; exact (by repeat (first | assumption | (refine Blk.new' _ _ _ ?_; first | with_unfolding_all rfl | (simp; done)) | apply Blk.drewN | apply Blk.drew | apply Blk.alloc | (refine Blk.far_ ?_ ?_ _; rotate_left; omega)))
  have hQ : Blk w1 (w.heap.size + 1) 29 #[.slice Q L cq] := by rw [hw1]; exact (by repeat (first | assumption | (refine Blk.new' _ _ _ ?_; first | with_unfolding_all rfl | (simp; done)) | apply Blk.drewN | apply Blk.drew | apply Blk.alloc | (refine Blk.far_ ?_ ?_ _; rotate_left; omega)))
  clear hw1
  with_reducible refine (small_any A B C n m k c d e N w1 (HH.out.below hb1) hk).mono ?_
  rintro r w2 ⟨⟨bb, rfl, hf⟩, hb2⟩
  have hbw2 := Bel.step hb1 hb2
  have y0 := (hQ.below hb2 hQ.lt).cell 0
  simp only [List.getElem?_toArray, List.getElem?_cons_zero] at y0
  obtain ⟨n0, n1, n2⟩ := (hN.below hb2 hN.lt).three
  clear hQ hb2 hN
  cases bb
  · go_wp2_with fail
    go_ret
    exact ⟨⟨false, rfl, fun h => by cases h⟩, hbw2⟩
  have HF := Lib.hid (hf rfl)
  clear hf
  go_wp2_with fail
  with_reducible refine (may13_any Q n L cq ls w2 (HT.out.below hbw2) hL).mono ?_
  rintro r w3 ⟨⟨bb, rfl, hf⟩, hb3⟩
  have HF2 := Lib.hid hf
  have hbw3 := Bel.step hbw2 hb3
  clear hf
  go_wp2_with fail
  go_ret
  exact ⟨⟨bb, rfl, fun h => ⟨HF.out, (HF2.out h).1, by rw [HLV.out]; exact (HF2.out h).2.2⟩⟩, hbw3⟩
end Go.Proofs.YtgkeolddpielpaaGreat
