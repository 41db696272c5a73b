/- Parts of the proof: Pe, Oo. -/
import Derived.Test.YtgkeolddpielpaaGreatDoorM24
/- The document's CheckPart, law13.Few, law13.May, law15.May. -/
namespace Go.Proofs.YtgkeolddpielpaaGreatDoor
open Go.RowKit

attribute [local go_sem ↓] Go.wp_at_zero Go.wp_at_succ

theorem lvlCode_inv {n : Nat} {p : Option (List Int)} {l : List Int} (h : lvlCode n p l = 0) : LvlOk n l ∧ ∀ q, p = some q → NestOk q l := by
  unfold lvlCode at h
  split at h
  · cases h
  · split at h
    · assumption
    · cases h
set_option maxHeartbeats 2000000 in
set_option maxRecDepth 20000 in
theorem checkPart_any (Q : Option Addr) (n L cq : Nat) (ls : List (List Int)) (w : World) (h : RdT w Q L ls) :
    Calls Tryz.prog 11 #[.int .i64 n, .agg #[.slice Q L cq], .slice none 0 0] w fun e w' => CkRes0 (PartOk n ls) e ∧ Below w.heap.size w w' := by
  have HT := Lib.hid h
  clear h
  by_cases q0 : (n : Int) > 4096
  · go_enter Tryz.func11, Tryz.ntmps11
    go_wp2_with fail
    (refine calls_named ?_; intro w5 hw5)
    have hB5 : Blk w5 (w.heap.size + 1) 44 #[.slice none 0 0, .int .i64 0] := by rw [hw5]; exact (by repeat (first | assumption | (refine Blk.new' _ _ _ ?_; first | with_unfolding_all rfl | (simp; done)) | apply Blk.drewN | apply Blk.drew | apply Blk.alloc | (refine Blk.far_ ?_ ?_ _; rotate_left; omega)))
    have hb5 : Below w.heap.size w w5 := by rw [hw5]; exact (by repeat (first | exact Below.refl _ _ | assumption | apply Below.drew | apply below_drewN | apply Bel.alloc | (refine Bel.setCell_ ?_ ?_; rotate_left; omega) | (refine Bel.step ?_ (by assumption))))
    clear hw5
    with_reducible refine (refAt0_any _ _ _ _).mono ?_
    rintro e w2 ⟨⟨A4, n4, m4, rfl, hg4⟩, hb⟩
    have hB2 := Blk.below hB5 hb hB5.lt
    obtain ⟨c0, c1, f0, f1⟩ := hB2.two
    have hb2 : Below w.heap.size w w2 := Bel.step hb5 hb
    go_wp2_with fail
    refine bodyPost_ret (v := .agg #[.slice A4 n4 m4, .int .i64 4]) (by simp [results, Tryz.results11, go_sem, c0, c1]) rfl ?_
    first | exact ⟨CkRes0.no (by decide), (by repeat (first | exact Below.refl _ _ | assumption | apply Below.drew | apply below_drewN | apply Bel.alloc | (refine Bel.setCell_ ?_ ?_; rotate_left; omega) | (refine Bel.step ?_ (by assumption))))⟩ | exact ⟨CkRes.no (Wg.mono (B := w5.heap.size) (Wg.setCell (Wg.setCell hg4 hB5.lt _) hB5.lt _) hb5.size) (by decide), (by repeat (first | exact Below.refl _ _ | assumption | apply Below.drew | apply below_drewN | apply Bel.alloc | (refine Bel.setCell_ ?_ ?_; rotate_left; omega) | (refine Bel.step ?_ (by assumption))))⟩
  by_cases q1 : (L : Int) > 6
  · go_enter Tryz.func11, Tryz.ntmps11
    go_wp2_with fail
    (refine calls_named ?_; intro w5 hw5)
    have hB5 : Blk w5 (w.heap.size + 1) 44 #[.slice none 0 0, .int .i64 0] := by rw [hw5]; exact (by repeat (first | assumption | (refine Blk.new' _ _ _ ?_; first | with_unfolding_all rfl | (simp; done)) | apply Blk.drewN | apply Blk.drew | apply Blk.alloc | (refine Blk.far_ ?_ ?_ _; rotate_left; omega)))
    have hb5 : Below w.heap.size w w5 := by rw [hw5]; exact (by repeat (first | exact Below.refl _ _ | assumption | apply Below.drew | apply below_drewN | apply Bel.alloc | (refine Bel.setCell_ ?_ ?_; rotate_left; omega) | (refine Bel.step ?_ (by assumption))))
    clear hw5
    with_reducible refine (refAt0_any _ _ _ _).mono ?_
    rintro e w2 ⟨⟨A4, n4, m4, rfl, hg4⟩, hb⟩
    have hB2 := Blk.below hB5 hb hB5.lt
    obtain ⟨c0, c1, f0, f1⟩ := hB2.two
    have hb2 : Below w.heap.size w w2 := Bel.step hb5 hb
    go_wp2_with fail
    refine bodyPost_ret (v := .agg #[.slice A4 n4 m4, .int .i64 4]) (by simp [results, Tryz.results11, go_sem, c0, c1]) rfl ?_
    first | exact ⟨CkRes0.no (by decide), (by repeat (first | exact Below.refl _ _ | assumption | apply Below.drew | apply below_drewN | apply Bel.alloc | (refine Bel.setCell_ ?_ ?_; rotate_left; omega) | (refine Bel.step ?_ (by assumption))))⟩ | exact ⟨CkRes.no (Wg.mono (B := w5.heap.size) (Wg.setCell (Wg.setCell hg4 hB5.lt _) hB5.lt _) hb5.size) (by decide), (by repeat (first | exact Below.refl _ _ | assumption | apply Below.drew | apply below_drewN | apply Bel.alloc | (refine Bel.setCell_ ?_ ?_; rotate_left; omega) | (refine Bel.step ?_ (by assumption))))⟩
  by_cases q2 : L = 0
  · have j1 : ((L : Int) == 0) = true := by simp; exact q2
    go_enter Tryz.func11, Tryz.ntmps11
    go_wp2_with fail
    (refine calls_named ?_; intro w5 hw5)
    have hB5 : Blk w5 (w.heap.size + 1) 44 #[.slice none 0 0, .int .i64 0] := by rw [hw5]; exact (by repeat (first | assumption | (refine Blk.new' _ _ _ ?_; first | with_unfolding_all rfl | (simp; done)) | apply Blk.drewN | apply Blk.drew | apply Blk.alloc | (refine Blk.far_ ?_ ?_ _; rotate_left; omega)))
    have hb5 : Below w.heap.size w w5 := by rw [hw5]; exact (by repeat (first | exact Below.refl _ _ | assumption | apply Below.drew | apply below_drewN | apply Bel.alloc | (refine Bel.setCell_ ?_ ?_; rotate_left; omega) | (refine Bel.step ?_ (by assumption))))
    clear hw5
    with_reducible refine (refAt0_any _ _ _ _).mono ?_
    rintro e w2 ⟨⟨A4, n4, m4, rfl, hg4⟩, hb⟩
    have hB2 := Blk.below hB5 hb hB5.lt
    obtain ⟨c0, c1, f0, f1⟩ := hB2.two
    have hb2 : Below w.heap.size w w2 := Bel.step hb5 hb
    go_wp2_with fail
    refine bodyPost_ret (v := .agg #[.slice A4 n4 m4, .int .i64 1]) (by simp [results, Tryz.results11, go_sem, c0, c1]) rfl ?_
    first | exact ⟨CkRes0.no (by decide), (by repeat (first | exact Below.refl _ _ | assumption | apply Below.drew | apply below_drewN | apply Bel.alloc | (refine Bel.setCell_ ?_ ?_; rotate_left; omega) | (refine Bel.step ?_ (by assumption))))⟩ | exact ⟨CkRes.no (Wg.mono (B := w5.heap.size) (Wg.setCell (Wg.setCell hg4 hB5.lt _) hB5.lt _) hb5.size) (by decide), (by repeat (first | exact Below.refl _ _ | assumption | apply Below.drew | apply below_drewN | apply Bel.alloc | (refine Bel.setCell_ ?_ ?_; rotate_left; omega) | (refine Bel.step ?_ (by assumption))))⟩
  have j1 : ((L : Int) == 0) = false := by simp; exact q2
  go_enter Tryz.func11, Tryz.ntmps11
  go_wp2_with fail
  (refine wp_named ?_; intro w1 hw1)
  have hb1 : Below w.heap.size w w1 := by rw [hw1]; exact (by repeat (first | exact Below.refl _ _ | assumption | apply Below.drew | apply below_drewN | apply Bel.alloc | (refine Bel.setCell_ ?_ ?_; rotate_left; omega) | (refine Bel.step ?_ (by assumption))))
  have hQ : Blk w1 w.heap.size 29 #[.slice Q L cq] := by rw [hw1]; exact (by repeat (first | assumption | (refine Blk.new' _ _ _ ?_; first | with_unfolding_all rfl | (simp; done)) | apply Blk.drewN | apply Blk.drew | apply Blk.alloc | (refine Blk.far_ ?_ ?_ _; rotate_left; omega)))
  have hB : Blk w1 (w.heap.size + 1) 44 #[.slice none 0 0, .int .i64 0] := by rw [hw1]; exact (by repeat (first | assumption | (refine Blk.new' _ _ _ ?_; first | with_unfolding_all rfl | (simp; done)) | apply Blk.drewN | apply Blk.drew | apply Blk.alloc | (refine Blk.far_ ?_ ?_ _; rotate_left; omega)))
  clear hw1
  go_loopw [7] (fun q W => Below w.heap.size w W ∧ Blk W w.heap.size 29 #[.slice Q L cq] ∧ Blk W (w.heap.size + 1) 44 #[.slice none 0 0, .int .i64 0] ∧ ∃ i : Nat, i ≤ L ∧ q = .int .i64 ((i : Int) + 1) ∧ ∀ (j : Nat) (l : List Int), j < i → ls[j]? = some l → LvlOk n l ∧ ∀ q, prevOf ls j = some q → NestOk q l) (fun q _ => L + 1 - (intOf q).toNat)
  case atStart => exact ⟨hb1, hQ, hB, 0, Nat.zero_le _, rfl, fun _ _ h => absurd h (Nat.not_lt_zero _)⟩
  case round =>
    clear hb1 hQ hB
    obtain ⟨hbl, hQ, hB, i, hi, rfl, hall⟩ := hrel
    have HA := Lib.hid hall
    clear hall
    have y0 := hQ.cell 0
    simp only [List.getElem?_toArray, List.getElem?_cons_zero] at y0
    by_cases hlt : i < L
    · obtain ⟨l, hl⟩ : ∃ l, ls[i]? = some l := ⟨_, List.getElem?_eq_getElem (by rw [HT.out.1]; exact hlt)⟩
      have HCL := Lib.hid (checkLevel_any Q n L cq i ls l wr (HT.out.below hbl) hl (by omega) (by omega) (fun j p e hp => (HA.out j p (by omega) hp).1.len))
      have HLL := Lib.hid hl
      have HI := Lib.hid (@lvlCode_inv n (prevOf ls i) l)
      have i1 : (i : Int) + 1 ≤ (L : Int) := by omega
      clear hl
      generalize lvlCode n (prevOf ls i) l = code at *
      go_wp2_with fail
      with_reducible refine HCL.out.mono ?_
      rintro e w2 ⟨rfl, hb2⟩
      have hQ2 := hQ.below hb2 hQ.lt
      have hB2 := hB.below hb2 hB.lt
      have hbw2 := Bel.step hbl hb2
      clear hQ hB y0 HCL hb2
      by_cases hc : code = 0
      · subst hc
        have HO := Lib.hid (HI.out rfl)
        clear HI
        go_wp2_with fail
        go_roundw
        case rel => exact ⟨hbw2, hQ2, hB2, i + 1, by omega, by go_num, fun j l' hj hl' => by
          by_cases e : j = i
          · subst e
            rw [HLL.out] at hl'
            cases hl'
            exact HO.out
          · exact HA.out j l' (by omega) hl'⟩
        case measure => simp [intOf]; omega
      · have e1 : (code == 0) = false := by simpa using hc
        have e2 : (code != 0) = true := by simpa using hc
        have HC := Lib.hid hc
        clear hc
        go_wp2_with fail
        with_reducible refine (refAt0_any _ _ _ _).mono ?_
        rintro e w3 ⟨⟨A4, n4, m4, rfl, hg4⟩, hb3⟩
        have hB3 := hB2.below hb3 hB2.lt
        obtain ⟨c0, c1, f0, f1⟩ := hB3.two
        have hbw3 := Bel.step hbw2 hb3
        go_wp2_with fail
        refine bodyPost_ret (v := .agg #[.slice A4 n4 m4, .int .i64 code]) (by simp [results, Tryz.results11, go_sem, c0, c1]) rfl ?_
        exact ⟨CkRes0.no HC.out, (by repeat (first | exact Below.refl _ _ | assumption | apply Below.drew | apply below_drewN | apply Bel.alloc | (refine Bel.setCell_ ?_ ?_; rotate_left; omega) | (refine Bel.step ?_ (by assumption))))⟩
    · obtain rfl : L = i := by omega
      obtain ⟨c0, c1, f0, f1⟩ := hB.two
      have zB := hB.lt
      have HP := Lib.hid (show PartOk n ls from ⟨by rw [HT.out.1]; omega, by rw [HT.out.1]; omega, fun l hl => by
        obtain ⟨j, hj⟩ := List.getElem?_of_mem hl
        exact (HA.out j l (by rw [← HT.out.1]; exact (List.getElem?_eq_some_iff.1 hj).1) hj).1, fun j p l hp hl => (HA.out (j + 1) l (by rw [← HT.out.1]; exact (List.getElem?_eq_some_iff.1 hl).1) hl).2 p (by rw [prevOf_succ]; exact hp)⟩)
      clear HA
      go_wp2_with fail
      refine bodyPost_ret (v := .agg #[.slice none 0 0, .int .i64 0]) (by simp [results, Tryz.results11, go_sem, c0, c1]) rfl ?_
      exact ⟨⟨_, _, _, _, rfl, .inl ⟨rfl, HP.out⟩⟩, (by repeat (first | exact Below.refl _ _ | assumption | apply Below.drew | apply below_drewN | apply Bel.alloc | (refine Bel.setCell_ ?_ ?_; rotate_left; omega) | (refine Bel.step ?_ (by assumption))))⟩
structure FewP (ls : List (List Int)) : Prop where
  l : ls.length ≤ 10
  r : ∀ l ∈ ls, l.length ≤ 60
set_option maxHeartbeats 1000000 in
theorem fewP_any (Q : Option Addr) (L cq : Nat) (ls : List (List Int)) (w : World) (h : RdT w Q L ls) (hL : L ≤ 9223372036854775807) :
    Calls Tryz.prog 7 #[.agg #[.slice Q L cq]] w fun e w' => BoolRes (FewP ls) e ∧ Below w.heap.size w w' := by
  have HT := Lib.hid h
  have HLE := Lib.hid h.1
  clear h
  go_enter Tryz.func7, Tryz.ntmps7
  go_wp2_with fail
  (refine wp_named ?_; intro w1 hw1)
  have hb1 : Below w.heap.size w w1 := by rw [hw1]; exact (by repeat (first | exact Below.refl _ _ | assumption | apply Below.drew | apply below_drewN | apply Bel.alloc | (refine Bel.setCell_ ?_ ?_; rotate_left; omega) | (refine Bel.step ?_ (by assumption))))
  have hQ : Blk w1 w.heap.size 29 #[.slice Q L cq] := by rw [hw1]; exact (by repeat (first | assumption | (refine Blk.new' _ _ _ ?_; first | with_unfolding_all rfl | (simp; done)) | apply Blk.drewN | apply Blk.drew | apply Blk.alloc | (refine Blk.far_ ?_ ?_ _; rotate_left; omega)))
  have H1 := Lib.hid (HT.out.below hb1)
  clear hw1
  have y0 := hQ.cell 0
  simp only [List.getElem?_toArray, List.getElem?_cons_zero] at y0
  go_loop [3] (fun q => ∃ i : Nat, i ≤ L ∧ q = .int .i64 i ∧ ∀ j l, j < i → ls[j]? = some l → l.length ≤ 60) (fun q => L - (intOf q).toNat)
  case atStart => exact ⟨0, Nat.zero_le _, rfl, fun _ _ h => absurd h (Nat.not_lt_zero _)⟩
  case round =>
    obtain ⟨i, hi, rfl, hall⟩ := hrel
    have HA := Lib.hid hall
    clear hall
    by_cases hlt : i < L
    · obtain ⟨b, o, A, n, c, l, rfl, hl, hc, hr, q1, q2⟩ := H1.out.at_ hlt
      have i1 : (0 : Int) ≤ (i : Int) := by omega
      have i2 : (i : Int) < (L : Int) := by omega
      have HLL := Lib.hid hl
      have HR := Lib.hid hr.1
      clear hl hr
      by_cases q3 : (n : Int) > 60
      · go_wp2_with fail
        go_ret
        exact ⟨⟨false, rfl, fun h => by cases h⟩, hb1⟩
      · go_wp2_with fail
        go_round
        case rel => exact ⟨i + 1, by omega, by go_num, fun j l' hj hl' => by
          by_cases e : j = i
          · subst e
            rw [HLL.out] at hl'
            cases hl'
            rw [HR.out]
            omega
          · exact HA.out j l' (by omega) hl'⟩
        case measure => simp [intOf]; omega
    · obtain rfl : L = i := by omega
      go_wp2_with fail
      go_ret
      refine ⟨⟨_, rfl, fun h => ⟨by rw [HLE.out]; have := of_decide_eq_true h; omega, fun l hl => ?_⟩⟩, hb1⟩
      obtain ⟨j, hj⟩ := List.getElem?_of_mem hl
      exact HA.out j l (by rw [← HLE.out]; exact (List.getElem?_eq_some_iff.1 hj).1) hj
set_option maxHeartbeats 1000000 in
theorem may13_any (Q : Option Addr) (n L cq : Nat) (ls : List (List Int)) (w : World) (h : RdT w Q L ls) (hL : L ≤ 9223372036854775807) :
    Calls Tryz.prog 45 #[.int .i64 n, .agg #[.slice Q L cq]] w fun e w' => BoolRes (FewP ls ∧ n ≤ 60 ∧ PartOk n ls) e ∧ Below w.heap.size w w' := by
  have HT := Lib.hid h
  clear h
  go_enter Tryz.func45, Tryz.ntmps45
  go_wp2_with fail
  (refine calls_named ?_; intro w1 hw1)
  have hb1 : Below w.heap.size w w1 := by rw [hw1]; exact (by repeat (first | exact Below.refl _ _ | assumption | apply Below.drew | apply below_drewN | apply Bel.alloc | (refine Bel.setCell_ ?_ ?_; rotate_left; omega) | (refine Bel.step ?_ (by assumption))))
  have hQ : Blk w1 w.heap.size 29 #[.slice Q L cq] := by rw [hw1]; exact (by repeat (first | assumption | (refine Blk.new' _ _ _ ?_; first | with_unfolding_all rfl | (simp; done)) | apply Blk.drewN | apply Blk.drew | apply Blk.alloc | (refine Blk.far_ ?_ ?_ _; rotate_left; omega)))
  clear hw1
  with_reducible refine (fewP_any Q L cq ls w1 (HT.out.below hb1) hL).mono ?_
  rintro e w2 ⟨⟨bb, rfl, hf⟩, hb2⟩
  have hbw2 := Bel.step hb1 hb2
  have y0 := (hQ.below hb2 hQ.lt).cell 0
  simp only [List.getElem?_toArray, List.getElem?_cons_zero] at y0
  clear hQ hb2
  cases bb
  · go_wp2_with fail
    go_ret
    exact ⟨⟨false, rfl, fun h => by cases h⟩, hbw2⟩
  have HF := Lib.hid (hf rfl)
  clear hf
  by_cases q0 : (n : Int) ≤ 60
  rotate_left
  · go_wp2_with fail
    go_ret
    exact ⟨⟨false, rfl, fun h => by cases h⟩, hbw2⟩
  go_wp2_with fail
  with_reducible refine (checkPart_any Q n L cq ls w2 (HT.out.below hbw2)).mono ?_
  rintro e w3 ⟨⟨A4, k4, c4, x, rfl, hx⟩, hb3⟩
  have hbw3 := Bel.step hbw2 hb3
  have hfe := fieldErr A4 k4 c4 x w3
  clear y0
  rcases hx with ⟨rfl, hG⟩ | hx
  · have HG := Lib.hid hG
    clear hG
    go_wp2_with fail
    go_ret
    exact ⟨⟨true, rfl, fun _ => ⟨HF.out, by omega, HG.out⟩⟩, hbw3⟩
  · go_wp2_with fail
    go_ret
    exact ⟨⟨_, rfl, fun h => absurd (by simpa using h) hx⟩, hbw3⟩
structure MayOk (N : NetD) (ls : List (List Int)) : Prop where
  small : SmallOk N
  few : FewP ls
  part : PartOk N.vs.length ls
set_option maxHeartbeats 1000000 in
theorem may15_any (A B C Q : Option Addr) (n m k c d e L cq : Nat) (N : NetD) (ls : List (List Int)) (w : World) (h : RdNet w A B C n m k N) (hk : k ≤ 9223372036854775807) (hq : RdT w Q L ls) (hL : L ≤ 9223372036854775807) :
    Calls Tryz.prog 17 #[.agg #[.slice A n c, .slice B m d, .slice C k e], .agg #[.slice Q L cq]] w fun e w' => BoolRes (MayOk N ls) e ∧ Below w.heap.size w w' := by
  have HH := Lib.hid h
  have HT := Lib.hid hq
  have HLV := Lib.hid h.1.1
  clear h hq
  go_enter Tryz.func17, Tryz.ntmps17
  go_wp2_with fail
  (refine calls_named ?_; intro w1 hw1)
  have hb1 : Below w.heap.size w w1 := by rw [hw1]; exact (by repeat (first | exact Below.refl _ _ | assumption | apply Below.drew | apply below_drewN | apply Bel.alloc | (refine Bel.setCell_ ?_ ?_; rotate_left; omega) | (refine Bel.step ?_ (by assumption))))
  have hN : Blk w1 w.heap.size 26 #[.slice A n c, .slice B m d, .slice C k e] := by rw [hw1]; exact (by repeat (first | assumption | (refine Blk.new' _ _ _ ?_; first | with_unfolding_all rfl | (simp; done)) | apply Blk.drewN | apply Blk.drew | apply Blk.alloc | (refine Blk.far_ ?_ ?_ _; rotate_left; omega)))
  have hQ : Blk w1 (w.heap.size + 1) 29 #[.slice Q L cq] := by rw [hw1]; exact (by repeat (first | assumption | (refine Blk.new' _ _ _ ?_; first | with_unfolding_all rfl | (simp; done)) | apply Blk.drewN | apply Blk.drew | apply Blk.alloc | (refine Blk.far_ ?_ ?_ _; rotate_left; omega)))
  clear hw1
  with_reducible refine (small_any A B C n m k c d e N w1 (HH.out.below hb1) hk).mono ?_
  rintro r w2 ⟨⟨bb, rfl, hf⟩, hb2⟩
  have hbw2 := Bel.step hb1 hb2
  have y0 := (hQ.below hb2 hQ.lt).cell 0
  simp only [List.getElem?_toArray, List.getElem?_cons_zero] at y0
  obtain ⟨n0, n1, n2⟩ := (hN.below hb2 hN.lt).three
  clear hQ hb2 hN
  cases bb
  · go_wp2_with fail
    go_ret
    exact ⟨⟨false, rfl, fun h => by cases h⟩, hbw2⟩
  have HF := Lib.hid (hf rfl)
  clear hf
  go_wp2_with fail
  with_reducible refine (may13_any Q n L cq ls w2 (HT.out.below hbw2) hL).mono ?_
  rintro r w3 ⟨⟨bb, rfl, hf⟩, hb3⟩
  have HF2 := Lib.hid hf
  have hbw3 := Bel.step hbw2 hb3
  clear hf
  go_wp2_with fail
  go_ret
  exact ⟨⟨bb, rfl, fun h => ⟨HF.out, (HF2.out h).1, by rw [HLV.out]; exact (HF2.out h).2.2⟩⟩, hbw3⟩
end Go.Proofs.YtgkeolddpielpaaGreatDoor

/- OverOnce: the walk. -/
namespace Go.Proofs.YtgkeolddpielpaaGreatDoor
open Go.RowKit Go.Extern.Stop Go.Stop Go.Extern

attribute [local go_sem ↓] Go.wp_at_zero Go.wp_at_succ

abbrev Quin := Int × Int × Int × Int × Int
/-- A slice of acts reads as l. -/
def RdA (w : World) (A : Option Addr) (n : Nat) (l : List Quin) : Prop :=
  l.length = n ∧ ∀ i x, l[i]? = some x → ∃ b o, A = some ⟨b, o, none⟩ ∧ w.cell? ⟨b, o + i * 5, none⟩ = some (.int .i64 x.1) ∧ w.cell? ⟨b, o + i * 5 + 1, none⟩ = some (.int .i64 x.2.1) ∧ w.cell? ⟨b, o + i * 5 + 2, none⟩ = some (.int .i64 x.2.2.1) ∧ w.cell? ⟨b, o + i * 5 + 3, none⟩ = some (.int .i64 x.2.2.2.1) ∧ w.cell? ⟨b, o + i * 5 + 4, none⟩ = some (.int .i64 x.2.2.2.2)
theorem RdA.at_ {w : World} {A : Option Addr} {n i : Nat} {l : List Quin} (h : RdA w A n l) (hi : i < n) :
    ∃ b o x y z u v, A = some ⟨b, o, none⟩ ∧ w.cell? ⟨b, o + i * 5, none⟩ = some (.int .i64 x) ∧ w.cell? ⟨b, o + i * 5 + 1, none⟩ = some (.int .i64 y) ∧ w.cell? ⟨b, o + i * 5 + 2, none⟩ = some (.int .i64 z) ∧ w.cell? ⟨b, o + i * 5 + 3, none⟩ = some (.int .i64 u) ∧ w.cell? ⟨b, o + i * 5 + 4, none⟩ = some (.int .i64 v) := by
  have hl : i < l.length := by rw [h.1]; exact hi
  obtain ⟨b, o, e, hc⟩ := h.2 i _ (List.getElem?_eq_getElem hl)
  exact ⟨b, o, _, _, _, _, _, e, hc⟩
theorem KeptZ.setNew {G : Nat → Prop} {V W : World} (h : KeptZ G V W) {g : Nat} (hg : V.heap.size ≤ g) (i : Nat) (v : Value) : KeptZ G V (W.setCell ⟨g, i, none⟩ v) :=
  ⟨fun b hb hl => ((Kept.set (G := fun b => b ≠ g) W g i v (fun h => h rfl)) b (by omega) (Nat.lt_of_lt_of_le hl h.2)).trans (h.1 b hb hl), Nat.le_trans h.2 (by simp [World.setCell])⟩
theorem sumS_small {ar : List Tri} {l : List Int} {j n : Nat} (ha : ar.length ≤ 90) (hl : LvlOk n l) (hn : n ≤ 24) : sumS ((gateRow ar l).take j) ≤ 24 * 8100 := by
  unfold sumS
  refine Nat.le_trans (sum_le (b := 8100) (fun y hy => ?_)) ?_
  · obtain ⟨x, hx, rfl⟩ := List.mem_map.1 hy
    obtain ⟨c, hc⟩ := List.getElem?_of_mem (List.mem_of_mem_take hx)
    have h1 := gate_in_le hc
    unfold szG
    exact Nat.mul_le_mul (Nat.le_trans h1.1 ha) (Nat.le_trans h1.2 ha)
  · refine Nat.mul_le_mul_right _ ?_
    rw [List.length_map, List.length_take, gateRow_len]
    have := mostN_le (l := l) (n := (n : Int)) (fun x hx => hl.hi x hx) (by omega)
    omega
theorem sumA_small {ar : List Tri} {ls : List (List Int)} {n : Nat} (ha : ar.length ≤ 90) (hP : PartOk n ls) (hn : n ≤ 24) : sumA (gatesOf ar ls) ≤ 6 * (24 * 8100) := by
  unfold sumA
  refine Nat.le_trans (sum_le (b := 24 * 8100) (fun y hy => ?_)) ?_
  · obtain ⟨row, hrow, rfl⟩ := List.mem_map.1 hy
    unfold gatesOf at hrow
    obtain ⟨l, hl, rfl⟩ := List.mem_map.1 hrow
    have := sumS_small (j := (gateRow ar l).length) ha (hP.lvl l hl) hn
    rw [List.take_length] at this
    exact this
  · refine Nat.mul_le_mul_right _ ?_
    rw [List.length_map]
    unfold gatesOf
    rw [List.length_map]
    exact hP.l6

set_option maxRecDepth 20000 in
set_option maxHeartbeats 2000000 in
theorem overOnce_walk (A B C Q R : Option Addr) (n m k c d e L cq la ca : Nat) (N : NetD) (ls : List (List Int)) (ac : List Quin) (w : World) (h : RdNet w A B C n m k N) (hk : k ≤ 9223372036854775807) (hq : RdT w Q L ls) (hL : L ≤ 9223372036854775807) (ha : RdA w R la ac) (hla : la ≤ 9223372036854775807) (hg : w.cell? ⟨0, 0, none⟩ = some errT) :
    Calls Tryz.prog 4 #[.agg #[.slice A n c, .slice B m d, .slice C k e], .agg #[.slice Q L cq], .slice R la ca] w fun r w' => r = .returned (.bool true) ∧ Below w.heap.size w w' := by
  have HH := Lib.hid h
  have HT := Lib.hid hq
  have HAC := Lib.hid ha
  have HG := Lib.hid hg
  have hg0 := lt_of_cell hg
  simp only at hg0
  clear h hq ha hg
  go_enter Tryz.func4, Tryz.ntmps4
  go_wp2_with fail
  (refine calls_named ?_; intro w1 hw1)
  have hb1 : Below w.heap.size w w1 := by rw [hw1]; exact (by repeat (first | exact Below.refl _ _ | assumption | apply Below.drew | apply below_drewN | apply Bel.alloc | (refine Bel.setCell_ ?_ ?_; rotate_left; omega) | (refine Bel.step ?_ (by assumption))))
  have hX : Blk w1 w.heap.size 26 #[.slice A n c, .slice B m d, .slice C k e] := by rw [hw1]; exact (by repeat (first | assumption | (refine Blk.new' _ _ _ ?_; first | with_unfolding_all rfl | (simp; done)) | apply Blk.drewN | apply Blk.drew | apply Blk.alloc | (refine Blk.far_ ?_ ?_ _; rotate_left; omega)))
  have hY : Blk w1 (w.heap.size + 1) 29 #[.slice Q L cq] := by rw [hw1]; exact (by repeat (first | assumption | (refine Blk.new' _ _ _ ?_; first | with_unfolding_all rfl | (simp; done)) | apply Blk.drewN | apply Blk.drew | apply Blk.alloc | (refine Blk.far_ ?_ ?_ _; rotate_left; omega)))
  clear hw1
  with_reducible refine (known17_ok w1).mono ?_
  rintro r w2 ⟨rfl, hb2⟩
  have hX2 := hX.below hb2 hX.lt
  have hY2 := hY.below hb2 hY.lt
  have hb2' := Bel.step hb1 hb2
  clear hX hY hb1 hb2
  obtain ⟨x0, x1, x2⟩ := hX2.three
  have y0 := hY2.cell 0
  simp only [List.getElem?_toArray, List.getElem?_cons_zero] at y0
  go_wp2_with fail
  with_reducible refine (may15_any A B C Q n m k c d e L cq N ls w2 (HH.out.below hb2') hk (HT.out.below hb2') hL).mono ?_
  rintro r w3 ⟨hr, hb3⟩
  have hb3' := Bel.step hb2' hb3
  have hX3 := hX2.below hb3 hX2.lt
  have hY3 := hY2.below hb3 hY2.lt
  clear x0 x1 x2 y0 hX2 hY2 hb2' hb3
  obtain ⟨b, rfl, hG⟩ := hr
  cases b with
  | false =>
    clear hG
    go_wp2_with fail
    go_ret
    exact ⟨rfl, hb3'⟩
  | true =>
  have hmay := hG rfl
  clear hG
  have HMAY := Lib.hid hmay
  have l6 : L ≤ 6 := by rw [← HT.out.1]; exact hmay.part.l6
  clear hmay
  obtain ⟨x0, x1, x2⟩ := hX3.three
  by_cases h12 : (la : Int) > 12
  · go_wp2_with fail
    go_ret
    exact ⟨rfl, hb3'⟩
  go_wp2_with fail
  with_reducible refine (made8_ok A B C n m k c d e N w3 (HH.out.below hb3') HMAY.out.small.ok).mono ?_
  rintro r w4 ⟨g, rfl, hgr, hb4⟩
  have hb4' := Bel.step hb3' hb4
  have hX4 := hX3.below hb4 hX3.lt
  have hY4 := hY3.below hb4 hY3.lt
  have hnr : RdNet (msk w4 (fun b => ¬ (w3.heap.size ≤ b ∧ b < w4.heap.size) ∧ b ≠ w.heap.size)) A B C n m k N := HH.out.le (fun a v hc => by
    have := lt_of_cell hc
    have h1 := hb3'.size
    exact msk_cell.2 ⟨⟨by omega, by omega⟩, Below.cellOf hb4' (Nat.le_refl _) hc⟩)
  have hz3 : w.heap.size + 2 ≤ w3.heap.size := by have := hY3.lt; omega
  have HF := Lib.hid HMAY.out.small.few
  have HNV := Lib.hid (show N.vs.length = n from HH.out.1.1)
  have HNA := Lib.hid (show N.ar.length = m from HH.out.2.1.1)
  have hm90 : m ≤ 90 := by rw [← HNA.out]; exact HMAY.out.small.a
  have hn24 : n ≤ 24 := by rw [← HNV.out]; exact HMAY.out.small.v
  have HPT := Lib.hid (show PartOk n ls by rw [← HNV.out]; exact HMAY.out.part)
  clear x0 x1 x2 hX3 hY3 hb4 hb3' HH HMAY HNV HNA
  go_wp2_with fail
  go_loopw [8] (fun q W => Below w.heap.size w W ∧ Blk W (w.heap.size + 1) 29 #[.slice Q L cq] ∧ ∃ (i : Nat) (N : NetD) (F : Nat → Prop) (A' B' C' : Option Addr) (c' d' e' : Nat), i ≤ la ∧ q = .int .i64 i ∧ Blk W w.heap.size 26 #[.slice A' n c', .slice B' m d', .slice C' k e'] ∧ GrO W F g N ∧ (∀ b, F b → w3.heap.size ≤ b) ∧ RdNet (msk W (fun b => ¬ F b ∧ b ≠ w.heap.size)) A' B' C' n m k N ∧ FewOk N) (fun q _ => la - (intOf q).toNat)
  case atStart => exact ⟨hb4', hY4, 0, N, _, A, B, C, c, d, e, Nat.zero_le _, rfl, hX4, hgr, fun b hb => hb.1, hnr, HF.out⟩
  case round =>
    clear hb4' hX4 hY4 hnr hgr HF
    obtain ⟨hbl, hY, i, N, F, A', B', C', c', d', e', hi, rfl, hX, hgr, hF3, hnr, hfew⟩ := hrel
    obtain ⟨x0, x1, x2⟩ := hX.three
    by_cases hlt : i < la
    · obtain ⟨ab, ao, kd, a1, a2, a3, a4, rfl, q0, q1, q2, q3, q4⟩ := HAC.out.at_ hlt
      have i1 : (0 : Int) ≤ (i : Int) := by omega
      have i2 : (i : Int) < (la : Int) := by omega
      have hab := lt_of_cell q0
      simp only at hab
      have hX' := hX
      have hnF : ∀ b, b < w3.heap.size → ¬ F b := fun b hb hf => by have := hF3 b hf; omega
      have hHSX : ∀ X, KeptZ (fun b => ¬ F b) wr X → X.cell? ⟨w.heap.size, 0, none⟩ = some (.slice A' n c') ∧ X.cell? ⟨w.heap.size, 1, none⟩ = some (.slice B' m d') ∧ X.cell? ⟨w.heap.size, 2, none⟩ = some (.slice C' k e') ∧
          X.cell? ⟨ab, ao + i * 5, none⟩ = some (.int .i64 kd) ∧ X.cell? ⟨ab, ao + i * 5 + 1, none⟩ = some (.int .i64 a1) ∧ X.cell? ⟨ab, ao + i * 5 + 2, none⟩ = some (.int .i64 a2) ∧ X.cell? ⟨ab, ao + i * 5 + 3, none⟩ = some (.int .i64 a3) ∧ X.cell? ⟨ab, ao + i * 5 + 4, none⟩ = some (.int .i64 a4) := fun X hX => by
        obtain ⟨h0, h1, h2⟩ := (hX.blk hX' (hnF _ (by omega))).three
        have ha := hX.1 ab (hnF _ (by omega)) (by have := hbl.size; omega)
        exact ⟨h0, h1, h2, cell_keep ha (Below.cellOf hbl (Nat.le_refl _) q0), cell_keep ha (Below.cellOf hbl (Nat.le_refl _) q1), cell_keep ha (Below.cellOf hbl (Nat.le_refl _) q2), cell_keep ha (Below.cellOf hbl (Nat.le_refl _) q3), cell_keep ha (Below.cellOf hbl (Nat.le_refl _) q4)⟩
      have HSX := Lib.hid hHSX
      have HDO := Lib.hid (show ∀ V, Below wr.heap.size wr V → Calls Tryz.prog 18 #[.pointer (some ⟨g, 0, none⟩), .agg #[.slice A' n c', .slice B' m d', .slice C' k e'], .agg #[.int .i64 kd, .int .i64 a1, .int .i64 a2, .int .i64 a3, .int .i64 a4]] V (DoP V F (fun b => b ≠ wr.heap.size ∧ b ≠ w.heap.size) g n m k) from fun V hV =>
        do_any g A' B' C' n m k c' d' e' kd a1 a2 a3 a4 N F _ V (hgr.below hV) (hnr.le (fun a v hc => by
          obtain ⟨h1, h2⟩ := msk_cell.1 hc
          have := lt_of_cell h2
          exact msk_cell.2 ⟨⟨h1.1, by omega, h1.2⟩, Below.cellOf hV (Nat.le_refl _) h2⟩)) hfew (Below.cellOf (Bel.step hbl hV) (Nat.le_refl _) HG.out) (fun b hb => by have := hF3 b hb; omega))
      have HLT := Lib.hid (show ∀ b, F b → b < wr.heap.size from fun b hb => hgr.lt hb)
      have HF3 := Lib.hid hF3
      have hzr : w3.heap.size ≤ wr.heap.size := by
        obtain ⟨G, A9, B9, C9, I9, O9, P9, n9, m9, k9, _, _, _, _, _, _, h9⟩ := hgr
        have h1 := hF3 g (h9.sub g (.inl h9.gg))
        have h2 := h9.blk.lt
        omega
      clear x0 x1 x2 q0 q1 q2 q3 q4 hHSX hgr hnr hfew hF3 hnF
      go_wp2_with fail
      refine wp_region_held_drew (S := fun X => KeptZ (fun b => ¬ F b) wr X) (by kernel_rfl) ⟨Kept.refl _ _, Nat.le_refl _⟩ (fun _ => ?_)
      refine take_ (i := 0) (d := some 43) (v := ?_) rfl rfl (by kernel_rfl) (by kernel_rfl) (by kernel_rfl) (fun _ _ _ h => h) (by rfl) ?_ (by first | rfl | trivial | assumption) ?_
      rotate_left
      · (intro V hSw; (try (have hF := HSX.out V hSw)); (try (cases hSw)); (try go_split_ands); go_simp; try with_reducible rfl)
      simp only [Act.put, List.setIfInBounds_toArray, List.set_cons_zero, List.set_cons_succ]
      refine take_ (i := 1) (d := some 44) (v := ?_) rfl rfl (by kernel_rfl) (by kernel_rfl) (by kernel_rfl) (fun _ _ _ h => h) (by rfl) ?_ (by first | rfl | trivial | assumption) ?_
      rotate_left
      · (intro V hSw; (try (have hF := HSX.out V hSw)); (try (cases hSw)); (try go_split_ands); go_simp; try with_reducible rfl)
      simp only [Act.put, List.setIfInBounds_toArray, List.set_cons_zero, List.set_cons_succ]
      refine take_ (i := 2) (d := some 45) (v := ?_) rfl rfl (by kernel_rfl) (by kernel_rfl) (by kernel_rfl) (fun _ _ _ h => h) (by rfl) ?_ (by first | rfl | trivial | assumption) ?_
      rotate_left
      · (intro V hSw; (try (have hF := HSX.out V hSw)); (try (cases hSw)); (try go_split_ands); go_simp; try with_reducible rfl)
      simp only [Act.put, List.setIfInBounds_toArray, List.set_cons_zero, List.set_cons_succ]
      refine take_ (i := 3) (d := some 46) (v := ?_) rfl rfl (by kernel_rfl) (by kernel_rfl) (by kernel_rfl) (fun _ _ _ h => h) (by rfl) ?_ (by first | rfl | trivial | assumption) ?_
      rotate_left
      · (intro V hSw; (try (have hF := HSX.out V hSw)); (try (cases hSw)); (try go_split_ands); go_simp; try with_reducible rfl)
      simp only [Act.put, List.setIfInBounds_toArray, List.set_cons_zero, List.set_cons_succ]
      refine take_ (i := 4) (d := some 47) (v := ?_) rfl rfl (by kernel_rfl) (by kernel_rfl) (by kernel_rfl) (fun _ _ _ h => h) (by rfl) ?_ (by first | rfl | trivial | assumption) ?_
      rotate_left
      · (intro V hSw; (try (have hF := HSX.out V hSw)); (try (cases hSw)); (try go_split_ands); go_simp; try with_reducible rfl)
      simp only [Act.put, List.setIfInBounds_toArray, List.set_cons_zero, List.set_cons_succ]
      refine take_ (i := 5) (d := some 48) (v := ?_) rfl rfl (by kernel_rfl) (by kernel_rfl) (by kernel_rfl) (fun _ _ _ h => h) (by rfl) ?_ (by first | rfl | trivial | assumption) ?_
      rotate_left
      · (intro V hSw; (try (have hF := HSX.out V hSw)); (try (cases hSw)); (try go_split_ands); go_simp; try with_reducible rfl)
      simp only [Act.put, List.setIfInBounds_toArray, List.set_cons_zero, List.set_cons_succ]
      refine wpAnyH_ready (rs := [6, 10]) (by kernel_rfl) (by simp) ?_
      refine AllReadyH.cons (o := _) rfl (fun K hK => ?_) (AllReadyH.cons (o := _) rfl (fun K hK => ?_) AllReadyH.nil)
      · go_simp
        with_reducible refine (HDO.out _ (Below.refl _ _).drew).mono ?_
        rintro r w5 ⟨N', A5, B5, C5, c5, d5, e5, F', rfl, hgr5, hnr5, hfew5, hFF, hk5, hz5, hb5⟩
        have hk5 : Kept (fun b => ¬ F b) wr w5 := hk5
        have hz5 : wr.heap.size ≤ w5.heap.size := hz5
        go_wp2_with fail
        refine hK.out _ _ ⟨hk5, hz5⟩ (fun _ => ?_)
        clear hK K
        refine take_ (i := 7) (d := some 42) (v := ?_) rfl rfl (by kernel_rfl) (by kernel_rfl) (by kernel_rfl) (fun _ _ _ h => h) (by rfl) ?_ (by first | rfl | trivial | assumption) ?_
        rotate_left
        · (intro V hSw; (try (have hF := HSX.out V hSw)); (try (cases hSw)); (try go_split_ands); go_simp; try with_reducible rfl)
        simp only [Act.put, List.setIfInBounds_toArray, List.set_cons_zero, List.set_cons_succ]
        refine take_ (i := 8) (d := some 50) (v := ?_) rfl rfl (by kernel_rfl) (by kernel_rfl) (by kernel_rfl) (fun _ _ _ h => h) (by rfl) ?_ (by first | rfl | trivial | assumption) ?_
        rotate_left
        · (intro V hSw; (try (have hF := HSX.out V hSw)); (try (cases hSw)); (try go_split_ands); go_simp; try with_reducible rfl)
        simp only [Act.put, List.setIfInBounds_toArray, List.set_cons_zero, List.set_cons_succ]
        refine take_ (i := 9) (d := some 51) (v := ?_) rfl rfl (by kernel_rfl) (by kernel_rfl) (by kernel_rfl) (fun _ _ _ h => h) (by rfl) ?_ (by first | rfl | trivial | assumption) ?_
        rotate_left
        · (intro V hSw; (try (have hF := HSX.out V hSw)); (try (cases hSw)); (try go_split_ands); go_simp; try with_reducible rfl)
        simp only [Act.put, List.setIfInBounds_toArray, List.set_cons_zero, List.set_cons_succ]
        have hgl5 : ∀ b, F' b → b < w5.heap.size := fun b hb => hgr5.lt hb
        have hbw5 : Below w.heap.size w w5 := hbl.trans ((Below.refl _ _).drew.trans (hb5 w.heap.size (by have := hbl.size; exact this) (fun b hb => by have := HF3.out b hb; omega)))
        obtain ⟨w6, hw6⟩ : ∃ X, X = w5.alloc (.cells #[.slice none 0 0, .slice none 0 0, .slice none 0 0] 26) := ⟨_, rfl⟩
        have hb56 : Below w5.heap.size w5 w6 := by rw [hw6]; exact Bel.alloc (Below.refl _ _)
        have hk6 : KeptZ (fun b => ¬ F b) wr w6 := KeptZ.step ⟨hk5, hz5⟩ hb56
        obtain ⟨gt, hgtd⟩ : ∃ x, x = w5.heap.size := ⟨_, rfl⟩
        have hgt6 : Blk w6 gt 26 #[.slice none 0 0, .slice none 0 0, .slice none 0 0] := by rw [hw6, hgtd]; exact Blk.new _ _ _
        have hFgt : ¬ F' gt := fun hf => by have := hgl5 gt hf; omega
        have hgr6 : GrO w6 F' g N' := hgr5.below hb56
        have hF36 : ∀ b, F' b → w3.heap.size ≤ b := fun b hb => by
          rcases hFF b hb with h | h
          · exact HF3.out b h
          · exact Nat.le_trans hzr h
        have hb6 : Below w.heap.size w w6 := Bel.step hbw5 hb56
        have hgtz : wr.heap.size ≤ gt := by omega
        have hnr6 : RdNet (msk w6 (fun b => ¬ F' b ∧ b ≠ gt ∧ b ≠ w.heap.size)) A5 B5 C5 n m k N' := hnr5.le (fun a v hc => by
          obtain ⟨⟨h1, h2⟩, h3⟩ := msk_cell.1 hc
          have h4 := lt_of_cell h3
          have h5 : a.block ≠ w.heap.size := by
            rcases h2 with h2 | h2
            · exact h2.2
            · have h6 : wr.heap.size ≤ a.block := h2
              have := hbl.size; have := hX'.lt; omega
          exact msk_cell.2 ⟨⟨h1, by omega, h5⟩, Below.cellOf hb56 (Nat.le_refl _) h3⟩)
        refine wpAnyH_ready (rs := [10]) (by kernel_rfl) (by simp) ?_
        refine AllReadyH.cons (o := _) rfl (fun K hK => ?_) AllReadyH.nil
        go_simp
        rw [← hw6, ← hgtd]
        refine hK.out _ _ hk6 (fun _ => ?_)
        clear hK K hw6 hgtd hb56 hgr5 hnr5 hk5 hz5 hb5 hgl5 hbw5 hFF
        obtain ⟨k0, k1, k2⟩ := hgt6.three
        have fk0 := hgt6.frozen 0
        have fk1 := hgt6.frozen 1
        have fk2 := hgt6.frozen 2
        obtain ⟨w7, hw7⟩ : ∃ X, X = ((w6.setCell ⟨gt, 0, none⟩ (.slice A5 n c5)).setCell ⟨gt, 1, none⟩ (.slice B5 m d5)).setCell ⟨gt, 2, none⟩ (.slice C5 k e5) := ⟨_, rfl⟩
        have hk7 : KeptZ (fun b => ¬ F b) wr w7 := by rw [hw7]; exact ((hk6.setNew hgtz _ _).setNew hgtz _ _).setNew hgtz _ _
        have hS7 : KeptZ (fun b => b ≠ gt) w6 w7 := by rw [hw7]; exact (((KeptZ.refl _ _).set (by simp) _ _).set (by simp) _ _).set (by simp) _ _
        have hgt7 : Blk w7 gt 26 #[.slice A5 n c5, .slice B5 m d5, .slice C5 k e5] := by rw [hw7]; exact ((hgt6.set_ 0 _).set_ 1 _).set_ 2 _
        have hgw : w.heap.size + 2 ≤ gt := by omega
        have hb7 : Below w.heap.size w w7 := by rw [hw7]; exact ((hb6.setCell (by simp only; omega) _).setCell (by simp only; omega) _).setCell (by simp only; omega) _
        have hgr7 : GrO w7 F' g N' := hgr6.keep hS7.2 (fun b hb hl => hS7.1 b (fun e => hFgt (by rw [← e]; exact hb)) hl)
        have hnr7 : RdNet (msk w7 (fun b => ¬ F' b ∧ b ≠ gt ∧ b ≠ w.heap.size)) A5 B5 C5 n m k N' := hnr6.le (Kept.msk (fun b hb hl => hS7.1 b hb.2.1 hl))
        have hX7 : Blk w7 w.heap.size 26 #[.slice A' n c', .slice B' m d', .slice C' k e'] := hk7.blk hX' (fun hf => by have := HF3.out _ hf; omega)
        have hY7 : Blk w7 (w.heap.size + 1) 29 #[.slice Q L cq] := hk7.blk hY (fun hf => by have := HF3.out _ hf; omega)
        refine wpAnyH_ready (rs := [11]) (by kernel_rfl) (by simp) ?_
        refine AllReadyH.cons (o := _) rfl (fun K hK => ?_) AllReadyH.nil
        go_simp
        rw [← hw7]
        refine hK.out _ _ hk7 (fun _ => ?_)
        clear hK K hw7 hk6 hgt6 hgr6 hnr6 hb6 k0 k1 k2 fk0 fk1 fk2
        refine take_ (i := 12) (d := some 10) (v := ?_) rfl rfl (by kernel_rfl) (by kernel_rfl) (by kernel_rfl) (fun _ _ _ h => h) (by rfl) ?_ (by first | rfl | trivial | assumption) ?_
        rotate_left
        · (intro V hSw; (try (have hF := HSX.out V hSw)); (try (cases hSw)); (try go_split_ands); go_simp; try with_reducible rfl)
        simp only [Act.put, List.setIfInBounds_toArray, List.set_cons_zero, List.set_cons_succ]
        refine wpAnyH_done (by kernel_rfl) ?_ _
        obtain ⟨k0, k1, k2⟩ := hgt7.three
        obtain ⟨x0, x1, x2⟩ := hX7.three
        have fx0 := hX7.frozen 0
        have fx1 := hX7.frozen 1
        have fx2 := hX7.frozen 2
        have HX7 := Lib.hid hX7
        have HY7 := Lib.hid hY7
        have HGR7 := Lib.hid hgr7
        have HNR7 := Lib.hid hnr7
        have HB7 := Lib.hid hb7
        have HF36 := Lib.hid hF36
        clear hX7 hY7 hgr7 hnr7 hb7 hk7 hS7 hgt7 HSX HDO hF36
        go_wp2_with fail
        go_roundw
        case rel =>
          have hS8 : KeptZ (fun b => b ≠ w.heap.size) w7 (((w7.setCell ⟨w.heap.size, 0, none⟩ (.slice A5 n c5)).setCell ⟨w.heap.size, 1, none⟩ (.slice B5 m d5)).setCell ⟨w.heap.size, 2, none⟩ (.slice C5 k e5)) := (((KeptZ.refl _ _).set (by simp) _ _).set (by simp) _ _).set (by simp) _ _
          refine ⟨((HB7.out.setCell (Nat.le_refl _) _).setCell (Nat.le_refl _) _).setCell (Nat.le_refl _) _, hS8.blk HY7.out (by omega), i + 1, N', F', A5, B5, C5, c5, d5, e5, by omega, by go_num, ((HX7.out.set_ 0 _).set_ 1 _).set_ 2 _, HGR7.out.keep hS8.2 (fun b hb hl => hS8.1 b (fun e => by have := HF36.out b hb; omega) hl), HF36.out, HNR7.out.le (fun a v hc => ?_), hfew5⟩
          obtain ⟨h1, h3⟩ := msk_cell.1 hc
          exact msk_cell.2 ⟨⟨h1.1, h1.2.2⟩, by rw [World.cell?_of_block (hS8.1 _ h1.2.2 (lt_of_cell h3))]; exact h3⟩
        case measure => simp [intOf]; omega
      · go_simp
        obtain ⟨v5, hv5⟩ : ∃ X, X = (wr.alloc (.cells #[.slice none 0 0, .slice none 0 0, .slice none 0 0] 26)).drew := ⟨_, rfl⟩
        rw [← hv5]
        have hbv : Below wr.heap.size wr v5 := by rw [hv5]; exact ((Below.refl _ _).alloc (Nat.le_refl _) _).drew
        have hzv : v5.heap.size = wr.heap.size + 1 := by rw [hv5]; show (wr.heap.push _).size = _; exact Array.size_push ..
        obtain ⟨gt, hgtd⟩ : ∃ x, x = wr.heap.size := ⟨_, rfl⟩
        have hgt5 : Blk v5 gt 26 #[.slice none 0 0, .slice none 0 0, .slice none 0 0] := by rw [hv5, hgtd]; exact (Blk.new _ _ _).drew
        refine hK.out _ _ ⟨Kept.below hbv, hbv.size⟩ (fun _ => ?_)
        clear hK K hv5
        rw [← hgtd]
        have HGD := Lib.hid hgtd
        clear hgtd
        refine wpAnyH_ready (rs := [6]) (by kernel_rfl) (by simp) ?_
        refine AllReadyH.cons (o := _) rfl (fun K hK => ?_) AllReadyH.nil
        go_simp
        with_reducible refine (HDO.out v5 hbv).mono ?_
        rintro r w6 ⟨N', A5, B5, C5, c5, d5, e5, F', rfl, hgr6, hnr5, hfew5, hFF, hk5, hz5, hb5⟩
        have hgtd := HGD.out
        have hnFgt : ¬ F gt := fun hf => by have := HLT.out gt hf; omega
        have hk6 : KeptZ (fun b => ¬ F b) wr w6 := ⟨(Kept.below hbv).trans hk5 hbv.size, Nat.le_trans hbv.size hz5⟩
        have hgt6 : Blk w6 gt 26 #[.slice none 0 0, .slice none 0 0, .slice none 0 0] := (hk5 gt hnFgt hgt5.lt).trans hgt5
        have hFgt : ¬ F' gt := fun hf => by
          rcases hFF gt hf with h | h
          · exact hnFgt h
          · omega
        have hF36 : ∀ b, F' b → w3.heap.size ≤ b := fun b hb => by
          rcases hFF b hb with h | h
          · exact HF3.out b h
          · omega
        have hb6 : Below w.heap.size w w6 := (Bel.step hbl hbv).trans (hb5 w.heap.size (by have := hbl.size; omega) (fun b hb => by have := HF3.out b hb; omega))
        have hgtz : wr.heap.size ≤ gt := by omega
        have hnr6 : RdNet (msk w6 (fun b => ¬ F' b ∧ b ≠ gt ∧ b ≠ w.heap.size)) A5 B5 C5 n m k N' := hnr5.le (msk_mono (fun b hb => by
          obtain ⟨h1, h2⟩ := hb
          rcases h2 with h2 | h2
          · exact ⟨h1, by rw [hgtd]; exact h2.1, h2.2⟩
          · have := hbl.size; have := hX'.lt
            exact ⟨h1, by omega, by omega⟩))
        clear hgtd
        go_wp2_with fail
        refine hK.out _ _ hk6 (fun _ => ?_)
        clear hK K hgt5 hnr5 hk5 hz5 hb5 hFF hbv hzv hnFgt
        refine take_ (i := 7) (d := some 42) (v := ?_) rfl rfl (by kernel_rfl) (by kernel_rfl) (by kernel_rfl) (fun _ _ _ h => h) (by rfl) ?_ (by first | rfl | trivial | assumption) ?_
        rotate_left
        · (intro V hSw; (try (have hF := HSX.out V hSw)); (try (cases hSw)); (try go_split_ands); go_simp; try with_reducible rfl)
        simp only [Act.put, List.setIfInBounds_toArray, List.set_cons_zero, List.set_cons_succ]
        refine take_ (i := 8) (d := some 50) (v := ?_) rfl rfl (by kernel_rfl) (by kernel_rfl) (by kernel_rfl) (fun _ _ _ h => h) (by rfl) ?_ (by first | rfl | trivial | assumption) ?_
        rotate_left
        · (intro V hSw; (try (have hF := HSX.out V hSw)); (try (cases hSw)); (try go_split_ands); go_simp; try with_reducible rfl)
        simp only [Act.put, List.setIfInBounds_toArray, List.set_cons_zero, List.set_cons_succ]
        refine take_ (i := 9) (d := some 51) (v := ?_) rfl rfl (by kernel_rfl) (by kernel_rfl) (by kernel_rfl) (fun _ _ _ h => h) (by rfl) ?_ (by first | rfl | trivial | assumption) ?_
        rotate_left
        · (intro V hSw; (try (have hF := HSX.out V hSw)); (try (cases hSw)); (try go_split_ands); go_simp; try with_reducible rfl)
        simp only [Act.put, List.setIfInBounds_toArray, List.set_cons_zero, List.set_cons_succ]
        obtain ⟨k0, k1, k2⟩ := hgt6.three
        have fk0 := hgt6.frozen 0
        have fk1 := hgt6.frozen 1
        have fk2 := hgt6.frozen 2
        obtain ⟨w7, hw7⟩ : ∃ X, X = ((w6.setCell ⟨gt, 0, none⟩ (.slice A5 n c5)).setCell ⟨gt, 1, none⟩ (.slice B5 m d5)).setCell ⟨gt, 2, none⟩ (.slice C5 k e5) := ⟨_, rfl⟩
        have hk7 : KeptZ (fun b => ¬ F b) wr w7 := by rw [hw7]; exact ((hk6.setNew hgtz _ _).setNew hgtz _ _).setNew hgtz _ _
        have hS7 : KeptZ (fun b => b ≠ gt) w6 w7 := by rw [hw7]; exact (((KeptZ.refl _ _).set (by simp) _ _).set (by simp) _ _).set (by simp) _ _
        have hgt7 : Blk w7 gt 26 #[.slice A5 n c5, .slice B5 m d5, .slice C5 k e5] := by rw [hw7]; exact ((hgt6.set_ 0 _).set_ 1 _).set_ 2 _
        have hgw : w.heap.size + 2 ≤ gt := by omega
        have hb7 : Below w.heap.size w w7 := by rw [hw7]; exact ((hb6.setCell (by simp only; omega) _).setCell (by simp only; omega) _).setCell (by simp only; omega) _
        have hgr7 : GrO w7 F' g N' := hgr6.keep hS7.2 (fun b hb hl => hS7.1 b (fun e => hFgt (by rw [← e]; exact hb)) hl)
        have hnr7 : RdNet (msk w7 (fun b => ¬ F' b ∧ b ≠ gt ∧ b ≠ w.heap.size)) A5 B5 C5 n m k N' := hnr6.le (Kept.msk (fun b hb hl => hS7.1 b hb.2.1 hl))
        have hX7 : Blk w7 w.heap.size 26 #[.slice A' n c', .slice B' m d', .slice C' k e'] := hk7.blk hX' (fun hf => by have := HF3.out _ hf; omega)
        have hY7 : Blk w7 (w.heap.size + 1) 29 #[.slice Q L cq] := hk7.blk hY (fun hf => by have := HF3.out _ hf; omega)
        refine wpAnyH_ready (rs := [11]) (by kernel_rfl) (by simp) ?_
        refine AllReadyH.cons (o := _) rfl (fun K hK => ?_) AllReadyH.nil
        go_simp
        rw [← hw7]
        refine hK.out _ _ hk7 (fun _ => ?_)
        clear hK K hw7 hk6 hgt6 hgr6 hnr6 hb6 k0 k1 k2 fk0 fk1 fk2
        refine take_ (i := 12) (d := some 10) (v := ?_) rfl rfl (by kernel_rfl) (by kernel_rfl) (by kernel_rfl) (fun _ _ _ h => h) (by rfl) ?_ (by first | rfl | trivial | assumption) ?_
        rotate_left
        · (intro V hSw; (try (have hF := HSX.out V hSw)); (try (cases hSw)); (try go_split_ands); go_simp; try with_reducible rfl)
        simp only [Act.put, List.setIfInBounds_toArray, List.set_cons_zero, List.set_cons_succ]
        refine wpAnyH_done (by kernel_rfl) ?_ _
        obtain ⟨k0, k1, k2⟩ := hgt7.three
        obtain ⟨x0, x1, x2⟩ := hX7.three
        have fx0 := hX7.frozen 0
        have fx1 := hX7.frozen 1
        have fx2 := hX7.frozen 2
        have HX7 := Lib.hid hX7
        have HY7 := Lib.hid hY7
        have HGR7 := Lib.hid hgr7
        have HNR7 := Lib.hid hnr7
        have HB7 := Lib.hid hb7
        have HF36 := Lib.hid hF36
        clear hX7 hY7 hgr7 hnr7 hb7 hk7 hS7 hgt7 HSX HDO hF36
        go_wp2_with fail
        go_roundw
        case rel =>
          have hS8 : KeptZ (fun b => b ≠ w.heap.size) w7 (((w7.setCell ⟨w.heap.size, 0, none⟩ (.slice A5 n c5)).setCell ⟨w.heap.size, 1, none⟩ (.slice B5 m d5)).setCell ⟨w.heap.size, 2, none⟩ (.slice C5 k e5)) := (((KeptZ.refl _ _).set (by simp) _ _).set (by simp) _ _).set (by simp) _ _
          refine ⟨((HB7.out.setCell (Nat.le_refl _) _).setCell (Nat.le_refl _) _).setCell (Nat.le_refl _) _, hS8.blk HY7.out (by omega), i + 1, N', F', A5, B5, C5, c5, d5, e5, by omega, by go_num, ((HX7.out.set_ 0 _).set_ 1 _).set_ 2 _, HGR7.out.keep hS8.2 (fun b hb hl => hS8.1 b (fun e => by have := HF36.out b hb; omega) hl), HF36.out, HNR7.out.le (fun a v hc => ?_), hfew5⟩
          obtain ⟨h1, h3⟩ := msk_cell.1 hc
          exact msk_cell.2 ⟨⟨h1.1, h1.2.2⟩, by rw [World.cell?_of_block (hS8.1 _ h1.2.2 (lt_of_cell h3))]; exact h3⟩
        case measure => simp [intOf]; omega
    · obtain rfl : i = la := by omega
      have hvn : N.vs.length = n := hnr.1.1
      have han : N.ar.length ≤ 90 := by rw [hnr.2.1.1]; exact hm90
      have hnok := hgr.ok
      have HNR := Lib.hid (hnr.le (msk_le wr _))
      have HFW := Lib.hid hfew
      have HNK := Lib.hid hnok
      have HX0 := Lib.hid hX
      have HVN := Lib.hid hvn
      have HAN := Lib.hid han
      have HS0 := Lib.hid (sumA_small (ls := ls) han HPT.out hn24)
      have hRG := hgr.rd
      have y0 := hY.cell 0
      simp only [List.getElem?_toArray, List.getElem?_cons_zero] at y0
      have hcl : ∀ l ∈ ls, l.length ≤ 1000000 := fun l hl => by have := (HPT.out.lvl l hl).len; omega
      clear hX hgr hF3 hnr hfew hnok hvn han x0 x1 x2
      go_wp2_with fail
      with_reducible refine (partTo_any Q L cq ls wr (HT.out.below hbl) (by omega) hcl).mono ?_
      rintro r w5 ⟨Q5, c5, rfl, hq5, _, _, hb5⟩
      have hb5' := Bel.step hbl hb5
      have HRG := Lib.hid (hRG.below hb5)
      have HQ5 := Lib.hid (hq5.le (msk_le _ _))
      clear hq5 hRG hcl
      go_wp2_with fail
      with_reducible refine (overNew_ok g N Q5 L c5 n ls w5 HRG.out HNK.out HQ5.out HPT.out HVN.out).mono ?_
      rintro r w6 ⟨o, rfl, hO, hb6⟩
      have HO := Lib.hid (hO.le (msk_le _ _))
      have hb6' := Bel.step hb5' hb6
      have HB6 := Lib.hid (Bel.step hb5 hb6)
      have HLS := Lib.hid (show ls.length = L from HT.out.1)
      clear hO hb6 hb5 hb5' hY hbl HRG HQ5 y0
      have HLV := Lib.hid (show ∀ V, Below w6.heap.size w6 V → Calls Tryz.prog 16 #[.pointer (some ⟨o, 0, none⟩)] V fun e w' => e = .returned (.int .i64 (L : Int)) ∧ V = w' from fun V hV => by
        have := oLevels_any o N.ar ls V (HO.out.below hV)
        rw [HLS.out] at this
        exact this)
      have HSZ := Lib.hid (fun V (hV : Below w6.heap.size w6 V) => oSize_any o N.ar ls V (HO.out.below hV))
      obtain ⟨gs, hgs⟩ : ∃ gs, gs = gatesOf N.ar ls := ⟨_, rfl⟩
      rw [← hgs] at HSZ HS0
      have HGS := Lib.hid hgs
      have HGL := Lib.hid (show gs.length = L by rw [hgs]; unfold gatesOf; rw [List.length_map]; exact HLS.out)
      clear hgs
      go_wp2_with fail
      go_loopw [13, 14] (fun z q W => Below w6.heap.size w6 W ∧ ∃ j : Nat, j ≤ L ∧ q = .int .i64 ((j : Int) + 1) ∧ z = .int .i64 ((sumA (gs.take j) : Nat) : Int)) (fun _ q _ => L + 1 - (intOf q).toNat)
      case atStart => exact ⟨Below.refl _ _, 0, Nat.zero_le _, rfl, rfl⟩
      case round =>
        obtain ⟨hbl1, j, hj, rfl, rfl⟩ := hrel
        by_cases hjl : j < L
        rotate_left
        · obtain rfl : j = L := by omega
          have i1 : ¬ ((j : Int) + 1 ≤ (j : Int)) := by omega
          rw [List.take_of_length_le (by rw [HGL.out]; exact Nat.le_refl _)]
          obtain ⟨z, hz⟩ : ∃ z : Nat, z = sumA gs := ⟨_, rfl⟩
          rw [← hz] at HSZ ⊢
          have hXr := (HX0.out.below HB6.out HX0.out.lt).below hbl1 (by have := HX0.out.lt; have := HB6.out.size; omega)
          obtain ⟨x0, x1, x2⟩ := hXr.three
          have HMY := Lib.hid (may3_yes A' B' C' n m k c' d' e' N wr ((HNR.out.below HB6.out).below hbl1) HFW.out HNK.out)
          clear hz
          go_wp2_with fail
          with_reducible refine (HLV.out _ hbl1).mono ?_
          rintro e w' ⟨rfl, rfl⟩
          go_wp2_with fail
          with_reducible refine (HSZ.out _ hbl1).mono ?_
          rintro e w' ⟨rfl, rfl⟩
          go_wp2_with fail
          with_reducible refine HMY.out.mono ?_
          rintro e w7 ⟨rfl, hb7⟩
          go_wp2_with fail
          go_ret
          exact ⟨rfl, Bel.step (Bel.step hb6' hbl1) hb7⟩
        have i1 : (j : Int) + 1 ≤ (L : Int) := by omega
        obtain ⟨l, hl⟩ : ∃ l, ls[j]? = some l := ⟨_, List.getElem?_eq_getElem (by rw [HLS.out]; omega)⟩
        have HLJ := Lib.hid hl
        obtain ⟨M, hM⟩ : ∃ M, M = (mostN l).toNat := ⟨_, rfl⟩
        have hMB : M ≤ 24 := by
          have h1 := HPT.out.lvl l (List.mem_of_getElem? hl)
          have h2 := mostN_le (l := l) (n := (n : Int)) (fun x hx => h1.hi x hx) (by omega)
          omega
        have HMM := Lib.hid hM
        have HRW := Lib.hid (show gs[j]? = some (gateRow N.ar l) by rw [HGS.out]; exact gates_get hl)
        have HRL := Lib.hid (show (gateRow N.ar l).length = M by rw [gateRow_len]; exact hM.symm)
        have HCL := Lib.hid (show ∀ V, Below w6.heap.size w6 V → Calls Tryz.prog 19 #[.pointer (some ⟨o, 0, none⟩), .int .i64 ((j : Int) + 1)] V fun e w' => e = .returned (.int .i64 (M : Int)) ∧ V = w' from fun V hV =>
          oCells_ok o j M N.ar ls l V (HO.out.below hV) hl (by rw [HLS.out]; omega) hM.symm)
        obtain ⟨s0, hs0⟩ : ∃ s0, s0 = sumA (gs.take j) := ⟨_, rfl⟩
        have HS00 := Lib.hid hs0
        rw [← hs0]
        have HSB := Lib.hid (fun cc : Nat => show s0 + sumS ((gateRow N.ar l).take cc) ≤ 6 * (24 * 8100) by
          have h1 := sumS_all (gateRow N.ar l) cc
          have h2 := sumA_all gs (j + 1)
          rw [sumA_next HRW.out, ← hs0] at h2
          have h3 := HS0.out
          omega)
        clear hl hM hs0
        go_wp2_with fail
        with_reducible refine (HLV.out _ hbl1).mono ?_
        rintro e w' ⟨rfl, rfl⟩
        go_wp2_with fail
        go_loopw [13, 15] (fun z q W => Below w6.heap.size w6 W ∧ ∃ cc zz : Nat, cc ≤ M ∧ q = .int .i64 (cc : Int) ∧ zz = s0 + sumS ((gateRow N.ar l).take cc) ∧ z = .int .i64 (zz : Int)) (fun _ q _ => M - (intOf q).toNat)
        case atStart => exact ⟨hbl1, 0, s0, Nat.zero_le _, rfl, by simp [sumS], rfl⟩
        case round =>
          obtain ⟨hbl2, cc, zz, hcc, rfl, hzz, rfl⟩ := hrel
          by_cases hcM : cc < M
          rotate_left
          · obtain rfl : cc = M := by omega
            rw [List.take_of_length_le (by rw [HRL.out]; exact Nat.le_refl _)] at hzz
            have HZZ := Lib.hid hzz
            clear hzz
            go_wp2_with fail
            with_reducible refine (HCL.out _ hbl2).mono ?_
            rintro e w' ⟨rfl, rfl⟩
            go_wp2_with fail
            go_roundw
            case rel => exact ⟨hbl2, j + 1, by omega, by go_num, by rw [sumA_next HRW.out, ← HS00.out, ← HZZ.out]⟩
            case measure => simp [intOf]; omega
          · obtain ⟨x, hx⟩ : ∃ x, (gateRow N.ar l)[cc]? = some x := ⟨_, gateRow_get (by rw [← HMM.out]; exact hcM)⟩
            have HX := Lib.hid hx
            have i3 : (cc : Int) < (M : Int) := by omega
            have HGT := Lib.hid (oGate_ok o j cc N.ar ls l x wr (HO.out.below hbl2) HLJ.out (by rw [HLS.out]; omega) hx (by have := HAN.out; omega))
            have HZZ := Lib.hid hzz
            have hzb : zz ≤ 6 * (24 * 8100) := by rw [hzz]; exact HSB.out cc
            clear hx hzz
            go_wp2_with fail
            with_reducible refine (HCL.out _ hbl2).mono ?_
            rintro e w' ⟨rfl, rfl⟩
            go_wp2_with fail
            with_reducible refine HGT.out.mono ?_
            rintro e w5 ⟨A1, n1, c1, A2, n2, c2, rfl, hx1, hx2, hb5⟩
            have hb5' := Bel.step hbl2 hb5
            have hnb1 : n1 ≤ 90 := by rw [← hx1.1]; exact Nat.le_trans (gate_in_le HX.out).1 HAN.out
            have hnb2 : n2 ≤ 90 := by rw [← hx2.1]; exact Nat.le_trans (gate_in_le HX.out).2 HAN.out
            have HN1 := Lib.hid (show x.1.length = n1 from hx1.1)
            have HN2 := Lib.hid (show x.2.length = n2 from hx2.1)
            have HNX := Lib.hid (show s0 + sumS ((gateRow N.ar l).take (cc + 1)) = zz + n1 * n2 by rw [sumS_next HX.out]; unfold szG; rw [hx1.1, hx2.1, HZZ.out]; omega)
            have hprod : zz + n1 * n2 ≤ 6 * (24 * 8100) := by rw [← HNX.out]; exact HSB.out (cc + 1)
            clear HGT hx1 hx2 hb5 hbl2
            go_wp2_with fail
            (refine wp_named ?_; intro w8 hw8)
            have hb8 : Below w5.heap.size w5 w8 := by rw [hw8]; exact Bel.alloc (Below.refl _ _)
            have hB8 : Blk w8 w5.heap.size 60 #[.slice A1 n1 c1, .slice A2 n2 c2] := by
              rw [hw8]
              refine Blk.new' _ _ _ ?_
              rfl
            clear hw8
            have hbw8 := Bel.step hb5' hb8
            clear hb5' hb8
            go_wp2_with fail
            go_loopw [13, 17] (fun z q W => Below w8.heap.size w8 W ∧ ∃ a ya : Nat, a ≤ n1 ∧ q = .int .i64 (a : Int) ∧ ya = zz + a * n2 ∧ z = .int .i64 (ya : Int)) (fun _ q _ => n1 - (intOf q).toNat)
            case atStart => exact ⟨Below.refl _ _, 0, zz, Nat.zero_le _, rfl, by omega, rfl⟩
            case round =>
              obtain ⟨hbl, a, ya, han1, rfl, hya, rfl⟩ := hrel
              have hBr := hB8.below hbl hB8.lt
              obtain ⟨z0, z1, _, _⟩ := hBr.two
              by_cases hlt : a < n1
              rotate_left
              · obtain rfl : n1 = a := by omega
                have HYA := Lib.hid hya
                clear hya
                go_wp2_with fail
                go_roundw
                case rel => exact ⟨Bel.step hbw8 hbl, cc + 1, ya, by omega, by go_num, by rw [HNX.out]; exact HYA.out, rfl⟩
                case measure => simp [intOf]; omega
              · have HYA := Lib.hid hya
                have hle : a * n2 + n2 ≤ n1 * n2 := by
                  have := Nat.mul_le_mul_right n2 (show a + 1 ≤ n1 from hlt)
                  rw [Nat.add_mul, Nat.one_mul] at this
                  exact this
                have hyb : ya + n2 ≤ 6 * (24 * 8100) := by omega
                clear hya hle
                go_wp2_with fail
                clear z0 z1
                go_loopw [13, 18] (fun z q W => Below w8.heap.size w8 W ∧ ∃ b yb : Nat, b ≤ n2 ∧ q = .int .i64 (b : Int) ∧ yb = ya + b ∧ z = .int .i64 (yb : Int)) (fun _ q _ => n2 - (intOf q).toNat)
                case atStart => exact ⟨hbl, 0, ya, Nat.zero_le _, rfl, rfl, rfl⟩
                case round =>
                  clear hbl hBr
                  obtain ⟨hbl, b, yb, hbn, rfl, hybd, rfl⟩ := hrel
                  have hBr := hB8.below hbl hB8.lt
                  obtain ⟨z0, z1, _, _⟩ := hBr.two
                  by_cases hlt2 : b < n2
                  rotate_left
                  · obtain rfl : n2 = b := by omega
                    have HYB := Lib.hid hybd
                    clear hybd
                    go_wp2_with fail
                    go_roundw
                    case rel => exact ⟨hbl, a + 1, yb, by omega, by go_num, by rw [HYB.out, HYA.out, Nat.add_mul, Nat.one_mul]; omega, rfl⟩
                    case measure => simp [intOf]; omega
                  · have hen : enAt (gatesOf N.ar ls) (gateRow N.ar l) j cc x a b = yb := by
                      unfold enAt
                      rw [← HGS.out, ← HS00.out, HN2.out, hybd, HYA.out, HZZ.out]
                      omega
                    have hbo := Bel.step hbw8 hbl
                    have hsm : sumA (gatesOf N.ar ls) ≤ 1000000000000 := by rw [← HGS.out]; have := HS0.out; omega
                    have HWH := Lib.hid (show ∀ V, Below w6.heap.size w6 V → Calls Tryz.prog 21 #[.pointer (some ⟨o, 0, none⟩), .int .i64 (yb : Int)] V fun e w' => e = .returned (.tuple #[.agg #[.int .i64 ((j : Int) + 1), .int .i64 cc, .int .i64 a, .int .i64 b], .bool true]) ∧ Below V.heap.size V w' from fun V hV => by
                      have := where_ok o j cc a b N.ar ls l x V (HO.out.below hV) HLJ.out HX.out (by rw [HN1.out]; exact hlt) (by rw [HN2.out]; exact hlt2) (by rw [HLS.out]; omega) hsm (by rw [← HMM.out]; omega)
                      rw [hen] at this
                      exact this)
                    have HAT := Lib.hid (show ∀ V, Below w6.heap.size w6 V → Calls Tryz.prog 22 #[.pointer (some ⟨o, 0, none⟩), .int .i64 ((j : Int) + 1), .int .i64 cc, .int .i64 a, .int .i64 b] V fun e w' => e = .returned (.int .i64 (yb : Int)) ∧ Below V.heap.size V w' from fun V hV => by
                      have := at_ok o j cc a b N.ar ls l x V (HO.out.below hV) HLJ.out HX.out (by rw [HN1.out]; exact hlt) (by rw [HN2.out]; exact hlt2) (by rw [HLS.out]; omega) hsm
                      rw [hen] at this
                      exact this)
                    have HYB := Lib.hid hybd
                    have hyb9 : yb ≤ 6 * (24 * 8100) := by omega
                    clear hybd hen hsm
                    go_wp2_with fail
                    with_reducible refine (HWH.out _ hbo).mono ?_
                    rintro e w9 ⟨rfl, hb9⟩
                    have hbo9 := Bel.step hbo hb9
                    have hbl9 := Bel.step hbl hb9
                    clear hb9 hbo HWH z0 z1 hBr hbl
                    go_wp2_with fail
                    (refine calls_named ?_; intro w11 hw11)
                    have hbo11 : Below w6.heap.size w6 w11 := by rw [hw11]; exact Bel.alloc hbo9
                    have hbl11 : Below w8.heap.size w8 w11 := by rw [hw11]; exact Bel.alloc hbl9
                    clear hw11
                    with_reducible refine (HAT.out _ hbo11).mono ?_
                    rintro e w10 ⟨rfl, hb10⟩
                    have hbl10 := Bel.step hbl11 hb10
                    clear hbo11 hbl11 hb10 hbo9 hbl9
                    go_wp2_with fail
                    go_roundw
                    case rel => exact ⟨hbl10, b + 1, yb + 1, by omega, by go_num, by rw [HYB.out]; omega, by go_num⟩
                    case measure => simp [intOf]; omega
end Go.Proofs.YtgkeolddpielpaaGreatDoor
