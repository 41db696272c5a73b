/- What Over tells: levels, cells, gates. -/
import Derived.Test.YtgkeolddpielpaaGreatOv
import Derived.Test.YtgkeolddpielpaaGreatLs
import Derived.Test.YtgkeolddpielpaaGreatShelf
namespace Go.Proofs.YtgkeolddpielpaaGreat
open Go.RowKit

attribute [local go_sem ↓] Go.wp_at_zero Go.wp_at_succ

theorem oLevels_any (o : Nat) (ar : List Tri) (ls : List (List Int)) (w : World) (h : RdOv w o ar ls) : Calls Tryz.prog 10 #[.pointer (some ⟨o, 0, none⟩)] w fun e w' => e = .returned (.int .i64 (ls.length : Int)) ∧ w = w' := by
  obtain ⟨Q, F, T, G, S, L, m, cq, cf, ct, cg, cs, h⟩ := h
  have h0 := h.n0
  have HL := Lib.hid h.part.1
  clear h
  go_enter Tryz.func10, Tryz.ntmps10
  go_wp2
  go_ret
  exact ⟨ret_int (by rw [HL.out]), rfl⟩
theorem oSize_any (o : Nat) (ar : List Tri) (ls : List (List Int)) (w : World) (h : RdOv w o ar ls) : Calls Tryz.prog 27 #[.pointer (some ⟨o, 0, none⟩)] w fun e w' => e = .returned (.int .i64 ((sumA (gatesOf ar ls) : Nat) : Int)) ∧ w = w' := by
  obtain ⟨Q, F, T, G, S, L, m, cq, cf, ct, cg, cs, h⟩ := h
  have h0 := h.n5
  clear h
  generalize sumA (gatesOf ar ls) = z at *
  go_enter Tryz.func27, Tryz.ntmps27
  go_wp2
  go_ret
  exact ⟨rfl, rfl⟩
theorem gates_get {ar : List Tri} {ls : List (List Int)} {i : Nat} {l : List Int} (h : ls[i]? = some l) : (gatesOf ar ls)[i]? = some (gateRow ar l) := by
  unfold gatesOf
  rw [List.getElem?_map, h]
  rfl
theorem oCells_ok (o i M : Nat) (ar : List Tri) (ls : List (List Int)) (l : List Int) (w : World) (h : RdOv w o ar ls) (hl : ls[i]? = some l) (hL : ls.length ≤ 1000000) (hM : (mostN l).toNat = M) : Calls Tryz.prog 11 #[.pointer (some ⟨o, 0, none⟩), .int .i64 ((i : Int) + 1)] w fun e w' => e = .returned (.int .i64 (M : Int)) ∧ w = w' := by
  obtain ⟨Q, F, T, G, S, L, m, cq, cf, ct, cg, cs, h⟩ := h
  have h0 := h.n3
  have hi : i < L := by rw [← h.part.1]; exact (List.getElem?_eq_some_iff.1 hl).1
  have hLL : L ≤ 1000000 := by rw [← h.part.1]; exact hL
  obtain ⟨row, gb, go_, A, n, c, hrow, rfl, hc, hr, _⟩ := h.gates.at_ hi
  rw [gates_get hl] at hrow
  cases hrow
  have HN := Lib.hid (show n = M by rw [← hr.1, gateRow_len, hM])
  clear hM
  have i1 : (0 : Int) ≤ (i : Int) := by omega
  have i2 : (i : Int) < (L : Int) := by omega
  have i3 : ¬ ((i : Int) + 1 < 1) := by omega
  have i4 : ¬ ((i : Int) + 1 > (L : Int)) := by omega
  have i5 : (i : Int) + 1 - 1 = (i : Int) := by omega
  clear h hl hr hL
  go_enter Tryz.func11, Tryz.ntmps11
  go_wp2
  go_ret
  exact ⟨ret_int (by rw [HN.out]), rfl⟩
theorem oHas_ok (o i k M : Nat) (ar : List Tri) (ls : List (List Int)) (l : List Int) (w : World) (h : RdOv w o ar ls) (hl : ls[i]? = some l) (hL : ls.length ≤ 1000000) (hM : (mostN l).toNat = M) (hk : k < M) : Calls Tryz.prog 39 #[.pointer (some ⟨o, 0, none⟩), .int .i64 ((i : Int) + 1), .int .i64 k] w fun e w' => e = .returned (.bool true) ∧ w = w' := by
  have HC := Lib.hid (oCells_ok o i M ar ls l w h hl hL hM)
  clear h hl hL hM
  have i1 : (0 : Int) ≤ (k : Int) := by omega
  have i2 : (k : Int) < (M : Int) := by omega
  go_enter Tryz.func39, Tryz.ntmps39
  go_wp2_with fail
  with_reducible refine HC.out.mono ?_
  rintro e w' ⟨rfl, rfl⟩
  go_wp2_with fail
  go_ret
  exact ⟨ret_bool (by first | (simp; done) | (simp; omega)), rfl⟩
set_option maxHeartbeats 1000000 in
theorem oGate_ok (o i k : Nat) (ar : List Tri) (ls : List (List Int)) (l : List Int) (x : GateD) (w : World) (h : RdOv w o ar ls) (hl : ls[i]? = some l) (hL : ls.length ≤ 1000000) (hx : (gateRow ar l)[k]? = some x) (ha : ar.length ≤ 1000000) :
    Calls Tryz.prog 12 #[.pointer (some ⟨o, 0, none⟩), .int .i64 ((i : Int) + 1), .int .i64 k] w fun e w' => ∃ A1 n1 c1 A2 n2 c2, e = .returned (.agg #[.slice A1 n1 c1, .slice A2 n2 c2]) ∧ RdI w' A1 n1 x.1 ∧ RdI w' A2 n2 x.2 ∧ Below w.heap.size w w' := by
  have hk : k < (mostN l).toNat := by rw [← gateRow_len ar l]; exact (List.getElem?_eq_some_iff.1 hx).1
  have HH := Lib.hid (show ∀ V, Below w.heap.size w V → Calls Tryz.prog 39 #[.pointer (some ⟨o, 0, none⟩), .int .i64 ((i : Int) + 1), .int .i64 k] V fun e w' => e = .returned (.bool true) ∧ V = w' from fun V hV => oHas_ok o i k _ ar ls l V (h.below hV) hl hL rfl hk)
  obtain ⟨Q, F, T, G, S, L, m, cq, cf, ct, cg, cs, h⟩ := h
  have h0 := h.n3
  have hi : i < L := by rw [← h.part.1]; exact (List.getElem?_eq_some_iff.1 hl).1
  have hLL : L ≤ 1000000 := by rw [← h.part.1]; exact hL
  obtain ⟨row, gb, go_, A, n, c, hrow, rfl, hc, hr, _⟩ := h.gates.at_ hi
  rw [gates_get hl] at hrow
  cases hrow
  have hn : n = (mostN l).toNat := by rw [← hr.1, gateRow_len]
  obtain ⟨y, cb, co, A1, n1, c1, A2, n2, c2, hy, rfl, hc1, hr1, hc2, hr2, _⟩ := hr.at_ (c := k) (by omega)
  rw [hx] at hy
  cases hy
  have hg := gate_in_le hx
  have HR1 := Lib.hid hr1
  have HR2 := Lib.hid hr2
  have hn1 : n1 ≤ 1000000 := by rw [← hr1.1]; omega
  have hn2 : n2 ≤ 1000000 := by rw [← hr2.1]; omega
  have h0a := fun ob => Below.cellOf (show Below w.heap.size w (w.alloc ob) from (by repeat (first | exact Below.refl _ _ | assumption | apply Below.drew | apply below_drewN | apply Bel.alloc | (refine Bel.setCell_ ?_ ?_; rotate_left; omega) | (refine Bel.step ?_ (by assumption))))) (Nat.le_refl _) h0
  have hca := fun ob => Below.cellOf (show Below w.heap.size w (w.alloc ob) from (by repeat (first | exact Below.refl _ _ | assumption | apply Below.drew | apply below_drewN | apply Bel.alloc | (refine Bel.setCell_ ?_ ?_; rotate_left; omega) | (refine Bel.step ?_ (by assumption))))) (Nat.le_refl _) hc
  have hc1a := fun ob => Below.cellOf (show Below w.heap.size w (w.alloc ob) from (by repeat (first | exact Below.refl _ _ | assumption | apply Below.drew | apply below_drewN | apply Bel.alloc | (refine Bel.setCell_ ?_ ?_; rotate_left; omega) | (refine Bel.step ?_ (by assumption))))) (Nat.le_refl _) hc1
  have hc2a := fun ob => Below.cellOf (show Below w.heap.size w (w.alloc ob) from (by repeat (first | exact Below.refl _ _ | assumption | apply Below.drew | apply below_drewN | apply Bel.alloc | (refine Bel.setCell_ ?_ ?_; rotate_left; omega) | (refine Bel.step ?_ (by assumption))))) (Nat.le_refl _) hc2
  have i1 : (0 : Int) ≤ (i : Int) := by omega
  have i2 : (i : Int) < (L : Int) := by omega
  have i5 : (i : Int) + 1 - 1 = (i : Int) := by omega
  have i6 : (0 : Int) ≤ (k : Int) := by omega
  have i7 : (k : Int) < (n : Int) := by omega
  clear h hl hr hL hx hr1 hr2 hn hk
  go_enter Tryz.func12, Tryz.ntmps12
  go_wp2_with fail
  with_reducible refine (HH.out _ (by repeat (first | exact Below.refl _ _ | assumption | apply Below.drew | apply below_drewN | apply Bel.alloc | (refine Bel.setCell_ ?_ ?_; rotate_left; omega) | (refine Bel.step ?_ (by assumption))))).mono ?_
  rintro e w' ⟨rfl, rfl⟩
  go_wp2_with fail
  (refine wp_named ?_; intro w3 hw3)
  have hb3 : Below w.heap.size w w3 := by rw [hw3]; exact (by repeat (first | exact Below.refl _ _ | assumption | apply Below.drew | apply below_drewN | apply Bel.alloc | (refine Bel.setCell_ ?_ ?_; rotate_left; omega) | (refine Bel.step ?_ (by assumption))))
  have hZ : Blk w3 w.heap.size 38 #[.slice none 0 0, .slice none 0 0] := by rw [hw3]; exact (by repeat (first | assumption | (refine Blk.new' _ _ _ ?_; first | with_unfolding_all rfl | (simp; done)) | apply Blk.drewN | apply Blk.drew | apply Blk.alloc | (refine Blk.far_ ?_ ?_ _; rotate_left; omega)))
  have hX : Blk w3 (w.heap.size + 1) 38 #[.slice A1 n1 c1, .slice A2 n2 c2] := by rw [hw3]; exact (by repeat (first | assumption | (refine Blk.new' _ _ _ ?_; first | with_unfolding_all rfl | (simp; done)) | apply Blk.drewN | apply Blk.drew | apply Blk.alloc | (refine Blk.far_ ?_ ?_ _; rotate_left; omega)))
  clear hw3 h0a hca hc1a hc2a
  have HSX := Lib.hid (show ∀ V, Blk V (w.heap.size + 1) 38 #[.slice A1 n1 c1, .slice A2 n2 c2] → V.cell? ⟨w.heap.size + 1, 0, none⟩ = some (.slice A1 n1 c1) ∧ V.cell? ⟨w.heap.size + 1, 1, none⟩ = some (.slice A2 n2 c2) from fun V hV => ⟨hV.two.1, hV.two.2.1⟩)
  refine wp_region_held_drew (S := fun V => Blk V (w.heap.size + 1) 38 #[.slice A1 n1 c1, .slice A2 n2 c2]) (by kernel_rfl) hX.drew (fun _ => ?_)
  refine take_ (i := 0) (d := some 25) (v := ?_) rfl rfl (by kernel_rfl) (by kernel_rfl) (by kernel_rfl) (fun _ _ _ h => h) (by rfl) ?_ (by first | rfl | trivial | assumption) ?_
  rotate_left
  · (intro V hSw; (try (have hF := HSX.out V hSw)); (try (cases hSw)); (try go_split_ands); go_simp; try with_reducible rfl)
  simp only [Act.put, List.setIfInBounds_toArray, List.set_cons_zero, List.set_cons_succ]
  refine take_ (i := 1) (d := some 26) (v := ?_) rfl rfl (by kernel_rfl) (by kernel_rfl) (by kernel_rfl) (fun _ _ _ h => h) (by rfl) ?_ (by first | rfl | trivial | assumption) ?_
  rotate_left
  · (intro V hSw; (try (have hF := HSX.out V hSw)); (try (cases hSw)); (try go_split_ands); go_simp; try with_reducible rfl)
  simp only [Act.put, List.setIfInBounds_toArray, List.set_cons_zero, List.set_cons_succ]
  refine take_ (i := 3) (d := some 28) (v := ?_) rfl rfl (by kernel_rfl) (by kernel_rfl) (by kernel_rfl) (fun _ _ _ h => h) (by rfl) ?_ (by first | rfl | trivial | assumption) ?_
  rotate_left
  · (intro V hSw; (try (have hF := HSX.out V hSw)); (try (cases hSw)); (try go_split_ands); go_simp; try with_reducible rfl)
  simp only [Act.put, List.setIfInBounds_toArray, List.set_cons_zero, List.set_cons_succ]
  refine take_ (i := 4) (d := some 29) (v := ?_) rfl rfl (by kernel_rfl) (by kernel_rfl) (by kernel_rfl) (fun _ _ _ h => h) (by rfl) ?_ (by first | rfl | trivial | assumption) ?_
  rotate_left
  · (intro V hSw; (try (have hF := HSX.out V hSw)); (try (cases hSw)); (try go_split_ands); go_simp; try with_reducible rfl)
  simp only [Act.put, List.setIfInBounds_toArray, List.set_cons_zero, List.set_cons_succ]
  refine wpAnyH_ready (rs := [2]) (by kernel_rfl) (by simp) ?_
  refine AllReadyH.cons (o := _) rfl (fun K hK => ?_) AllReadyH.nil
  go_simp
  with_reducible refine (fresh_any A1 n1 c1 x.1 _ (HR1.out.below (show Below w.heap.size w w3.drew from (by repeat (first | exact Below.refl _ _ | assumption | apply Below.drew | apply below_drewN | apply Bel.alloc | (refine Bel.setCell_ ?_ ?_; rotate_left; omega) | (refine Bel.step ?_ (by assumption)))))) hn1).mono ?_
  rintro e w4 ⟨B1, d1, rfl, ho1, hb4⟩
  have hb34 : Below w3.heap.size w3 w4 := (Below.refl _ w3).drew.trans hb4
  have hX4 := hX.below hb34 hX.lt
  have hZ4 := hZ.below hb34 hZ.lt
  have hb4' := Bel.step hb3 hb34
  clear hb4
  go_wp2_with fail
  refine hK.out _ _ hX4 (fun _ => ?_)
  clear hK K
  refine wpAnyH_ready (rs := [5]) (by kernel_rfl) (by simp) ?_
  refine AllReadyH.cons (o := _) rfl (fun K hK => ?_) AllReadyH.nil
  go_simp
  with_reducible refine (fresh_any A2 n2 c2 x.2 w4 (HR2.out.below hb4') hn2).mono ?_
  rintro e w5 ⟨B2, d2, rfl, ho2, hb5⟩
  have hX5 := hX4.below hb5 hX4.lt
  have hZ5 := hZ4.below hb5 hZ4.lt
  have hb5' := Bel.step hb4' hb5
  have ho1' := ho1.below hb5
  have hz3 := hb34.size
  have hzX := hX.lt
  replace ho1' : Own w5 w3.heap.size 3 1 B1 n1 d1 (icells x.1) := ho1'
  clear ho1 hb5
  go_wp2_with fail
  refine hK.out _ _ hX5 (fun _ => ?_)
  clear hK K
  refine take_ (i := 6) (d := some 31) (v := ?_) rfl rfl (by kernel_rfl) (by kernel_rfl) (by kernel_rfl) (fun _ _ _ h => h) (by rfl) ?_ (by first | rfl | trivial | assumption) ?_
  rotate_left
  · (intro V hSw; (try (have hF := HSX.out V hSw)); (try (cases hSw)); (try go_split_ands); go_simp; try with_reducible rfl)
  simp only [Act.put, List.setIfInBounds_toArray, List.set_cons_zero, List.set_cons_succ]
  obtain ⟨z0, z1, zf0, zf1⟩ := hZ5.two
  refine wpAnyH_ready (rs := [7]) (by kernel_rfl) (by simp) ?_
  refine AllReadyH.cons (o := _) rfl (fun K hK => ?_) AllReadyH.nil
  go_simp
  refine hK.out _ _ ((hX5.far_ (by omega) _).far_ (by omega) _) (fun _ => ?_)
  clear hK K
  refine wpAnyH_done (by kernel_rfl) ?_ _
  have HF1 := Lib.hid (((ho1'.far (grownBy_set w5 w.heap.size 0 (.slice B1 n1 d1)) (.inr (ho1'.ne (by omega)))).far (grownBy_set _ w.heap.size 1 (.slice B2 n2 d2)) (.inr (ho1'.ne (by omega)))).rds.rdI)
  have HF2 := Lib.hid (((ho2.far (grownBy_set w5 w.heap.size 0 (.slice B1 n1 d1)) (.inr (ho2.ne (by omega)))).far (grownBy_set _ w.heap.size 1 (.slice B2 n2 d2)) (.inr (ho2.ne (by omega)))).rds.rdI)
  clear ho1' ho2
  go_wp2_with fail
  refine bodyPost_ret (v := .agg #[.slice B1 n1 d1, .slice B2 n2 d2]) (by simp [results, Tryz.results12, go_sem, z0, z1]) rfl ?_
  exact ⟨B1, n1, d1, B2, n2, d2, rfl, HF1.out, HF2.out, (by repeat (first | exact Below.refl _ _ | assumption | apply Below.drew | apply below_drewN | apply Bel.alloc | (refine Bel.setCell_ ?_ ?_; rotate_left; omega) | (refine Bel.step ?_ (by assumption))))⟩
/-- gate.Place of a row that rises. -/
theorem count_lt {l : List Int} (h : l.Pairwise (· < ·)) {k : Nat} {v : Int} (hk : l[k]? = some v) : l.countP (· < v) = k := by
  induction l generalizing k with
  | nil => simp at hk
  | cons x t ih =>
    rw [List.pairwise_cons] at h
    cases k with
    | zero =>
      simp at hk
      subst hk
      rw [List.countP_eq_zero]
      intro y hy
      rcases List.mem_cons.1 hy with rfl | hy
      · simp
      · have := h.1 y hy
        simp
        omega
    | succ k =>
      simp at hk
      have hx := h.1 v (List.mem_of_getElem? hk)
      rw [List.countP_cons, ih h.2 hk]
      simp [hx]
theorem plI_sorted {l : List Int} (h : l.Pairwise (· < ·)) {k : Nat} {v : Int} (hk : l[k]? = some v) : plI l v = k := by
  refine plI_hit hk (fun j x hj hx e => ?_)
  subst e
  rw [List.pairwise_iff_getElem] at h
  have h1 := (List.getElem?_eq_some_iff.1 hx)
  have h2 := (List.getElem?_eq_some_iff.1 hk)
  have := h j k h1.1 h2.1 hj
  rw [h1.2, h2.2] at this
  omega
set_option maxHeartbeats 400000 in
theorem gPlace_ok (A : Option Addr) (n c : Nat) (l : List Int) (v : Int) (w : World) (h : RdI w A n l) (hs : l.Pairwise (· < ·)) (hn : n ≤ 1000000) :
    Calls Tryz.prog 42 #[.slice A n c, .int .i64 v] w fun e w' => e = .returned (.int .i64 (plI l v)) ∧ Below w.heap.size w w' := by
  have hb : ∃ (p : Nat) (t : Bool), Calls Tryz.prog 74 #[.slice A n c, .int .i64 v] w (fun e w' => e = .returned (.tuple #[.int .i64 (p : Int), .bool t]) ∧ Below w.heap.size w w') ∧ plI l v = if t then (p : Int) else -1 := by
    cases n with
    | zero =>
      have hl : l = [] := List.eq_nil_of_length_eq_zero h.1
      subst hl
      refine ⟨0, false, ?_, by simp [plI_miss]⟩
      refine Calls.mono (show Calls Tryz.prog 74 _ _ _ from Any.slices_BinarySearch_int_empty Tryz.searchL A c v w) ?_
      rintro e w' ⟨rfl, rfl⟩
      exact ⟨rfl, Below.refl _ _⟩
    | succ n =>
      obtain ⟨b, o, x, rfl, hx, hc⟩ := h.at_ (i := 0) (by omega)
      have hcon := Any.slices_BinarySearch_int Tryz.searchL b o (n + 1) c l v w (by rw [h.1]; exact Nat.le_refl _) (by omega) (fun j hj => by
        obtain ⟨b', o', y, e, hy, hc'⟩ := h.at_ (i := j) (by rw [← h.1]; exact hj)
        cases e
        rw [List.getD_eq_getElem?_getD, hy]
        exact hc') (by rw [List.take_of_length_le (by rw [h.1]; exact Nat.le_refl _)]; exact hs.imp (fun h => by omega))
      rw [List.take_of_length_le (by rw [h.1]; exact Nat.le_refl _)] at hcon
      refine ⟨l.countP (· < v), l.contains v, ?_, ?_⟩
      · refine Calls.mono (show Calls Tryz.prog 74 _ _ _ from hcon) ?_
        rintro e w' ⟨rfl, q, rfl⟩
        exact ⟨rfl, below_drewN (Below.refl _ _) q⟩
      · by_cases hm : v ∈ l
        · obtain ⟨k, hk⟩ := List.getElem?_of_mem hm
          rw [plI_sorted hs hk, count_lt hs hk, if_pos (by simpa using hm)]
        · rw [plI_miss hm, if_neg (by simpa using hm)]
  obtain ⟨p, t, hcall, hp⟩ := hb
  have HC := Lib.hid hcall
  have HP := Lib.hid hp
  clear hcall hp h hs
  go_enter Tryz.func42, Tryz.ntmps42
  go_wp2_with fail
  with_reducible refine HC.out.mono ?_
  rintro e w' ⟨rfl, hb⟩
  cases t
  · go_wp2_with fail
    go_ret
    exact ⟨ret_int (by rw [HP.out]; rfl), hb⟩
  · go_wp2_with fail
    go_ret
    exact ⟨ret_int (by rw [HP.out]; rfl), hb⟩
end Go.Proofs.YtgkeolddpielpaaGreat
