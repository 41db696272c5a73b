/- slices.SortFunc, slices.Clone over routes. -/
import Derived.Test.YtjphjbchhhembaaGreatDoorJn3
namespace Go.Proofs.YtjphjbchhhembaaGreatDoor
open Go.RowKit Go.Shelf Go.Lib Go.Sort

attribute [local go_sem ↓] Go.wp_at_zero Go.wp_at_succ

set_option maxHeartbeats 1000000 in
theorem join3_any (A A2 : Option Addr) (n c n2 c2 : Nat) (l l2 : List Int) (w : World) (h : RdI w A n l) (hn0 : n ≠ 0) (h2 : RdI w A2 n2 l2) (hn2 : n2 ≠ 0) :
    Calls Tryz.prog 28 #[.slice A n c, .slice A2 n2 c2] w fun e w' => e = .returned (.int .i64 (cmpI (headI l) (headI l2))) ∧ ∃ q, w' = w.drewN q := by
  obtain ⟨b, o, x, rfl, hx, hc⟩ := h.at_ (show 0 < n by omega)
  obtain ⟨b2, o2, x2, rfl, hx2, hc2⟩ := h2.at_ (show 0 < n2 by omega)
  have HC := Lib.hid (compare_any x x2)
  have HL := Lib.hid (show cmpI (headI l) (headI l2) = cmpI x x2 by rw [headI_at hx, headI_at hx2])
  rw [Nat.add_zero] at hc hc2
  clear h hx h2 hx2
  generalize cmpI x x2 = r at *
  have HSX := Lib.hid (show ∀ V, RowKit.Below w.heap.size w V → V.cell? ⟨b, o, none⟩ = some (.int .i64 x) ∧ V.cell? ⟨b2, o2, none⟩ = some (.int .i64 x2) from
    fun V hb => ⟨Below.cellOf hb (Nat.le_refl _) hc, Below.cellOf hb (Nat.le_refl _) hc2⟩)
  have i4 : (0 : Int) < (n : Int) := by omega
  have i5 : 0 < n := by omega
  have i6 : (0 : Int) < (n2 : Int) := by omega
  have i7 : 0 < n2 := by omega
  clear hn0 hn2
  go_enter Tryz.func28, Tryz.ntmps28
  go_wp2_with fail
  refine wp_region_held_drew (S := fun V => RowKit.Below w.heap.size w V) (by kernel_rfl) (by repeat (first | exact Below.refl _ _ | assumption | apply Below.drew | apply below_drewN | apply Bel.alloc | (refine Bel.setCell_ ?_ ?_; rotate_left; omega) | (refine Bel.step ?_ (by assumption)))) (fun _ => ?_)
  refine take_ (i := 0) (d := some 5) (v := ?_) rfl rfl (by kernel_rfl) (by kernel_rfl) (by kernel_rfl) (fun _ _ _ h => h) (by rfl) ?_ (by first | rfl | trivial | assumption) ?_
  rotate_left
  · (intro V hSw; (try (have hF := HSX.out V hSw)); (try (cases hSw)); (try go_split_ands); go_simp; try with_reducible rfl)
  simp only [Act.put, List.setIfInBounds_toArray, List.set_cons_zero, List.set_cons_succ]
  refine take_ (i := 1) (d := some 6) (v := ?_) rfl rfl (by kernel_rfl) (by kernel_rfl) (by kernel_rfl) (fun _ _ _ h => h) (by rfl) ?_ (by first | rfl | trivial | assumption) ?_
  rotate_left
  · (intro V hSw; (try (have hF := HSX.out V hSw)); (try (cases hSw)); (try go_split_ands); go_simp; try with_reducible rfl)
  simp only [Act.put, List.setIfInBounds_toArray, List.set_cons_zero, List.set_cons_succ]
  refine take_ (i := 2) (d := some 7) (v := ?_) rfl rfl (by kernel_rfl) (by kernel_rfl) (by kernel_rfl) (fun _ _ _ h => h) (by rfl) ?_ (by first | rfl | trivial | assumption) ?_
  rotate_left
  · (intro V hSw; (try (have hF := HSX.out V hSw)); (try (cases hSw)); (try go_split_ands); go_simp; try with_reducible rfl)
  simp only [Act.put, List.setIfInBounds_toArray, List.set_cons_zero, List.set_cons_succ]
  refine take_ (i := 3) (d := some 8) (v := ?_) rfl rfl (by kernel_rfl) (by kernel_rfl) (by kernel_rfl) (fun _ _ _ h => h) (by rfl) ?_ (by first | rfl | trivial | assumption) ?_
  rotate_left
  · (intro V hSw; (try (have hF := HSX.out V hSw)); (try (cases hSw)); (try go_split_ands); go_simp; try with_reducible rfl)
  simp only [Act.put, List.setIfInBounds_toArray, List.set_cons_zero, List.set_cons_succ]
  refine take_ (i := 4) (d := some 9) (v := ?_) rfl rfl (by kernel_rfl) (by kernel_rfl) (by kernel_rfl) (fun _ _ _ h => h) (by rfl) ?_ (by first | rfl | trivial | assumption) ?_
  rotate_left
  · (intro V hSw; (try (have hF := HSX.out V hSw)); (try (cases hSw)); (try go_split_ands); go_simp; try with_reducible rfl)
  simp only [Act.put, List.setIfInBounds_toArray, List.set_cons_zero, List.set_cons_succ]
  refine take_ (i := 5) (d := some 10) (v := ?_) rfl rfl (by kernel_rfl) (by kernel_rfl) (by kernel_rfl) (fun _ _ _ h => h) (by rfl) ?_ (by first | rfl | trivial | assumption) ?_
  rotate_left
  · (intro V hSw; (try (have hF := HSX.out V hSw)); (try (cases hSw)); (try go_split_ands); go_simp; try with_reducible rfl)
  simp only [Act.put, List.setIfInBounds_toArray, List.set_cons_zero, List.set_cons_succ]
  refine wpAnyH_ready (rs := [6]) (by kernel_rfl) (by simp) ?_
  refine AllReadyH.cons (o := _) rfl (fun K hK => ?_) AllReadyH.nil
  go_simp
  go_at_call 29
  with_reducible refine (HC.out _).mono ?_
  rintro e w' ⟨rfl, rfl⟩
  go_wp2_with fail
  refine hK.out _ _ (by repeat (first | exact Below.refl _ _ | assumption | apply Below.drew | apply below_drewN | apply Bel.alloc | (refine Bel.setCell_ ?_ ?_; rotate_left; omega) | (refine Bel.step ?_ (by assumption)))) (fun _ => ?_)
  clear hK K
  refine take_ (i := 7) (d := some 4) (v := ?_) rfl rfl (by kernel_rfl) (by kernel_rfl) (by kernel_rfl) (fun _ _ _ h => h) (by rfl) ?_ (by first | rfl | trivial | assumption) ?_
  rotate_left
  · (intro V hSw; (try (have hF := HSX.out V hSw)); (try (cases hSw)); (try go_split_ands); go_simp; try with_reducible rfl)
  simp only [Act.put, List.setIfInBounds_toArray, List.set_cons_zero, List.set_cons_succ]
  refine wpAnyH_done (by kernel_rfl) ?_ _
  go_wp2_with fail
  go_ret
  exact ⟨ret_int HL.out.symm, 1, rfl⟩

theorem extract_all {α : Type} (a : Array α) {n : Nat} (h : a.size = n) : a.extract 0 n = a := by subst h; simp

/-- The rows, by their first stops. -/
theorem sortRows (g N c B : Nat) (rs : List (List Int)) (w : World) (h : Rts w g N rs) (hne : ∀ r ∈ rs, r ≠ []) (hd : rs.Pairwise (fun a b => headI a ≠ headI b)) (hN : N ≤ 1000000000) (hB : B ≤ g) :
    Calls Tryz.prog 27 #[.slice (some ⟨g, 0, none⟩) rs.length c, .func (.func 28) #[] #[]] w fun e w' =>
      e = .returned (.tuple #[]) ∧ (∃ rs' : List (List Int), rs'.Perm rs ∧ rs'.Pairwise (fun a b => headI a < headI b) ∧ Rts w' g N rs') ∧ RowKit.Below B w w' := by
  have hlt := h.lt
  have h0 := h.1
  rcases Nat.eq_zero_or_pos rs.length with hz | hz
  · have hrs : rs = [] := List.length_eq_zero_iff.1 hz
    subst hrs
    have hcon := AnyF.slices_SortFunc_none { Tryz.sortRow with } (some ⟨g, 0, none⟩) c (.func (.func 28) #[] #[]) w
    refine Calls.mono (show Calls Tryz.prog 27 _ _ _ from hcon) ?_
    rintro e w' ⟨rfl, rfl⟩
    exact ⟨rfl, ⟨[], List.Perm.refl _, List.Pairwise.nil, h⟩, RowKit.Below.refl _ _⟩
  · obtain ⟨cs, dl, hb, hs, hdl, hdc, hdv⟩ := h.vals
    obtain ⟨m, hm⟩ : ∃ m, rs.length = m := ⟨_, rfl⟩
    haveI : NeZero m := ⟨by omega⟩
    haveI : Inhabited (Fin m) := ⟨0⟩
    have eg : ∀ args w, (callFunc 28 args).run Tryz.prog w = .ok (.enter 28 args) w := enters_of Tryz.func28 (by kernel_rfl) rfl
    let enc : Fin m → Value := fun x => (dl[x.val]'(by rw [hdl, hm]; exact x.isLt)).val
    let row : Fin m → List Int := fun x => rs[x.val]'(by rw [hm]; exact x.isLt)
    have hval : ∀ x : Fin m, ∃ A n c, enc x = .slice A n c ∧ RdI w A n (row x) ∧ blkOf A ≠ some g ∧ n ≤ c ∧ c ≤ 9223372036854775807 := fun x =>
      hdv x.val (row x) (dl[x.val]'(by rw [hdl, hm]; exact x.isLt)) (List.getElem?_eq_getElem (by rw [hm]; exact x.isLt)) (List.getElem?_eq_getElem (by rw [hdl, hm]; exact x.isLt))
    have hrne : ∀ x : Fin m, row x ≠ [] := fun x => hne _ (List.getElem_mem _)
    let cfn : Fin m → Fin m → Int := fun x y => cmpI (headI (row x)) (headI (row y))
    have hlt' : ∀ x y : Fin m, ltOf cfn x y = decide (headI (row x) < headI (row y)) := fun x y => by
      unfold ltOf
      by_cases h : headI (row x) < headI (row y)
      · rw [decide_eq_true ((cmpI_neg _ _).2 h), decide_eq_true h]
      · rw [decide_eq_false (fun g => h ((cmpI_neg _ _).1 g)), decide_eq_false h]
    have hO : SWO (ltOf cfn) := {
      irrefl := fun x => by rw [hlt']; simp
      trans := fun x y z h1 h2 => by rw [hlt'] at *; simp only [decide_eq_true_eq] at *; omega
      ntrans := fun x y z h1 h2 => by rw [hlt'] at *; simp only [decide_eq_false_iff_not] at *; omega }
    let d : Array (Fin m) := (List.finRange m).toArray
    have hds : d.size = m := by simp [d]
    have hH : Holds enc w g 0 d := fun j hj => by
      have hj' : j < m := by rw [← hds]; exact hj
      rw [Nat.zero_add, hb.cell]
      refine ⟨?_, hb.frozen j⟩
      have e1 : d[j]! = ⟨j, hj'⟩ := by rw [getElem!_pos d j hj]; simp [d]
      rw [e1]
      exact hdc j _ (List.getElem?_eq_getElem (by rw [hdl, hm]; exact hj'))
    have hC : CmpLays1 Tryz.prog 28 #[] enc cfn g 0 d.size w := fun q os dk hsd x y => by
      obtain ⟨A, n, c, g1, g2, g3, _⟩ := hval x
      obtain ⟨A2, n2, c2, k1, k2, k3, _⟩ := hval y
      have hgb := grownBy_sortWorld enc w g dk q os
      have r1 := g2.grown hgb g3
      have r2 := k2.grown hgb k3
      have := join3_any A A2 n c n2 c2 (row x) (row y) (sortWorld enc w g 0 q dk os) r1 (fun e => hrne x (List.length_eq_zero_iff.1 (by rw [r1.1, e]))) r2 (fun e => hrne y (List.length_eq_zero_iff.1 (by rw [r2.1, e])))
      rw [← g1, ← k1] at this
      refine Calls.mono (by simpa using this) ?_
      rintro e w' ⟨rfl, q', rfl⟩
      exact ⟨rfl, q', #[], by rw [grow_empty]⟩
    have hcon := Any.slices_SortFunc Tryz.sortRow enc (fun x => (dl[x.val]'(by rw [hdl, hm]; exact x.isLt)).property) cfn hO 28 #[] g 0 c d w eg hC hH hb.lt (by omega)
    rw [hds] at hcon
    rw [hm]
    refine Calls.mono (show Calls Tryz.prog 27 _ _ _ from hcon) ?_
    rintro e w' ⟨rfl, d', q, os, hp, hsd, rfl⟩
    have hd' : d'.size = m := by rw [hp.1, hds]
    have hperm : d'.toList.Perm (List.finRange m) := by
      have h3 := hp.2.2
      rw [extract_all d' hd', extract_all d hds] at h3
      simpa [d] using h3
    have hrow : (List.finRange m).map row = rs := by
      apply List.ext_getElem (by simp [hm])
      intro i h1 h2
      simp [row]
    have hndp : d'.toList.Nodup := hperm.nodup_iff.2 (List.nodup_finRange m)
    refine ⟨rfl, ⟨d'.toList.map row, ?_, ?_, ?_⟩, below_sortWorld enc w g B d' q os hB (by omega)⟩
    · have := hperm.map row
      rwa [hrow] at this
    · rw [List.pairwise_map, List.pairwise_iff_getElem]
      intro i j hi hj hij
      have hi' : i < m := by simpa [hd'] using hi
      have hj' : j < m := by simpa [hd'] using hj
      have h4 := hsd i j (Nat.zero_le _) hij hj'
      rw [hlt', getElem!_pos d' j (by omega), getElem!_pos d' i (by omega)] at h4
      simp only [decide_eq_false_iff_not] at h4
      simp only [Array.getElem_toList]
      have hxy : d'[i] ≠ d'[j] := by
        have := (List.pairwise_iff_getElem.1 hndp) i j hi hj hij
        simpa using this
      have hne' : headI (row d'[i]) ≠ headI (row d'[j]) := by
        rcases Nat.lt_trichotomy d'[i].val d'[j].val with h5 | h5 | h5
        · exact (List.pairwise_iff_getElem.1 hd) _ _ (by rw [hm]; exact d'[i].isLt) (by rw [hm]; exact d'[j].isLt) h5
        · exact absurd (Fin.ext h5) hxy
        · exact Ne.symm ((List.pairwise_iff_getElem.1 hd) _ _ (by rw [hm]; exact d'[j].isLt) (by rw [hm]; exact d'[i].isLt) h5)
      omega
    · have := Rts.put enc (rs' := d'.toList.map row) (d := d'.toList) hb hs (by simp [hd']; omega) (by simp) q os (fun j l hl => by
        rw [List.getElem?_map] at hl
        cases hx : d'.toList[j]? with
        | none => rw [hx] at hl; cases hl
        | some x =>
          rw [hx] at hl
          cases hl
          obtain ⟨A, n, c, g1, g2, g3, g4, g5⟩ := hval x
          exact ⟨x, A, n, c, rfl, g1, g2, g3, g4, g5⟩)
      simpa using this
end Go.Proofs.YtjphjbchhhembaaGreatDoor
