/- SaveAlone, walked. -/
import Derived.Test.YtjphjbchhhembaaGreatDoorKnown
import Derived.Test.YtjphjbchhhembaaGreatDoorTable
import Derived.Test.YtjphjbchhhembaaGreatDoorPlD
import Derived.Test.YtjphjbchhhembaaGreatDoorFit3
namespace Go.Proofs.YtjphjbchhhembaaGreatDoor
open Go.RowKit

attribute [local go_sem ↓] Go.wp_at_zero Go.wp_at_succ

theorem infoStopR : (Tryz.prog.info? 42).map (fun i => (i.zero, i.size, i.bytes)) = some (some (.agg #[.int .i64 0, .int .i64 0]), 2, 16) := by kernel_rfl
theorem MatR.grown {W W' : World} {A : Option Addr} {m i g r : Nat} {l : List Int} (h : MatR W A m i g l) (hg : W.grownBy W' (some r)) (hA : blkOf A ≠ some r) (hne : g ≠ r) : MatR W' A m i g l := by
  obtain ⟨b, o, c', cs, h1, h2, h3, h4, h5, h6, h7⟩ := h
  subst h1
  refine ⟨b, o, c', cs, rfl, ?_, h3.grown hg (fun e => hne (by injection e with e; exact e.symm)), h4, h5, h6, h7⟩
  have hb := lt_of_cell h2
  have := hg.block b hb (fun e => hA e)
  unfold World.cell? at h2 ⊢
  rw [this]
  exact h2
theorem Mat.grown {W W' : World} {A : Option Addr} {n m r : Nat} {gs : List Nat} {ls : List (List Int)} (h : Mat W A n m gs ls) (hg : W.grownBy W' (some r)) (hA : blkOf A ≠ some r) (hne : r ∉ gs) : Mat W' A n m gs ls :=
  ⟨h.1, h.2.1, h.2.2.1, h.2.2.2.1, fun i l g hl hgi => (h.2.2.2.2 i l g hl hgi).grown hg hA (fun e => hne (by rw [← e]; exact List.mem_of_getElem? hgi))⟩

set_option maxHeartbeats 4000000 in
theorem saveAlone_walk (dep cap lim : Int) (A T : Option Addr) (n c tn tc : Nat) (st : List (Int × Int)) (ls : List (List Int)) (full : Bool) (w : World) (h : RdP w A n st) (ht : RdT w T tn ls) (hg : w.cell? ⟨0, 0, none⟩ = some errT) (htn : tn ≤ 4000000000000000000) :
    Calls Tryz.prog 4 #[jobV dep cap lim A n c, .slice T tn tc, .bool full] w fun e w' => e = .returned (.bool true) ∧ Below w.heap.size w w' := by
  have HK := Lib.hid (show ∀ V, Below w.heap.size w V → Calls Tryz.prog 5 #[] V fun e w' => e = .returned (.bool true) ∧ Below V.heap.size V w' from fun V hV => known_any V (Below.cellOf hV (Nat.le_refl _) hg))
  have HF := Lib.hid (show ∀ V, Below w.heap.size w V → Calls Tryz.prog 6 #[jobV dep cap lim A n c, .slice T tn tc] V fun e w' => RetIf (n ≤ 9 ∧ LdOk st ∧ sqB (n + 1) ls = true ∧ FitsP cap lim ls st) e ∧ Below V.heap.size V w' from fun V hV => fit_any dep cap lim A T n c tn tc st ls V (h.below hV) (ht.below hV) htn)
  have HRT := Lib.hid (show ∀ V, Below w.heap.size w V → RdT V T tn ls from fun V hV => ht.below hV)
  have HRP := Lib.hid (show ∀ V, Below w.heap.size w V → RdP V A n st from fun V hV => h.below hV)
  have HSL := Lib.hid h.1
  clear h ht hg
  go_enter Tryz.func4, Tryz.ntmps4
  go_wp2_with fail
  (refine calls_named ?_; intro w1 hw1)
  have hb1 : Below w.heap.size w w1 := by rw [hw1]; exact (by repeat (first | exact Below.refl _ _ | assumption | apply Below.drew | apply below_drewN | apply Bel.alloc | (refine Bel.setCell_ ?_ ?_; rotate_left; omega) | (refine Bel.step ?_ (by assumption))))
  have hJ : Blk w1 w.heap.size 24 #[.int .i64 dep, .int .i64 cap, .int .i64 lim, .slice A n c] := by rw [hw1]; exact (by repeat (first | assumption | (refine Blk.new' _ _ _ ?_; first | with_unfolding_all rfl | (simp; done)) | apply Blk.drewN | apply Blk.drew | apply Blk.alloc | (refine Blk.far_ ?_ ?_ _; rotate_left; omega)))
  clear hw1
  with_reducible refine (HK.out _ hb1).mono ?_
  rintro e w2 ⟨rfl, hb⟩
  have hb2 : Below w.heap.size w w2 := Bel.step hb1 hb
  have hJ2 := hJ.below hb hJ.lt
  obtain ⟨j0, j1, j2, j3⟩ := hJ2.four
  clear hJ hb hb1 HK
  go_wp2_with fail
  with_reducible refine (HF.out _ hb2).mono ?_
  rintro e w3 ⟨⟨b, rfl, hfit⟩, hb⟩
  have hb3 : Below w.heap.size w w3 := Bel.step hb2 hb
  have hJ3 := hJ2.below hb hJ2.lt
  clear hJ2 hb hb2 j0 j1 j2 j3 HF
  obtain ⟨j0, j1, j2, j3⟩ := hJ3.four
  cases b
  · clear hfit
    go_wp2_with fail
    go_ret
    exact ⟨rfl, hb3⟩
  obtain ⟨hn9, hld, hsq, hfp⟩ := hfit rfl
  have HLD := Lib.hid hld
  have HSQ := Lib.hid hsq
  have HFP := Lib.hid hfp
  clear hfit hld hsq hfp
  obtain rfl : tn = n + 1 := by have := (HRT.out _ hb3).1; have := sqB_size HSQ.out; omega
  have j3' := fun o1 o2 => ((hJ3.alloc o1).alloc o2).four.2.2.2
  obtain ⟨V1, hV1⟩ : ∃ V1, V1 = w3.alloc (.cells #[.int .i64 dep, .int .i64 cap, .int .i64 lim, .slice A n c] 24) := ⟨_, rfl⟩
  have hs1 : V1.heap.size = w3.heap.size + 1 := by rw [hV1]; simp
  have hK1 : Blk V1 w3.heap.size 24 #[.int .i64 dep, .int .i64 cap, .int .i64 lim, .slice A n c] := by rw [hV1]; exact Blk.new _ _ _
  have hbV : Below w3.heap.size w3 V1 := by rw [hV1]; exact (by repeat (first | exact Below.refl _ _ | assumption | apply Below.drew | apply below_drewN | apply Bel.alloc | (refine Bel.setCell_ ?_ ?_; rotate_left; omega) | (refine Bel.step ?_ (by assumption))))
  have hown0 : Own (V1.alloc (.cells #[] 42)) (w3.heap.size + 1) 42 2 (some ⟨w3.heap.size + 1, 0, none⟩) 0 0 [] := by
    have := Own.lit (B := w3.heap.size + 1) (e := 42) (s := 2) V1 #[] 0 (by omega) (by omega) rfl
    rw [hs1] at this
    exact this
  have hrd0 := ((HRP.out _ hb3).below (hbV.alloc (by omega) (.cells #[] 42))).rds
  have hbel : Below w3.heap.size w3 (V1.alloc (.cells #[] 42)) := hbV.alloc (by omega) _
  have hK2 := hK1.alloc (.cells #[] 42)
  clear hK1 hbV
  rw [hV1] at hown0 hrd0 hbel hK2
  clear hV1 hs1
  go_wp2_with (at_builtin; with_reducible refine wpList_app rfl (.tmp 22) (.tmp 24) 22 rfl 42 _ 2 16 infoStopR Tryz.underlying22 rfl (by omega) rfl rfl hown0 hrd0 (pcells_one _) (by omega) (by omega) (by simp) ?_)
  intro A5 c5 w5 hown5 hg5 _
  have hb5 : Below w3.heap.size w3 w5 := Bel.grownOwn hbel hg5 (hown0.mono (by omega)) (by simp; omega)
  have hK5 := hK2.grown hg5 (hown0.ne (by omega))
  have k3 := hK5.four.2.2.2
  have kf := hK5.frozen 3
  have HOW := Lib.hid hown5
  clear hown0 hrd0 hbel hK2 hg5 hown5 j3'
  go_wp2_with fail
  (refine calls_named ?_; intro w6 hw6)
  have hb6 : Below w3.heap.size w3 w6 := by rw [hw6]; exact hb5.setCell (Nat.le_refl _) _
  have hK6 : Blk w6 w3.heap.size 24 #[.int .i64 dep, .int .i64 cap, .int .i64 lim, .slice A5 n c5] := by rw [hw6]; exact hK5.set_ 3 (.slice A5 n c5)
  have hown6 : Own w6 (w3.heap.size + 1) 42 2 A5 n c5 (pcells st) := by rw [hw6]; exact HOW.out.far (grownBy_set _ _ _ _) (.inr (HOW.out.ne (by omega)))
  clear hw6 hK5 k3 kf HOW hb5
  have hrows : ∀ l ∈ ls, l.length = n + 1 := fun l hl => by
    obtain ⟨i, hi, e⟩ := List.getElem_of_mem hl
    exact (sq_of HSQ.out).2 i l (by rw [List.getElem?_eq_getElem hi, e])
  have hbw6 : Below w.heap.size w w6 := hb3.trans (hb6.mono hb3.size)
  with_reducible refine (table_any T (n + 1) tc (n + 1) ls w6 (HRT.out _ hbw6) hrows (by omega) (by omega) (by omega)).mono ?_
  rintro e w7 ⟨A7, c7, gs, rfl, hmat, hgs, hA7, hb67⟩
  have hb7 : Below w3.heap.size w3 w7 := hb6.trans (hb67.mono hb6.size)
  have hK7 := hK6.below hb67 hK6.lt
  have hown7 := hown6.below hb67
  have HGS := Lib.hid hgs
  have HA7 := Lib.hid hA7
  have hz6 := hb6.size
  have HLT := Lib.hid hown6.lt
  have hkn := hK6.lt
  clear hK6 hown6 hgs hA7 hb67 hbw6 hb6 hrows
  cases full
  · -- no two stops save anything
    obtain ⟨k0, k1, k2, k3⟩ := hK7.four
    go_wp2_with fail
    go_loopw [10] (fun i W => Below w3.heap.size w3 W ∧ Blk W w3.heap.size 24 #[.int .i64 dep, .int .i64 cap, .int .i64 lim, .slice A5 n c5] ∧ Own W (w3.heap.size + 1) 42 2 A5 n c5 (pcells st) ∧ ∃ (k : Nat) (ls' : List (List Int)), k ≤ n ∧ i = .int .i64 ((k : Int) + 1) ∧ Mat W A7 (n + 1) (n + 1) gs ls' ∧ ViaTo (n + 1) ls ls' (k + 1) 1) (fun i _ => n + 1 - (intOf i).toNat)
    case atStart => exact ⟨hb7, hK7, hown7, 0, ls, Nat.zero_le _, rfl, hmat, ViaTo.start (sq_of HSQ.out)⟩
    case round =>
      clear hb7 hK7 hown7 hmat k0 k1 k2 k3
      obtain ⟨hbl, hK, hown, k, ls', hk, rfl, hmat, hvia⟩ := hrel
      have HVI := Lib.hid hvia
      clear hvia
      have e4 : IntKind.i64.wrap ((k : Int) + 1 + 1) = (k : Int) + 1 + 1 := IntWalk.i64_in _ (by omega)
      by_cases hlt : k < n
      · have i0 : (k : Int) + 1 < (n : Int) + 1 := by omega
        go_wp2_with fail
        go_loopw [11] (fun i W => Below w3.heap.size w3 W ∧ Blk W w3.heap.size 24 #[.int .i64 dep, .int .i64 cap, .int .i64 lim, .slice A5 n c5] ∧ Own W (w3.heap.size + 1) 42 2 A5 n c5 (pcells st) ∧ ∃ (m : Nat) (ls' : List (List Int)), m ≤ n ∧ i = .int .i64 ((m : Int) + 1) ∧ Mat W A7 (n + 1) (n + 1) gs ls' ∧ ViaTo (n + 1) ls ls' (k + 1) (m + 1)) (fun i _ => n + 1 - (intOf i).toNat)
        case atStart => exact ⟨hbl, hK, hown, 0, ls', Nat.zero_le _, rfl, hmat, HVI.out⟩
        case round =>
          clear hbl hK hown hmat HVI
          obtain ⟨hbl, hK, hown, m, ls', hm, rfl, hmat, hvia⟩ := hrel
          have HVI := Lib.hid hvia
          clear hvia
          have e5 : IntKind.i64.wrap ((m : Int) + 1 + 1) = (m : Int) + 1 + 1 := IntWalk.i64_in _ (by omega)
          by_cases hlt2 : m < n
          · have HMA := Lib.hid hmat
            obtain ⟨li, gi, hli, hgi, b, o, ci, csi, rfl, q1, q2, q3, q4, q5, q6⟩ := hmat.row (show k + 1 < n + 1 by omega)
            obtain ⟨l0, g0, hl0, hg0, b', o', ci0, cs0, e, p1, p2, p3, p4, p5, p6⟩ := hmat.row (show 0 < n + 1 by omega)
            cases e
            rw [Nat.add_zero] at p1
            have hne : gi ≠ g0 := fun e => by
              subst e
              have := (List.getElem?_inj (List.getElem?_eq_some_iff.1 hgi).1 hmat.2.2.1).1 (hgi.trans hg0.symm)
              omega
            have hbi : b ≠ gi := fun e => hmat.2.2.2.1 gi (List.mem_of_getElem? hgi) (by rw [← e]; rfl)
            have c1 : wr.cell? ⟨gi, 0, none⟩ = some (.int .i64 (stepC ls (k + 1) 0)) := by
              have h1 : li[0]? = some (stepC ls' (k + 1) 0) := by
                obtain ⟨x, hx⟩ : ∃ x, li[0]? = some x := ⟨_, List.getElem?_eq_getElem (by omega)⟩
                rw [stepC_eq hli hx]; exact hx
              rw [q2.cell, q4 0 _ h1, HVI.out.home (by omega) (by omega)]
            have c2 : wr.cell? ⟨g0, m + 1, none⟩ = some (.int .i64 (stepC ls 0 (m + 1))) := by
              have h1 : l0[m + 1]? = some (stepC ls' 0 (m + 1)) := by
                obtain ⟨x, hx⟩ : ∃ x, l0[m + 1]? = some x := ⟨_, List.getElem?_eq_getElem (by omega)⟩
                rw [stepC_eq hl0 hx]; exact hx
              rw [p2.cell, p4 (m + 1) _ h1, HVI.out.out (by omega) (by omega)]
            obtain ⟨y, hy⟩ : ∃ y, li[m + 1]? = some y := ⟨_, List.getElem?_eq_getElem (by omega)⟩
            have c3 : wr.cell? ⟨gi, m + 1, none⟩ = some (.int .i64 y) := by rw [q2.cell]; exact q4 _ _ hy
            have c3f := q2.frozen (m + 1)
            have HNX := Lib.hid (HVI.out.next hli (by omega) (by omega) (by omega))
            have HMS := Lib.hid (HMA.out.set (v := add2 (stepC ls (k + 1) 0) (stepC ls 0 (m + 1))) hli hgi (show m + 1 < n + 1 by omega))
            have hgi3 : w6.heap.size ≤ gi := HGS.out gi (List.mem_of_getElem? hgi)
            have hK' := hK.far_ (b := gi) (o := m + 1) (show w3.heap.size ≠ gi by omega) (.int .i64 (add2 (stepC ls (k + 1) 0) (stepC ls 0 (m + 1))))
            have hown' := hown.far (grownBy_set wr gi (m + 1) (.int .i64 (add2 (stepC ls (k + 1) 0) (stepC ls 0 (m + 1))))) (.inr (fun e => by have := (HLT.out gi e).2; omega))
            have hbn : Below w3.heap.size w3 (wr.setCell ⟨gi, m + 1, none⟩ (.int .i64 (add2 (stepC ls (k + 1) 0) (stepC ls 0 (m + 1))))) := hbl.setCell (show w3.heap.size ≤ gi by omega) _
            have hA1 := Lib.hid (refAdd_any (stepC ls (k + 1) 0) (stepC ls 0 (m + 1)))
            generalize add2 (stepC ls (k + 1) 0) (stepC ls 0 (m + 1)) = z at *
            generalize stepC ls (k + 1) 0 = home at *
            generalize stepC ls 0 (m + 1) = out at *
            have s1 : (wr.setCell ⟨gi, m + 1, none⟩ (.int .i64 z)).cell? ⟨b, o + (k + 1), none⟩ = some (.slice (some ⟨gi, 0, none⟩) (n + 1) ci) := by
              rw [World.cell?_setCell_other _ _ _ _ (fun e => hbi (by injection e with e1; exact e1.symm))]; exact q1
            have hb0 : b ≠ gi := hbi
            have s2 : (wr.setCell ⟨gi, m + 1, none⟩ (.int .i64 z)).cell? ⟨b, o, none⟩ = some (.slice (some ⟨g0, 0, none⟩) (n + 1) ci0) := by
              rw [World.cell?_setCell_other _ _ _ _ (fun e => hbi (by injection e with e1; exact e1.symm))]; exact p1
            have s3 : (wr.setCell ⟨gi, m + 1, none⟩ (.int .i64 z)).cell? ⟨gi, 0, none⟩ = some (.int .i64 home) := by
              rw [World.cell?_setCell_other _ _ _ _ (fun e => by injection e with _ e1; omega)]; exact c1
            have s4 : (wr.setCell ⟨gi, m + 1, none⟩ (.int .i64 z)).cell? ⟨g0, m + 1, none⟩ = some (.int .i64 out) := by
              rw [World.cell?_setCell_other _ _ _ _ (fun e => hne (by injection e))]; exact c2
            have HSX := Lib.hid (show ∀ V : World, (V.cell? ⟨b, o + (k + 1), none⟩ = some (.slice (some ⟨gi, 0, none⟩) (n + 1) ci) ∧ V.cell? ⟨b, o, none⟩ = some (.slice (some ⟨g0, 0, none⟩) (n + 1) ci0) ∧ V.cell? ⟨gi, 0, none⟩ = some (.int .i64 home) ∧ V.cell? ⟨g0, m + 1, none⟩ = some (.int .i64 out)) →
              V.cell? ⟨b, o + (k + 1), none⟩ = some (.slice (some ⟨gi, 0, none⟩) (n + 1) ci) ∧ V.cell? ⟨b, o, none⟩ = some (.slice (some ⟨g0, 0, none⟩) (n + 1) ci0) ∧ V.cell? ⟨gi, 0, none⟩ = some (.int .i64 home) ∧ V.cell? ⟨g0, m + 1, none⟩ = some (.int .i64 out) from fun V h => h)
            have i1 : (0 : Int) ≤ (k : Int) + 1 := by omega
            have i2 : (k : Int) + 1 < (n : Int) + 1 := by omega
            have i3 : (0 : Int) ≤ (m : Int) + 1 := by omega
            have i4 : (m : Int) + 1 < (n : Int) + 1 := by omega
            have i5 : (0 : Int) < (n : Int) + 1 := by omega
            have n1 : ((k : Int) + 1).toNat = k + 1 := by omega
            have n2 : ((m : Int) + 1).toNat = m + 1 := by omega
            clear hmat hli hl0 hgi hg0 q2 q3 q4 p2 p3 p4 hy hK hown
            go_wp2_with fail
            refine wp_region_held_drew (S := fun V => V.cell? ⟨b, o + (k + 1), none⟩ = some (.slice (some ⟨gi, 0, none⟩) (n + 1) ci) ∧ V.cell? ⟨b, o, none⟩ = some (.slice (some ⟨g0, 0, none⟩) (n + 1) ci0) ∧ V.cell? ⟨gi, 0, none⟩ = some (.int .i64 home) ∧ V.cell? ⟨g0, m + 1, none⟩ = some (.int .i64 out)) (by kernel_rfl) ⟨q1, p1, c1, c2⟩ (fun _ => ?_)
            refine take_ (i := 0) (d := some 55) (v := ?_) rfl rfl (by kernel_rfl) (by kernel_rfl) (by kernel_rfl) (fun _ _ _ h => h) (by rfl) ?_ (by first | rfl | trivial | assumption) ?_
            rotate_left
            · (intro V hSw; (try (have hF := HSX.out V hSw)); (try (cases hSw)); (try go_split_ands); go_simp; try with_reducible rfl)
            simp only [Act.put, List.setIfInBounds_toArray, List.set_cons_zero, List.set_cons_succ]
            refine take_ (i := 1) (d := some 56) (v := ?_) rfl rfl (by kernel_rfl) (by kernel_rfl) (by kernel_rfl) (fun _ _ _ h => h) (by rfl) ?_ (by first | rfl | trivial | assumption) ?_
            rotate_left
            · (intro V hSw; (try (have hF := HSX.out V hSw)); (try (cases hSw)); (try go_split_ands); go_simp; try with_reducible rfl)
            simp only [Act.put, List.setIfInBounds_toArray, List.set_cons_zero, List.set_cons_succ]
            refine take_ (i := 2) (d := some 57) (v := ?_) rfl rfl (by kernel_rfl) (by kernel_rfl) (by kernel_rfl) (fun _ _ _ h => h) (by rfl) ?_ (by first | rfl | trivial | assumption) ?_
            rotate_left
            · (intro V hSw; (try (have hF := HSX.out V hSw)); (try (cases hSw)); (try go_split_ands); go_simp; try with_reducible rfl)
            simp only [Act.put, List.setIfInBounds_toArray, List.set_cons_zero, List.set_cons_succ]
            refine take_ (i := 3) (d := some 58) (v := ?_) rfl rfl (by kernel_rfl) (by kernel_rfl) (by kernel_rfl) (fun _ _ _ h => h) (by rfl) ?_ (by first | rfl | trivial | assumption) ?_
            rotate_left
            · (intro V hSw; (try (have hF := HSX.out V hSw)); (try (cases hSw)); (try go_split_ands); go_simp; try with_reducible rfl)
            simp only [Act.put, List.setIfInBounds_toArray, List.set_cons_zero, List.set_cons_succ]
            refine take_ (i := 4) (d := some 59) (v := ?_) rfl rfl (by kernel_rfl) (by kernel_rfl) (by kernel_rfl) (fun _ _ _ h => h) (by rfl) ?_ (by first | rfl | trivial | assumption) ?_
            rotate_left
            · (intro V hSw; (try (have hF := HSX.out V hSw)); (try (cases hSw)); (try go_split_ands); go_simp; try with_reducible rfl)
            simp only [Act.put, List.setIfInBounds_toArray, List.set_cons_zero, List.set_cons_succ]
            refine take_ (i := 5) (d := some 60) (v := ?_) rfl rfl (by kernel_rfl) (by kernel_rfl) (by kernel_rfl) (fun _ _ _ h => h) (by rfl) ?_ (by first | rfl | trivial | assumption) ?_
            rotate_left
            · (intro V hSw; (try (have hF := HSX.out V hSw)); (try (cases hSw)); (try go_split_ands); go_simp; try with_reducible rfl)
            simp only [Act.put, List.setIfInBounds_toArray, List.set_cons_zero, List.set_cons_succ]
            refine take_ (i := 6) (d := some 61) (v := ?_) rfl rfl (by kernel_rfl) (by kernel_rfl) (by kernel_rfl) (fun _ _ _ h => h) (by rfl) ?_ (by first | rfl | trivial | assumption) ?_
            rotate_left
            · (intro V hSw; (try (have hF := HSX.out V hSw)); (try (cases hSw)); (try go_split_ands); go_simp; try with_reducible rfl)
            simp only [Act.put, List.setIfInBounds_toArray, List.set_cons_zero, List.set_cons_succ]
            refine take_ (i := 7) (d := some 62) (v := ?_) rfl rfl (by kernel_rfl) (by kernel_rfl) (by kernel_rfl) (fun _ _ _ h => h) (by rfl) ?_ (by first | rfl | trivial | assumption) ?_
            rotate_left
            · (intro V hSw; (try (have hF := HSX.out V hSw)); (try (cases hSw)); (try go_split_ands); go_simp; try with_reducible rfl)
            simp only [Act.put, List.setIfInBounds_toArray, List.set_cons_zero, List.set_cons_succ]
            refine take_ (i := 8) (d := some 63) (v := ?_) rfl rfl (by kernel_rfl) (by kernel_rfl) (by kernel_rfl) (fun _ _ _ h => h) (by rfl) ?_ (by first | rfl | trivial | assumption) ?_
            rotate_left
            · (intro V hSw; (try (have hF := HSX.out V hSw)); (try (cases hSw)); (try go_split_ands); go_simp; try with_reducible rfl)
            simp only [Act.put, List.setIfInBounds_toArray, List.set_cons_zero, List.set_cons_succ]
            refine take_ (i := 9) (d := some 64) (v := ?_) rfl rfl (by kernel_rfl) (by kernel_rfl) (by kernel_rfl) (fun _ _ _ h => h) (by rfl) ?_ (by first | rfl | trivial | assumption) ?_
            rotate_left
            · (intro V hSw; (try (have hF := HSX.out V hSw)); (try (cases hSw)); (try go_split_ands); go_simp; try with_reducible rfl)
            simp only [Act.put, List.setIfInBounds_toArray, List.set_cons_zero, List.set_cons_succ]
            refine take_ (i := 10) (d := some 65) (v := ?_) rfl rfl (by kernel_rfl) (by kernel_rfl) (by kernel_rfl) (fun _ _ _ h => h) (by rfl) ?_ (by first | rfl | trivial | assumption) ?_
            rotate_left
            · (intro V hSw; (try (have hF := HSX.out V hSw)); (try (cases hSw)); (try go_split_ands); go_simp; try with_reducible rfl)
            simp only [Act.put, List.setIfInBounds_toArray, List.set_cons_zero, List.set_cons_succ]
            refine take_ (i := 11) (d := some 66) (v := ?_) rfl rfl (by kernel_rfl) (by kernel_rfl) (by kernel_rfl) (fun _ _ _ h => h) (by rfl) ?_ (by first | rfl | trivial | assumption) ?_
            rotate_left
            · (intro V hSw; (try (have hF := HSX.out V hSw)); (try (cases hSw)); (try go_split_ands); go_simp; try with_reducible rfl)
            simp only [Act.put, List.setIfInBounds_toArray, List.set_cons_zero, List.set_cons_succ]
            refine take_ (i := 12) (d := some 67) (v := ?_) rfl rfl (by kernel_rfl) (by kernel_rfl) (by kernel_rfl) (fun _ _ _ h => h) (by rfl) ?_ (by first | rfl | trivial | assumption) ?_
            rotate_left
            · (intro V hSw; (try (have hF := HSX.out V hSw)); (try (cases hSw)); (try go_split_ands); go_simp; try with_reducible rfl)
            simp only [Act.put, List.setIfInBounds_toArray, List.set_cons_zero, List.set_cons_succ]
            refine take_ (i := 13) (d := some 68) (v := ?_) rfl rfl (by kernel_rfl) (by kernel_rfl) (by kernel_rfl) (fun _ _ _ h => h) (by rfl) ?_ (by first | rfl | trivial | assumption) ?_
            rotate_left
            · (intro V hSw; (try (have hF := HSX.out V hSw)); (try (cases hSw)); (try go_split_ands); go_simp; try with_reducible rfl)
            simp only [Act.put, List.setIfInBounds_toArray, List.set_cons_zero, List.set_cons_succ]
            refine take_ (i := 14) (d := some 69) (v := ?_) rfl rfl (by kernel_rfl) (by kernel_rfl) (by kernel_rfl) (fun _ _ _ h => h) (by rfl) ?_ (by first | rfl | trivial | assumption) ?_
            rotate_left
            · (intro V hSw; (try (have hF := HSX.out V hSw)); (try (cases hSw)); (try go_split_ands); go_simp; try with_reducible rfl)
            simp only [Act.put, List.setIfInBounds_toArray, List.set_cons_zero, List.set_cons_succ]
            refine take_ (i := 15) (d := some 70) (v := ?_) rfl rfl (by kernel_rfl) (by kernel_rfl) (by kernel_rfl) (fun _ _ _ h => h) (by rfl) ?_ (by first | rfl | trivial | assumption) ?_
            rotate_left
            · (intro V hSw; (try (have hF := HSX.out V hSw)); (try (cases hSw)); (try go_split_ands); go_simp; try with_reducible rfl)
            simp only [Act.put, List.setIfInBounds_toArray, List.set_cons_zero, List.set_cons_succ]
            refine take_ (i := 16) (d := some 71) (v := ?_) rfl rfl (by kernel_rfl) (by kernel_rfl) (by kernel_rfl) (fun _ _ _ h => h) (by rfl) ?_ (by first | rfl | trivial | assumption) ?_
            rotate_left
            · (intro V hSw; (try (have hF := HSX.out V hSw)); (try (cases hSw)); (try go_split_ands); go_simp; try with_reducible rfl)
            simp only [Act.put, List.setIfInBounds_toArray, List.set_cons_zero, List.set_cons_succ]
            refine wpAnyH_ready (rs := [17]) (by kernel_rfl) (by simp) ?_
            refine AllReadyH.cons (o := _) rfl (fun K hK => ?_) AllReadyH.nil
            go_simp
            with_reducible refine (hA1.out _).mono ?_
            rintro e w' ⟨rfl, rfl⟩
            go_wp2_with fail
            refine hK.out _ _ ⟨q1, p1, c1, c2⟩ (fun _ => ?_)
            clear hK K
            refine take_ (i := 18) (d := some 73) (v := ?_) rfl rfl (by kernel_rfl) (by kernel_rfl) (by kernel_rfl) (fun _ _ _ h => h) (by rfl) ?_ (by first | rfl | trivial | assumption) ?_
            rotate_left
            · (intro V hSw; (try (have hF := HSX.out V hSw)); (try (cases hSw)); (try go_split_ands); go_simp; try with_reducible rfl)
            simp only [Act.put, List.setIfInBounds_toArray, List.set_cons_zero, List.set_cons_succ]
            refine wpAnyH_ready (rs := [19]) (by kernel_rfl) (by simp) ?_
            refine AllReadyH.cons (o := _) rfl (fun K hK => ?_) AllReadyH.nil
            go_simp
            refine hK.out _ _ ⟨s1, s2, s3, s4⟩ (fun _ => ?_)
            clear hK K
            refine wpAnyH_done (by kernel_rfl) ?_ _
            clear s1 s2 s3 s4 q1 p1 c1 c2 c3 c3f HSX
            go_wp2_with fail
            go_roundw
            case rel => exact ⟨hbn.drew, hK'.drew, hown'.drew, m + 1, _, by omega, by go_num, HMS.out.below (Below.refl _ _).drew, HNX.out⟩
            case measure => simp [intOf]; omega
          · obtain rfl : m = n := by omega
            have i1 : ¬ (m : Int) + 1 < (m : Int) + 1 := by omega
            go_wp2_with fail
            go_roundw
            case rel => exact ⟨hbl, hK, hown, k + 1, ls', by omega, by go_num, hmat, HVI.out.wide⟩
            case measure => simp [intOf]; omega
      · obtain rfl : n = k := by omega
        have i0 : ¬ (n : Int) + 1 < (n : Int) + 1 := by omega
        have HTB := Lib.hid hmat.rdT
        have HSTP := Lib.hid hown.rds.rdP
        have HLD2 := HLD
        have HSQ2 := Lib.hid (via_sq HVI.out HSQ.out)
        have HFP2 := Lib.hid (via_fits HVI.out HSL.out HFP.out)
        have HAL := Lib.hid (show allSv ls' = [] ∨ ∀ i j : Nat, i < n → j < n → cap < loadR st [(i : Int) + 1, (j : Int) + 1] from .inl (via_none HVI.out HSQ.out))
        clear hmat hown HVI
        have hbF : Below w.heap.size w wr := hb3.trans (hbl.mono hb3.size)
        obtain ⟨k0, k1, k2, k3⟩ := hK.four
        go_wp2_with fail
        with_reducible refine (to_any dep _ lim A5 n c5 _ wr HSTP.out (by omega)).mono ?_
        rintro e w11 ⟨A11, c11, rfl, hp11, hb11⟩
        have hbw11 : Below w.heap.size w w11 := Bel.step hbF hb11
        have HP11 := Lib.hid hp11
        have HT11 := Lib.hid (HTB.out.below hb11)
        have hK11 := hK.below hb11 hK.lt
        clear hp11 hb11 hK k0 k1 k2 k3 HTB HSTP hbF hbl
        obtain ⟨k0, k1, k2, k3⟩ := hK11.four
        go_wp2_with fail
        with_reducible refine (saveJoin_any dep _ lim A11 A7 n c11 c7 _ _ w11 HP11.out HLD2.out HT11.out HSQ2.out HFP2.out (by omega)).mono ?_
        rintro e w12 ⟨A12, m12, c12, L, R, rfl, hR, hp, hs, hRp, hRd, hb12⟩
        obtain rfl := saveAlone_law hp hRp hRd HAL.out
        obtain rfl : m12 = n := by have := hR.1; simpa [singles] using this.symm
        have hbw12 : Below w.heap.size w w12 := Bel.step hbw11 hb12
        have hK12 := hK11.below hb12 hK11.lt
        clear hp hs hRp hRd hb12 hK11 k0 k1 k2 k3 HP11 HT11 hbw11
        obtain ⟨k0, k1, k2, k3⟩ := hK12.four
        go_wp2_with fail
        go_loop [14] (fun i => ∃ k : Nat, k ≤ m12 ∧ i = .int .i64 k) (fun i => m12 - (intOf i).toNat)
        case atStart => exact ⟨0, Nat.zero_le _, rfl⟩
        case round =>
          obtain ⟨k, hk, rfl⟩ := hrel
          by_cases hlt : k < m12
          · obtain ⟨b, o, A1, n1, c1, l, rfl, hl, hc, hr, _, _⟩ := hR.at_ hlt
            rw [singles_get hlt] at hl
            cases hl
            obtain rfl : n1 = 1 := hr.1.symm
            obtain ⟨b2, o2, x, rfl, hx, hc2⟩ := hr.at_ (show 0 < 1 by omega)
            cases hx
            rw [Nat.add_zero] at hc2
            have i1 : (0 : Int) ≤ (k : Int) := by omega
            have i2 : (k : Int) < (m12 : Int) := by omega
            have e3 : IntKind.i64.wrap ((k : Int) + 1) = (k : Int) + 1 := IntWalk.i64_in _ (by omega)
            clear hr
            go_wp2_with fail
            go_round
            case rel => exact ⟨k + 1, by omega, by go_num⟩
            case measure => simp [intOf]; omega
          · go_wp2_with fail
            go_ret
            exact ⟨rfl, hbw12⟩
  · -- a vehicle holds one stop's load alone
    obtain ⟨k0, k1, k2, k3⟩ := hK7.four
    have kf := hK7.frozen 1
    have hA7n : blkOf A7 ≠ some w3.heap.size := fun e => by have := HA7.out _ e; omega
    have hgn : w3.heap.size ∉ gs := fun e => by have := HGS.out _ e; omega
    go_wp2_with fail
    (refine wp_named ?_; intro w8 hw8)
    have hb8 : Below w3.heap.size w3 w8 := by rw [hw8]; exact hb7.setCell (Nat.le_refl _) _
    have hK8 : Blk w8 w3.heap.size 24 #[.int .i64 dep, .int .i64 3, .int .i64 lim, .slice A5 n c5] := by rw [hw8]; exact hK7.set_ 1 (.int .i64 3)
    have hown8 : Own w8 (w3.heap.size + 1) 42 2 A5 n c5 (pcells (twoTo st 0)) := by rw [hw8, twoTo_zero]; exact hown7.far (grownBy_set _ _ _ _) (.inr (hown7.ne (by omega)))
    have hmat8 : Mat w8 A7 (n + 1) (n + 1) gs ls := by rw [hw8]; exact hmat.grown (grownBy_set _ _ _ _) hA7n hgn
    clear hw8 k0 k1 k2 k3 kf hb7 hK7 hown7 hmat
    go_loopw [9] (fun i W => Below w3.heap.size w3 W ∧ Blk W w3.heap.size 24 #[.int .i64 dep, .int .i64 3, .int .i64 lim, .slice A5 n c5] ∧ ∃ k : Nat, k ≤ n ∧ i = .int .i64 k ∧ Own W (w3.heap.size + 1) 42 2 A5 n c5 (pcells (twoTo st k)) ∧ Mat W A7 (n + 1) (n + 1) gs ls) (fun i _ => n - (intOf i).toNat)
    case atStart => exact ⟨hb8, hK8, 0, Nat.zero_le _, rfl, hown8, hmat8⟩
    case round =>
      clear hb8 hK8 hown8 hmat8
      obtain ⟨hbl, hK, k, hk, rfl, hown, hmat⟩ := hrel
      by_cases hlt : k < n
      · obtain ⟨g, cur, rfl, hgB, hblk, hnc, hcs, _⟩ := hown.block (by omega)
        obtain ⟨p, hp⟩ : ∃ p, st[k]? = some p := ⟨_, List.getElem?_eq_getElem (by rw [HSL.out]; exact hlt)⟩
        have hg6 := (HLT.out g rfl).2
        have c1 : wr.cell? ⟨g, k * 2 + 1, none⟩ = some (cur[k * 2 + 1]'(by omega)) := by rw [hblk.cell]; exact Array.getElem?_eq_getElem (by omega)
        have c1f := hblk.frozen (k * 2 + 1)
        have how := hown.setP (k := k) (p := p) (y := 2) (twoTo_get hp)
        rw [Nat.zero_add, twoTo_next hp] at how
        have HOW := Lib.hid how
        have HMA := Lib.hid (hmat.grown (grownBy_set wr g (k * 2 + 1) (.int .i64 2)) (fun e => by have := HA7.out _ e; omega) (fun e => by have := HGS.out _ e; omega))
        have hK' := hK.far_ (b := g) (o := k * 2 + 1) (show w3.heap.size ≠ g by omega) (.int .i64 2)
        have hbn : Below w3.heap.size w3 (wr.setCell ⟨g, k * 2 + 1, none⟩ (.int .i64 2)) := hbl.setCell (show w3.heap.size ≤ g by omega) _
        obtain ⟨k0, k1, k2, k3⟩ := hK.four
        have i3 : (0 : Int) ≤ (k : Int) := by omega
        have i4 : (k : Int) < (n : Int) := by omega
        clear how hown hmat hblk hK hp
        generalize cur[k * 2 + 1]'(by omega) = old at *
        go_wp2_with fail
        go_roundw
        case rel => exact ⟨hbn, hK', k + 1, by omega, by go_num, HOW.out, HMA.out⟩
        case measure => simp [intOf]; omega
      · obtain rfl : n = k := by omega
        have h2 := twoTo_all HSL.out
        have hl2 := twoTo_len (k := n) HSL.out
        have HTB := Lib.hid hmat.rdT
        have HSTP := Lib.hid hown.rds.rdP
        have HLD2 := Lib.hid (two_ld h2)
        have HSQ2 := HSQ
        have HFP2 := Lib.hid (two_fits HSL.out hl2 h2 HFP.out)
        have HAL := Lib.hid (show allSv ls = [] ∨ ∀ i j : Nat, i < n → j < n → 3 < loadR (twoTo st n) [(i : Int) + 1, (j : Int) + 1] from .inr (fun i j hi hj => two_load hl2 h2 i j hi hj))
        clear hmat hown h2 hl2
        generalize twoTo st n = st2 at *
        have hbF : Below w.heap.size w wr := hb3.trans (hbl.mono hb3.size)
        obtain ⟨k0, k1, k2, k3⟩ := hK.four
        go_wp2_with fail
        with_reducible refine (to_any dep _ lim A5 n c5 _ wr HSTP.out (by omega)).mono ?_
        rintro e w11 ⟨A11, c11, rfl, hp11, hb11⟩
        have hbw11 : Below w.heap.size w w11 := Bel.step hbF hb11
        have HP11 := Lib.hid hp11
        have HT11 := Lib.hid (HTB.out.below hb11)
        have hK11 := hK.below hb11 hK.lt
        clear hp11 hb11 hK k0 k1 k2 k3 HTB HSTP hbF hbl
        obtain ⟨k0, k1, k2, k3⟩ := hK11.four
        go_wp2_with fail
        with_reducible refine (saveJoin_any dep _ lim A11 A7 n c11 c7 _ _ w11 HP11.out HLD2.out HT11.out HSQ2.out HFP2.out (by omega)).mono ?_
        rintro e w12 ⟨A12, m12, c12, L, R, rfl, hR, hp, hs, hRp, hRd, hb12⟩
        obtain rfl := saveAlone_law hp hRp hRd HAL.out
        obtain rfl : m12 = n := by have := hR.1; simpa [singles] using this.symm
        have hbw12 : Below w.heap.size w w12 := Bel.step hbw11 hb12
        have hK12 := hK11.below hb12 hK11.lt
        clear hp hs hRp hRd hb12 hK11 k0 k1 k2 k3 HP11 HT11 hbw11
        obtain ⟨k0, k1, k2, k3⟩ := hK12.four
        go_wp2_with fail
        go_loop [14] (fun i => ∃ k : Nat, k ≤ m12 ∧ i = .int .i64 k) (fun i => m12 - (intOf i).toNat)
        case atStart => exact ⟨0, Nat.zero_le _, rfl⟩
        case round =>
          obtain ⟨k, hk, rfl⟩ := hrel
          by_cases hlt : k < m12
          · obtain ⟨b, o, A1, n1, c1, l, rfl, hl, hc, hr, _, _⟩ := hR.at_ hlt
            rw [singles_get hlt] at hl
            cases hl
            obtain rfl : n1 = 1 := hr.1.symm
            obtain ⟨b2, o2, x, rfl, hx, hc2⟩ := hr.at_ (show 0 < 1 by omega)
            cases hx
            rw [Nat.add_zero] at hc2
            have i1 : (0 : Int) ≤ (k : Int) := by omega
            have i2 : (k : Int) < (m12 : Int) := by omega
            have e3 : IntKind.i64.wrap ((k : Int) + 1) = (k : Int) + 1 := IntWalk.i64_in _ (by omega)
            clear hr
            go_wp2_with fail
            go_round
            case rel => exact ⟨k + 1, by omega, by go_num⟩
            case measure => simp [intOf]; omega
          · go_wp2_with fail
            go_ret
            exact ⟨rfl, hbw12⟩
end Go.Proofs.YtjphjbchhhembaaGreatDoor
