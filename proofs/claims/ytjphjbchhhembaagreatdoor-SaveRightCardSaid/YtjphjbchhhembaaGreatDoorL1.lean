/- SaveRight, walked. -/
import Derived.Test.YtjphjbchhhembaaGreatDoorKnown
import Derived.Test.YtjphjbchhhembaaGreatDoorRwO
import Derived.Test.YtjphjbchhhembaaGreatDoorFit3
import Derived.Test.YtjphjbchhhembaaGreatDoorTotal
namespace Go.Proofs.YtjphjbchhhembaaGreatDoor
open Go.RowKit

attribute [local go_sem ↓] Go.wp_at_zero Go.wp_at_succ

theorem singles_short (N : Nat) : Short (singles N) := fun r hr => by
  obtain ⟨i, _, rfl⟩ := singles_mem hr
  simp
theorem parts_short {N : Nat} {rs : List (List Int)} (hN : N ≤ 1000000000) (h : Parts N rs) : Short rs := fun r hr => by
  obtain ⟨i, hi, e⟩ := List.getElem_of_mem hr
  have := (h.bd hi).2
  rw [getD_eq hi, e] at this
  omega
theorem parts_len {N : Nat} {rs : List (List Int)} (h : Parts N rs) : rs.length ≤ N := by
  have h1 : ∀ (l : List (List Int)), (∀ r ∈ l, r ≠ []) → l.length ≤ l.flatten.length := by
    intro l
    induction l with
    | nil => intro _; simp
    | cons r t ih =>
      intro hne
      have h2 := ih (fun r' hr' => hne r' (List.mem_cons_of_mem _ hr'))
      have h3 := List.length_pos_iff.2 (hne r List.mem_cons_self)
      simp only [List.flatten_cons, List.length_append, List.length_cons]
      omega
  have h2 := h1 rs h.1
  rw [h.2.length_eq] at h2
  simpa [stopsTo] using h2

set_option maxHeartbeats 4000000 in
theorem saveRight_walk (dep cap lim : Int) (A T : Option Addr) (n c tn tc : Nat) (st : List (Int × Int)) (ls : List (List Int)) (w : World) (h : RdP w A n st) (ht : RdT w T tn ls) (hg : w.cell? ⟨0, 0, none⟩ = some errT) (htn : tn ≤ 4000000000000000000) :
    Calls Tryz.prog 3 #[jobV dep cap lim A n c, .slice T tn tc] w fun e w' => e = .returned (.bool true) ∧ Below w.heap.size w w' := by
  have HK := Lib.hid (show ∀ V, Below w.heap.size w V → Calls Tryz.prog 5 #[] V fun e w' => e = .returned (.bool true) ∧ Below V.heap.size V w' from fun V hV => known_any V (Below.cellOf hV (Nat.le_refl _) hg))
  have HF := Lib.hid (show ∀ V, Below w.heap.size w V → Calls Tryz.prog 6 #[jobV dep cap lim A n c, .slice T tn tc] V fun e w' => RetIf (n ≤ 9 ∧ LdOk st ∧ sqB (n + 1) ls = true ∧ FitsP cap lim ls st) e ∧ Below V.heap.size V w' from fun V hV => fit_any dep cap lim A T n c tn tc st ls V (h.below hV) (ht.below hV) htn)
  have HT := Lib.hid (show n ≤ 9 → ∀ V, Below w.heap.size w V → Calls Tryz.prog 8 #[jobV dep cap lim A n c] V fun e w' => ∃ A' c', e = .returned (jobV dep cap lim A' n c') ∧ RdP w' A' n st ∧ Below V.heap.size V w' from fun h9 V hV => to_any dep cap lim A n c st V (h.below hV) (by omega))
  have HRT := Lib.hid (show ∀ V, Below w.heap.size w V → RdT V T tn ls from fun V hV => ht.below hV)
  have HRP := Lib.hid (show ∀ V, Below w.heap.size w V → RdP V A n st from fun V hV => h.below hV)
  have HSL := Lib.hid h.1
  clear h ht hg
  go_enter Tryz.func3, Tryz.ntmps3
  go_wp2_with fail
  (refine calls_named ?_; intro w1 hw1)
  have hb1 : Below w.heap.size w w1 := by rw [hw1]; exact (by repeat (first | exact Below.refl _ _ | assumption | apply Below.drew | apply below_drewN | apply Bel.alloc | (refine Bel.setCell_ ?_ ?_; rotate_left; omega) | (refine Bel.step ?_ (by assumption))))
  have hJ : Blk w1 w.heap.size 24 #[.int .i64 dep, .int .i64 cap, .int .i64 lim, .slice A n c] := by rw [hw1]; exact (by repeat (first | assumption | (refine Blk.new' _ _ _ ?_; first | with_unfolding_all rfl | (simp; done)) | apply Blk.drewN | apply Blk.drew | apply Blk.alloc | (refine Blk.far_ ?_ ?_ _; rotate_left; omega)))
  clear hw1
  with_reducible refine (HK.out _ hb1).mono ?_
  rintro e w2 ⟨rfl, hb⟩
  have hb2 : Below w.heap.size w w2 := Bel.step hb1 hb
  have hJ2 := hJ.below hb hJ.lt
  obtain ⟨j0, j1, j2, j3⟩ := hJ2.four
  clear hJ hb hb1 HK
  go_wp2_with fail
  with_reducible refine (HF.out _ hb2).mono ?_
  rintro e w3 ⟨⟨b, rfl, hfit⟩, hb⟩
  have hb3 : Below w.heap.size w w3 := Bel.step hb2 hb
  have hJ3 := hJ2.below hb hJ2.lt
  clear hJ2 hb hb2 j0 j1 j2 j3 HF
  obtain ⟨j0, j1, j2, j3⟩ := hJ3.four
  cases b
  · clear hfit
    go_wp2_with fail
    go_ret
    exact ⟨rfl, hb3⟩
  · obtain ⟨hn9, hld, hsq, hfp⟩ := hfit rfl
    have HLD := Lib.hid hld
    have HSQ := Lib.hid hsq
    have HFP := Lib.hid hfp
    clear hfit hld hsq hfp
    obtain rfl : tn = n + 1 := by have := (HRT.out _ hb3).1; have := sqB_size HSQ.out; omega
    go_wp2_with fail
    with_reducible refine (HT.out hn9 _ hb3).mono ?_
    rintro e w4 ⟨A2, c2, rfl, hp2, hb⟩
    have hb4 : Below w.heap.size w w4 := Bel.step hb3 hb
    have hJ4 := hJ3.below hb hJ3.lt
    have HP2 := Lib.hid hp2
    clear hJ3 hb hb3 j0 j1 j2 j3 HT hp2
    go_wp2_with fail
    with_reducible refine (saveJoin_any dep cap lim A2 T n c2 tc st ls w4 HP2.out HLD.out (HRT.out _ hb4) HSQ.out HFP.out (by omega)).mono ?_
    rintro e w5 ⟨A5, m5, c5, L, R, rfl, hR, hp, hs, hRp, hRd, hb⟩
    have hb5 : Below w.heap.size w w5 := Bel.step hb4 hb
    have hJ5 := hJ4.below hb hJ4.lt
    obtain ⟨j0, j1, j2, j3⟩ := hJ5.four
    have hparts : Parts n R := (joinAll_parts L (singles_parts n)).perm hRp
    have hm5 : m5 ≤ n := by rw [← hR.1]; exact parts_len hparts
    obtain ⟨hright, htot⟩ := saveRight_law HSQ.out HSL.out HFP.out hp hRp
    have HR := Lib.hid hR
    have HRI := Lib.hid hright
    have HTO := Lib.hid htot
    have HSH := Lib.hid (parts_short (by omega) hparts)
    clear hR hp hs hRp hRd hb hJ4 hb4 hparts hright htot HP2
    go_wp2_with fail
    with_reducible refine (refRight_any dep cap lim A A5 T n c m5 c5 (n + 1) tc st ls R w5 (HRP.out _ hb5) HLD.out HR.out (HRT.out _ hb5) (sq_of HSQ.out) (by omega) (by omega) (by omega) HRI.out).mono ?_
    rintro e w6 ⟨rfl, hb⟩
    have hb6 : Below w.heap.size w w6 := Bel.step hb5 hb
    have hJ6 := hJ5.below hb hJ5.lt
    have HR6 := Lib.hid (HR.out.below hb)
    have hz6 := hb6.size
    clear hb hJ5 hb5 j0 j1 j2 j3 HR HRI
    go_wp2_with fail
    go_loopw [7, 8] (fun a i W => Below w6.heap.size w6 W ∧ ∃ (k : Nat) (A3 : Option Addr) (c3 : Nat) (xs : List Value), k ≤ n ∧ i = .int .i64 ((k : Int) + 1) ∧ a = .slice A3 k c3 ∧ RwO W w6.heap.size 38 A3 k c3 xs ((singles n).take k)) (fun _ i _ => n + 1 - (intOf i).toNat)
    case atStart => exact ⟨Below.refl _ _, 0, none, 0, [], Nat.zero_le _, rfl, rfl, RwO.nil _ _ _⟩
    case round =>
      obtain ⟨hbl, k, A3, c3, xs, hk, rfl, rfl, hrw⟩ := hrel
      have hJr := hJ6.below hbl hJ6.lt
      obtain ⟨j0, j1, j2, j3⟩ := hJr.four
      have e3 : IntKind.i64.wrap ((k : Int) + 1 + 1) = (k : Int) + 1 + 1 := IntWalk.i64_in _ (by omega)
      by_cases hlt : k < n
      · have i0 : (k : Int) + 1 ≤ (n : Int) := by omega
        have HN := Lib.hid (singles_next hlt)
        have HRW := Lib.hid hrw
        have hsz := hbl.size
        have hrw1 := (hrw.below ((Below.refl _ _).alloc (Nat.le_refl _) (.cells #[.int .i64 ((k : Int) + 1)] 3)))
        obtain ⟨V1, hV1⟩ : ∃ V1, V1 = wr.alloc (.cells #[.int .i64 ((k : Int) + 1)] 3) := ⟨_, rfl⟩
        have hg1 : V1.heap.size = wr.heap.size + 1 := by rw [hV1]; simp
        have hbk : Blk V1 wr.heap.size 3 (ints [(k : Int) + 1]) := by rw [hV1]; exact Blk.new _ _ _
        rw [← hV1] at hrw1
        have hrw2 := hrw1.below ((Below.refl _ _).alloc (Nat.le_refl _) (.cells #[.slice (some ⟨wr.heap.size, 0, none⟩) 1 1] 38))
        have hbk2 := hbk.alloc (.cells #[.slice (some ⟨wr.heap.size, 0, none⟩) 1 1] 38)
        have hb2 : Blk (V1.alloc (.cells #[.slice (some ⟨wr.heap.size, 0, none⟩) 1 1] 38)) V1.heap.size 38 #[.slice (some ⟨wr.heap.size, 0, none⟩) 1 1] := Blk.new _ _ _
        have hbel : Below w6.heap.size w6 (V1.alloc (.cells #[.slice (some ⟨wr.heap.size, 0, none⟩) 1 1] 38)) := by rw [hV1]; exact (by repeat (first | exact Below.refl _ _ | assumption | apply Below.drew | apply below_drewN | apply Bel.alloc | (refine Bel.setCell_ ?_ ?_; rotate_left; omega) | (refine Bel.step ?_ (by assumption))))
        have hne : blkOf A3 ≠ some wr.heap.size := fun e => by have := (hrw.1.lt _ e).2; omega
        rw [hV1, show (wr.alloc (.cells #[.int .i64 ((k : Int) + 1)] 3)).heap.size = wr.heap.size + 1 by simp] at hb2
        rw [hV1] at hrw2 hbk2 hbel
        have hown := hrw2.1
        have hrd := hb2.rds (s := 1) (m := 1) rfl
        clear hrw hrw1 hbk hV1 hg1
        go_wp2_with (at_builtin; with_reducible refine wpList_app rfl (.tmp 38) (.tmp 41) 28 rfl 38 _ 1 24 infoR Tryz.underlying28 rfl (by omega) rfl rfl hown hrd (slice_one _ _ _) (by omega) (by omega) (by simp; omega) ?_)
        intro A' c' w' hown' hg' hat
        have hP := Lib.hid (hrw2.push hown' hg' (by simpa using hat) (hbk2.rdI rfl) (fun g e => by
          cases e
          exact ⟨by simp; omega, hne⟩) (by omega) (by omega))
        have hbn : Below w6.heap.size w6 w' := Bel.grownOwn hbel hg' hown (by simp; omega)
        clear hown' hg' hat hown hrd hrw2 hbk2 hb2 hbel
        go_wp2
        go_roundw
        case rel => exact ⟨hbn, k + 1, A', c', _, by omega, by go_num, rfl, by rw [HN.out]; exact hP.out⟩
        case measure => simp [intOf]; omega
      · obtain rfl : k = n := by omega
        rw [List.take_of_length_le (by simp [singles])] at hrw
        have hT2 := hrw.rdT
        have i0 : ¬ (k : Int) + 1 ≤ (k : Int) := by omega
        have hbw : Below w.heap.size w wr := Bel.step hb6 hbl
        have hR2 := HR6.out.below hbl
        clear hrw
        go_wp2_with fail
        with_reducible refine (refTotal_any T A5 (k + 1) tc m5 c5 ls R wr (HRT.out _ hbw) (sq_of HSQ.out) (by omega) hR2 HSH.out (by omega)).mono ?_
        rintro e w7 ⟨rfl, hb⟩
        have hbw7 : Below w.heap.size w w7 := Bel.step hbw hb
        have hT3 := hT2.below hb
        clear hb hR2 hT2
        go_wp2_with fail
        with_reducible refine (refTotal_any T A3 (k + 1) tc k c3 ls (singles k) w7 (HRT.out _ hbw7) (sq_of HSQ.out) (by omega) hT3 (singles_short k) (by omega)).mono ?_
        rintro e w8 ⟨rfl, hb⟩
        have hbw8 : Below w.heap.size w w8 := Bel.step hbw7 hb
        clear hb hT3
        have e4 := HTO.out
        go_wp2_with fail
        go_ret
        exact ⟨rfl, hbw8⟩
end Go.Proofs.YtjphjbchhhembaaGreatDoor
