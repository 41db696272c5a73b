/- save.List, walked. -/
import Derived.Test.YtjphjbchhhembaaGreatDoorList
namespace Go.Proofs.YtjphjbchhhembaaGreatDoor
open Go.RowKit

attribute [local go_sem ↓] Go.wp_at_zero Go.wp_at_succ

/-- The savings of a table of N + 1 points. -/
def allSv (ls : List (List Int)) : List Sv := rawSv ls (ls.length - 1) (ls.length - 1)

/-- What is saved, from the three costs. -/
def sv3 (a b : Nat) (home out over : Int) : List Sv := if a = b ∨ home ≥ 1152921504606846976 ∨ out ≥ 1152921504606846976 ∨ over ≥ 1152921504606846976 ∨ home + out - over ≤ 0 then [] else [((a : Int) + 1, (b : Int) + 1, home + out - over)]
theorem svOf_eq (ls : List (List Int)) (a b : Nat) : svOf ls a b = sv3 a b (stepC ls (a + 1) 0) (stepC ls 0 (b + 1)) (stepC ls (a + 1) (b + 1)) := rfl

set_option maxHeartbeats 4000000 in
theorem list_any (A : Option Addr) (n c : Nat) (ls : List (List Int)) (w : World) (h : RdT w A n ls) (hs : sqB n ls = true) (hn : n ≤ 1000) (hn0 : 0 < n) :
    Calls Tryz.prog 13 #[.slice A n c] w fun e w' => ∃ A' m c' L, e = .returned (.slice A' m c') ∧ RdS w' A' m L ∧ L.Perm (allSv ls) ∧ L.Pairwise svLt ∧ (∀ g, g < w.heap.size → blkOf A' ≠ some g) ∧ Below w.heap.size w w' := by
  obtain ⟨N, rfl⟩ : ∃ N, n = N + 1 := ⟨n - 1, by omega⟩
  have HQ := Lib.hid (show Calls Tryz.prog 34 #[.int .i64 ((N : Int) + 1), .slice A (N + 1) c] w fun e w' => e = .returned .nilIface ∧ w = w' from jobSquare_ok A (N + 1) c ls w h hs (by omega))
  have HSQ := Lib.hid (sq_of hs)
  have hcost : ∀ i j : Nat, i < N + 1 → j < N + 1 → 0 ≤ stepC ls i j ∧ stepC ls i j ≤ INF := fun i j hi hj => by
    obtain ⟨hlen, hrow⟩ := sq_of hs
    have h1 : ls[i]? = some ls[i] := List.getElem?_eq_getElem (by omega)
    have h2 := hrow i _ h1
    have h3 : ls[i][j]? = some ls[i][j] := List.getElem?_eq_getElem (by omega)
    rw [stepC_eq h1 h3]
    exact (sqB_get hs h1).2 _ (List.getElem_mem _)
  have HC := Lib.hid hcost
  have HL := Lib.hid (show ls.length - 1 = N by have := (sq_of hs).1; omega)
  clear hs hcost
  go_enter Tryz.func13, Tryz.ntmps13
  go_wp2_with fail
  with_reducible refine (HQ.out).mono ?_
  rintro e w' ⟨rfl, rfl⟩
  clear HQ
  go_wp2_with fail
  go_loopw [3, 4] (fun a i W => Below w.heap.size w W ∧ ∃ (k m : Nat) (A3 : Option Addr) (c3 : Nat), k ≤ N ∧ i = .int .i64 ((k : Int) + 1) ∧ a = .slice A3 m c3 ∧ Own W w.heap.size 50 3 A3 m c3 (scells (rawSv ls N k)) ∧ m = (rawSv ls N k).length) (fun _ i _ => (N + 1) - (intOf i).toNat)
  case atStart => exact ⟨Below.refl _ _, 0, 0, none, 0, Nat.zero_le _, rfl, rfl, Own.nil _ _ _ _, rfl⟩
  case round =>
    obtain ⟨hbl, k, m, A3, c3, hk, rfl, rfl, hown, hm⟩ := hrel
    have hml := rawSv_len ls N k
    by_cases hlt : k < N
    · have HM := Lib.hid hm
      clear hm
      obtain ⟨wo, rfl⟩ : ∃ wo : World, wo = wr := ⟨_, rfl⟩
      go_wp2_with fail
      go_loopw [3, 5] (fun a i W => Below w.heap.size w W ∧ ∃ (q m : Nat) (A3 : Option Addr) (c3 : Nat), q ≤ N ∧ i = .int .i64 ((q : Int) + 1) ∧ a = .slice A3 m c3 ∧ Own W w.heap.size 50 3 A3 m c3 (scells (rawSv ls N k ++ rowSv ls k q)) ∧ m = (rawSv ls N k ++ rowSv ls k q).length) (fun _ i _ => (N + 1) - (intOf i).toNat)
      case atStart => exact ⟨hbl, 0, m, A3, c3, Nat.zero_le _, rfl, rfl, by simpa [rowSv] using hown, by rw [HM.out]; simp [rowSv]⟩
      case round =>
        clear hbl hown
        obtain ⟨hbl, q, m2, A4, c4, hq, rfl, rfl, hown, hm2⟩ := hrel
        have hrl := rowSv_len ls k q
        by_cases hlt2 : q < N
        · obtain ⟨b1, o1, b2, o2, c2, rfl, t1, t2⟩ := h.two HSQ.out (i := k + 1) (j := 0) (by omega) (by omega)
          obtain ⟨b1', o1', b3, o3, c3', e1, t3, t4⟩ := h.two HSQ.out (i := 0) (j := q + 1) (by omega) (by omega)
          obtain ⟨b1'', o1'', b4, o4, c4', e2, t5, t6⟩ := h.two HSQ.out (i := k + 1) (j := q + 1) (by omega) (by omega)
          cases e1; cases e2
          cases Option.some.inj (t1.symm.trans t5)
          have d1 := HC.out (k + 1) 0 (by omega) (by omega)
          have d2 := HC.out 0 (q + 1) (by omega) (by omega)
          have d3 := HC.out (k + 1) (q + 1) (by omega) (by omega)
          have HV := Lib.hid (svOf_eq ls k q)
          have HM2 := Lib.hid hm2
          have HN := Lib.hid (rowSv_next ls k q)
          rw [Nat.add_zero] at t2 t3
          generalize stepC ls (k + 1) 0 = home at *
          generalize stepC ls 0 (q + 1) = out at *
          generalize stepC ls (k + 1) (q + 1) = over at *
          unfold INF at d1 d2 d3
          have HSX := Lib.hid (show ∀ V, Below w.heap.size w V → V.cell? ⟨b1, o1 + (k + 1), none⟩ = some (.slice (some ⟨b2, o2, none⟩) (N + 1) c2) ∧ V.cell? ⟨b2, o2, none⟩ = some (.int .i64 home) ∧ V.cell? ⟨b1, o1, none⟩ = some (.slice (some ⟨b3, o3, none⟩) (N + 1) c3') ∧ V.cell? ⟨b3, o3 + (q + 1), none⟩ = some (.int .i64 out) ∧
              V.cell? ⟨b2, o2 + (q + 1), none⟩ = some (.int .i64 over) from
            fun V hb => ⟨Below.cellOf hb (Nat.le_refl _) t1, Below.cellOf hb (Nat.le_refl _) t2, Below.cellOf hb (Nat.le_refl _) t3, Below.cellOf hb (Nat.le_refl _) t4, Below.cellOf hb (Nat.le_refl _) t6⟩)
          have i1 : (0 : Int) ≤ (k : Int) + 1 := by omega
          have i2 : (k : Int) + 1 < (N : Int) + 1 := by omega
          have i3 : (0 : Int) ≤ (q : Int) + 1 := by omega
          have i4 : (q : Int) + 1 < (N : Int) + 1 := by omega
          have i5 : (0 : Int) < (N : Int) + 1 := by omega
          have n1 : ((k : Int) + 1).toNat = k + 1 := by omega
          have n2 : ((q : Int) + 1).toNat = q + 1 := by omega
          clear t1 t2 t3 t4 t5 t6 hm2
          go_wp2_with fail
          refine wp_region_held_drew (S := fun V => Below w.heap.size w V) (by kernel_rfl) (by repeat (first | exact Below.refl _ _ | assumption | apply Below.drew | apply below_drewN | apply Bel.alloc | (refine Bel.setCell_ ?_ ?_; rotate_left; omega) | (refine Bel.step ?_ (by assumption)))) (fun _ => ?_)
          refine take_ (i := 0) (d := some 26) (v := ?_) rfl rfl (by kernel_rfl) (by kernel_rfl) (by kernel_rfl) (fun _ _ _ h => h) (by rfl) ?_ (by first | rfl | trivial | assumption) ?_
          rotate_left
          · (intro V hSw; (try (have hF := HSX.out V hSw)); (try (cases hSw)); (try go_split_ands); go_simp; try with_reducible rfl)
          simp only [Act.put, List.setIfInBounds_toArray, List.set_cons_zero, List.set_cons_succ]
          refine take_ (i := 1) (d := some 27) (v := ?_) rfl rfl (by kernel_rfl) (by kernel_rfl) (by kernel_rfl) (fun _ _ _ h => h) (by rfl) ?_ (by first | rfl | trivial | assumption) ?_
          rotate_left
          · (intro V hSw; (try (have hF := HSX.out V hSw)); (try (cases hSw)); (try go_split_ands); go_simp; try with_reducible rfl)
          simp only [Act.put, List.setIfInBounds_toArray, List.set_cons_zero, List.set_cons_succ]
          refine take_ (i := 2) (d := some 28) (v := ?_) rfl rfl (by kernel_rfl) (by kernel_rfl) (by kernel_rfl) (fun _ _ _ h => h) (by rfl) ?_ (by first | rfl | trivial | assumption) ?_
          rotate_left
          · (intro V hSw; (try (have hF := HSX.out V hSw)); (try (cases hSw)); (try go_split_ands); go_simp; try with_reducible rfl)
          simp only [Act.put, List.setIfInBounds_toArray, List.set_cons_zero, List.set_cons_succ]
          refine take_ (i := 3) (d := some 29) (v := ?_) rfl rfl (by kernel_rfl) (by kernel_rfl) (by kernel_rfl) (fun _ _ _ h => h) (by rfl) ?_ (by first | rfl | trivial | assumption) ?_
          rotate_left
          · (intro V hSw; (try (have hF := HSX.out V hSw)); (try (cases hSw)); (try go_split_ands); go_simp; try with_reducible rfl)
          simp only [Act.put, List.setIfInBounds_toArray, List.set_cons_zero, List.set_cons_succ]
          refine take_ (i := 4) (d := some 30) (v := ?_) rfl rfl (by kernel_rfl) (by kernel_rfl) (by kernel_rfl) (fun _ _ _ h => h) (by rfl) ?_ (by first | rfl | trivial | assumption) ?_
          rotate_left
          · (intro V hSw; (try (have hF := HSX.out V hSw)); (try (cases hSw)); (try go_split_ands); go_simp; try with_reducible rfl)
          simp only [Act.put, List.setIfInBounds_toArray, List.set_cons_zero, List.set_cons_succ]
          refine take_ (i := 5) (d := some 31) (v := ?_) rfl rfl (by kernel_rfl) (by kernel_rfl) (by kernel_rfl) (fun _ _ _ h => h) (by rfl) ?_ (by first | rfl | trivial | assumption) ?_
          rotate_left
          · (intro V hSw; (try (have hF := HSX.out V hSw)); (try (cases hSw)); (try go_split_ands); go_simp; try with_reducible rfl)
          simp only [Act.put, List.setIfInBounds_toArray, List.set_cons_zero, List.set_cons_succ]
          refine take_ (i := 6) (d := some 32) (v := ?_) rfl rfl (by kernel_rfl) (by kernel_rfl) (by kernel_rfl) (fun _ _ _ h => h) (by rfl) ?_ (by first | rfl | trivial | assumption) ?_
          rotate_left
          · (intro V hSw; (try (have hF := HSX.out V hSw)); (try (cases hSw)); (try go_split_ands); go_simp; try with_reducible rfl)
          simp only [Act.put, List.setIfInBounds_toArray, List.set_cons_zero, List.set_cons_succ]
          refine take_ (i := 7) (d := some 33) (v := ?_) rfl rfl (by kernel_rfl) (by kernel_rfl) (by kernel_rfl) (fun _ _ _ h => h) (by rfl) ?_ (by first | rfl | trivial | assumption) ?_
          rotate_left
          · (intro V hSw; (try (have hF := HSX.out V hSw)); (try (cases hSw)); (try go_split_ands); go_simp; try with_reducible rfl)
          simp only [Act.put, List.setIfInBounds_toArray, List.set_cons_zero, List.set_cons_succ]
          refine take_ (i := 8) (d := some 34) (v := ?_) rfl rfl (by kernel_rfl) (by kernel_rfl) (by kernel_rfl) (fun _ _ _ h => h) (by rfl) ?_ (by first | rfl | trivial | assumption) ?_
          rotate_left
          · (intro V hSw; (try (have hF := HSX.out V hSw)); (try (cases hSw)); (try go_split_ands); go_simp; try with_reducible rfl)
          simp only [Act.put, List.setIfInBounds_toArray, List.set_cons_zero, List.set_cons_succ]
          refine take_ (i := 9) (d := some 35) (v := ?_) rfl rfl (by kernel_rfl) (by kernel_rfl) (by kernel_rfl) (fun _ _ _ h => h) (by rfl) ?_ (by first | rfl | trivial | assumption) ?_
          rotate_left
          · (intro V hSw; (try (have hF := HSX.out V hSw)); (try (cases hSw)); (try go_split_ands); go_simp; try with_reducible rfl)
          simp only [Act.put, List.setIfInBounds_toArray, List.set_cons_zero, List.set_cons_succ]
          refine take_ (i := 10) (d := some 36) (v := ?_) rfl rfl (by kernel_rfl) (by kernel_rfl) (by kernel_rfl) (fun _ _ _ h => h) (by rfl) ?_ (by first | rfl | trivial | assumption) ?_
          rotate_left
          · (intro V hSw; (try (have hF := HSX.out V hSw)); (try (cases hSw)); (try go_split_ands); go_simp; try with_reducible rfl)
          simp only [Act.put, List.setIfInBounds_toArray, List.set_cons_zero, List.set_cons_succ]
          refine take_ (i := 11) (d := some 37) (v := ?_) rfl rfl (by kernel_rfl) (by kernel_rfl) (by kernel_rfl) (fun _ _ _ h => h) (by rfl) ?_ (by first | rfl | trivial | assumption) ?_
          rotate_left
          · (intro V hSw; (try (have hF := HSX.out V hSw)); (try (cases hSw)); (try go_split_ands); go_simp; try with_reducible rfl)
          simp only [Act.put, List.setIfInBounds_toArray, List.set_cons_zero, List.set_cons_succ]
          refine take_ (i := 12) (d := some 38) (v := ?_) rfl rfl (by kernel_rfl) (by kernel_rfl) (by kernel_rfl) (fun _ _ _ h => h) (by rfl) ?_ (by first | rfl | trivial | assumption) ?_
          rotate_left
          · (intro V hSw; (try (have hF := HSX.out V hSw)); (try (cases hSw)); (try go_split_ands); go_simp; try with_reducible rfl)
          simp only [Act.put, List.setIfInBounds_toArray, List.set_cons_zero, List.set_cons_succ]
          refine take_ (i := 13) (d := some 39) (v := ?_) rfl rfl (by kernel_rfl) (by kernel_rfl) (by kernel_rfl) (fun _ _ _ h => h) (by rfl) ?_ (by first | rfl | trivial | assumption) ?_
          rotate_left
          · (intro V hSw; (try (have hF := HSX.out V hSw)); (try (cases hSw)); (try go_split_ands); go_simp; try with_reducible rfl)
          simp only [Act.put, List.setIfInBounds_toArray, List.set_cons_zero, List.set_cons_succ]
          refine take_ (i := 14) (d := some 40) (v := ?_) rfl rfl (by kernel_rfl) (by kernel_rfl) (by kernel_rfl) (fun _ _ _ h => h) (by rfl) ?_ (by first | rfl | trivial | assumption) ?_
          rotate_left
          · (intro V hSw; (try (have hF := HSX.out V hSw)); (try (cases hSw)); (try go_split_ands); go_simp; try with_reducible rfl)
          simp only [Act.put, List.setIfInBounds_toArray, List.set_cons_zero, List.set_cons_succ]
          refine take_ (i := 15) (d := some 41) (v := ?_) rfl rfl (by kernel_rfl) (by kernel_rfl) (by kernel_rfl) (fun _ _ _ h => h) (by rfl) ?_ (by first | rfl | trivial | assumption) ?_
          rotate_left
          · (intro V hSw; (try (have hF := HSX.out V hSw)); (try (cases hSw)); (try go_split_ands); go_simp; try with_reducible rfl)
          simp only [Act.put, List.setIfInBounds_toArray, List.set_cons_zero, List.set_cons_succ]
          refine take_ (i := 16) (d := some 42) (v := ?_) rfl rfl (by kernel_rfl) (by kernel_rfl) (by kernel_rfl) (fun _ _ _ h => h) (by rfl) ?_ (by first | rfl | trivial | assumption) ?_
          rotate_left
          · (intro V hSw; (try (have hF := HSX.out V hSw)); (try (cases hSw)); (try go_split_ands); go_simp; try with_reducible rfl)
          simp only [Act.put, List.setIfInBounds_toArray, List.set_cons_zero, List.set_cons_succ]
          refine take_ (i := 17) (d := some 43) (v := ?_) rfl rfl (by kernel_rfl) (by kernel_rfl) (by kernel_rfl) (fun _ _ _ h => h) (by rfl) ?_ (by first | rfl | trivial | assumption) ?_
          rotate_left
          · (intro V hSw; (try (have hF := HSX.out V hSw)); (try (cases hSw)); (try go_split_ands); go_simp; try with_reducible rfl)
          simp only [Act.put, List.setIfInBounds_toArray, List.set_cons_zero, List.set_cons_succ]
          refine take_ (i := 18) (d := some 44) (v := ?_) rfl rfl (by kernel_rfl) (by kernel_rfl) (by kernel_rfl) (fun _ _ _ h => h) (by rfl) ?_ (by first | rfl | trivial | assumption) ?_
          rotate_left
          · (intro V hSw; (try (have hF := HSX.out V hSw)); (try (cases hSw)); (try go_split_ands); go_simp; try with_reducible rfl)
          simp only [Act.put, List.setIfInBounds_toArray, List.set_cons_zero, List.set_cons_succ]
          refine take_ (i := 19) (d := some 6) (v := ?_) rfl rfl (by kernel_rfl) (by kernel_rfl) (by kernel_rfl) (fun _ _ _ h => h) (by rfl) ?_ (by first | rfl | trivial | assumption) ?_
          rotate_left
          · (intro V hSw; (try (have hF := HSX.out V hSw)); (try (cases hSw)); (try go_split_ands); go_simp; try with_reducible rfl)
          simp only [Act.put, List.setIfInBounds_toArray, List.set_cons_zero, List.set_cons_succ]
          refine take_ (i := 20) (d := some 7) (v := ?_) rfl rfl (by kernel_rfl) (by kernel_rfl) (by kernel_rfl) (fun _ _ _ h => h) (by rfl) ?_ (by first | rfl | trivial | assumption) ?_
          rotate_left
          · (intro V hSw; (try (have hF := HSX.out V hSw)); (try (cases hSw)); (try go_split_ands); go_simp; try with_reducible rfl)
          simp only [Act.put, List.setIfInBounds_toArray, List.set_cons_zero, List.set_cons_succ]
          refine take_ (i := 21) (d := some 8) (v := ?_) rfl rfl (by kernel_rfl) (by kernel_rfl) (by kernel_rfl) (fun _ _ _ h => h) (by rfl) ?_ (by first | rfl | trivial | assumption) ?_
          rotate_left
          · (intro V hSw; (try (have hF := HSX.out V hSw)); (try (cases hSw)); (try go_split_ands); go_simp; try with_reducible rfl)
          simp only [Act.put, List.setIfInBounds_toArray, List.set_cons_zero, List.set_cons_succ]
          refine wpAnyH_done (by kernel_rfl) ?_ _
          have w1 : IntKind.i64.wrap (home + out) = home + out := IntWalk.i64_in _ (by omega)
          have w2 : IntKind.i64.wrap (home + out - over) = home + out - over := IntWalk.i64_in _ (by omega)
          by_cases c0 : k = q
          · have HE := Lib.hid (show svOf ls k q = [] by rw [HV.out]; unfold sv3; rw [if_pos (Or.inl c0)])
            subst c0
            go_wp2_with fail
            go_roundw
            case rel => exact ⟨(by repeat (first | exact Below.refl _ _ | assumption | apply Below.drew | apply below_drewN | apply Bel.alloc | (refine Bel.setCell_ ?_ ?_; rotate_left; omega) | (refine Bel.step ?_ (by assumption)))), k + 1, m2, A4, c4, by omega, by go_num, rfl, by rw [HN.out, HE.out, List.append_nil]; exact (by repeat (first | assumption | apply Own.drewN | apply Own.drew | apply Own.alloc)), by rw [HN.out, HE.out, List.append_nil]; exact HM2.out⟩
            case measure => simp [intOf]; omega
          · have e0 : (((k : Int) + 1) == ((q : Int) + 1)) = false := by simp; omega
            have e1 : ((k : Int) == (q : Int)) = false := by simp; omega
            have C0 := Lib.hid c0
            clear c0
            by_cases g1 : 1152921504606846976 ≤ home
            ·
              have HE := Lib.hid (show svOf ls k q = [] by rw [HV.out]; unfold sv3; rw [if_pos (Or.inr (Or.inl g1))])
              go_wp2_with fail
              go_roundw
              case rel => exact ⟨(by repeat (first | exact Below.refl _ _ | assumption | apply Below.drew | apply below_drewN | apply Bel.alloc | (refine Bel.setCell_ ?_ ?_; rotate_left; omega) | (refine Bel.step ?_ (by assumption)))), q + 1, m2, A4, c4, by omega, by go_num, rfl, by rw [HN.out, HE.out, List.append_nil]; exact (by repeat (first | assumption | apply Own.drewN | apply Own.drew | apply Own.alloc)), by rw [HN.out, HE.out, List.append_nil]; exact HM2.out⟩
              case measure => simp [intOf]; omega
            · by_cases g2 : 1152921504606846976 ≤ out
              ·
                have HE := Lib.hid (show svOf ls k q = [] by rw [HV.out]; unfold sv3; rw [if_pos (Or.inr (Or.inr (Or.inl g2)))])
                go_wp2_with fail
                go_roundw
                case rel => exact ⟨(by repeat (first | exact Below.refl _ _ | assumption | apply Below.drew | apply below_drewN | apply Bel.alloc | (refine Bel.setCell_ ?_ ?_; rotate_left; omega) | (refine Bel.step ?_ (by assumption)))), q + 1, m2, A4, c4, by omega, by go_num, rfl, by rw [HN.out, HE.out, List.append_nil]; exact (by repeat (first | assumption | apply Own.drewN | apply Own.drew | apply Own.alloc)), by rw [HN.out, HE.out, List.append_nil]; exact HM2.out⟩
                case measure => simp [intOf]; omega
              · by_cases g3 : 1152921504606846976 ≤ over
                ·
                  have HE := Lib.hid (show svOf ls k q = [] by rw [HV.out]; unfold sv3; rw [if_pos (Or.inr (Or.inr (Or.inr (Or.inl g3))))])
                  go_wp2_with fail
                  go_roundw
                  case rel => exact ⟨(by repeat (first | exact Below.refl _ _ | assumption | apply Below.drew | apply below_drewN | apply Bel.alloc | (refine Bel.setCell_ ?_ ?_; rotate_left; omega) | (refine Bel.step ?_ (by assumption)))), q + 1, m2, A4, c4, by omega, by go_num, rfl, by rw [HN.out, HE.out, List.append_nil]; exact (by repeat (first | assumption | apply Own.drewN | apply Own.drew | apply Own.alloc)), by rw [HN.out, HE.out, List.append_nil]; exact HM2.out⟩
                  case measure => simp [intOf]; omega
                · by_cases g4 : home + out - over ≤ 0
                  ·
                    have HE := Lib.hid (show svOf ls k q = [] by rw [HV.out]; unfold sv3; rw [if_pos (Or.inr (Or.inr (Or.inr (Or.inr g4))))])
                    go_wp2_with fail
                    go_roundw
                    case rel => exact ⟨(by repeat (first | exact Below.refl _ _ | assumption | apply Below.drew | apply below_drewN | apply Bel.alloc | (refine Bel.setCell_ ?_ ?_; rotate_left; omega) | (refine Bel.step ?_ (by assumption)))), q + 1, m2, A4, c4, by omega, by go_num, rfl, by rw [HN.out, HE.out, List.append_nil]; exact (by repeat (first | assumption | apply Own.drewN | apply Own.drew | apply Own.alloc)), by rw [HN.out, HE.out, List.append_nil]; exact HM2.out⟩
                    case measure => simp [intOf]; omega
                  · have HE := Lib.hid (show svOf ls k q = [((k : Int) + 1, (q : Int) + 1, home + out - over)] by rw [HV.out]; unfold sv3; rw [if_neg (by rintro (h | h | h | h | h) <;> first | exact C0.out h | omega)])
                    have hown1 := (hown.alloc (.cells #[.int .i64 ((k : Int) + 1), .int .i64 ((q : Int) + 1), .int .i64 (home + out - over)] 50)).drew
                    have hbl1 : Below w.heap.size w (wr.alloc (.cells #[.int .i64 ((k : Int) + 1), .int .i64 ((q : Int) + 1), .int .i64 (home + out - over)] 50)).drew := (by repeat (first | exact Below.refl _ _ | assumption | apply Below.drew | apply below_drewN | apply Bel.alloc | (refine Bel.setCell_ ?_ ?_; rotate_left; omega) | (refine Bel.step ?_ (by assumption))))
                    have hb1 := (Blk.new wr 50 #[.int .i64 ((k : Int) + 1), .int .i64 ((q : Int) + 1), .int .i64 (home + out - over)]).drew
                    have hsz : w.heap.size ≤ wr.heap.size := hbl.size
                    have hm3 : m2 ≤ k * N + q := by rw [HM2.out, List.length_append]; omega
                    have hkN : k * N ≤ 1000 * 1000 := Nat.mul_le_mul (by omega) (by omega)
                    go_wp2_with (at_builtin; with_reducible refine wpList_app rfl (.tmp 63) (.tmp 72) 47 rfl 50 _ 3 24 infoSv Tryz.underlying47 rfl (by omega) rfl rfl hown1 (hb1.rds rfl) (by simp [Value.oneCell']) (by omega) (by omega) (by simp; omega) ?_)
                    intro A6 c6 w6 hown6 hg6 _
                    have hb6 := Bel.grownOwn hbl1 hg6 hown1 (by simp; omega)
                    clear hown hbl hown1 hbl1 hb1 hg6
                    go_wp2
                    go_roundw
                    case rel => exact ⟨hb6, q + 1, m2 + 1, A6, c6, by omega, by go_num, rfl, by rw [HN.out, HE.out, ← List.append_assoc, scells_app]; exact hown6, by rw [HN.out, HE.out, ← List.append_assoc, List.length_append, ← HM2.out]; rfl⟩
                    case measure => simp [intOf]; omega
        · obtain rfl : q = N := by omega
          have HM2 := Lib.hid hm2
          have HR := Lib.hid (rawSv_next ls q k)
          clear hm2
          go_wp2_with fail
          go_roundw
          case rel => exact ⟨(by repeat (first | exact Below.refl _ _ | assumption | apply Below.drew | apply below_drewN | apply Bel.alloc | (refine Bel.setCell_ ?_ ?_; rotate_left; omega) | (refine Bel.step ?_ (by assumption)))), k + 1, m2, A4, c4, by omega, by go_num, rfl, by rw [HR.out]; exact (by repeat (first | assumption | apply Own.drewN | apply Own.drew | apply Own.alloc)), by rw [HR.out]; exact HM2.out⟩
          case measure => simp [intOf]; omega
    · obtain rfl : k = N := by omega
      have HM := Lib.hid hm
      have hm3 : m ≤ 1000 * 1000 := by rw [hm]; exact Nat.le_trans hml (Nat.mul_le_mul (by omega) (by omega))
      have HS := Lib.hid (sortSv A3 m c3 w.heap.size (rawSv ls k k) wr hown (rawSv_nodup ls k k) hbl.size (by omega))
      have HA := Lib.hid (show allSv ls = rawSv ls k k by unfold allSv; rw [HL.out])
      clear hm hml hown
      go_wp2_with fail
      with_reducible refine (HS.out).mono ?_
      rintro e w2 ⟨rfl, ⟨L', hp, hpw, hrd⟩, hb2⟩
      have hb3 : Below w.heap.size w w2 := hbl.trans hb2
      go_wp2_with fail
      with_reducible refine (cloneSv_any _ _ _ _ _ hrd (by omega)).mono ?_
      rintro e w3 ⟨A7, c7, rfl, hrd7, hfr7, hb7⟩
      have hz7 := hb3.size
      go_wp2_with fail
      go_ret
      exact ⟨A7, m, c7, L', rfl, hrd7, by rw [HA.out]; exact hp, hpw, (fun g hg => hfr7 g (by omega)), (by repeat (first | exact Below.refl _ _ | assumption | apply Below.drew | apply below_drewN | apply Bel.alloc | (refine Bel.setCell_ ?_ ?_; rotate_left; omega) | (refine Bel.step ?_ (by assumption))))⟩
end Go.Proofs.YtjphjbchhhembaaGreatDoor
