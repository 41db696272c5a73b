/- The document's Right, Total: of right rounds it tells true. -/
import Derived.Test.YtjphjbchhhembaaGreatDoorRef
namespace Go.Proofs.YtjphjbchhhembaaGreatDoor
open Go.RowKit

attribute [local go_sem ↓] Go.wp_at_zero Go.wp_at_succ

theorem infoInt : (Tryz.prog.info? 3).map (fun i => (i.zero, i.size, i.bytes)) = some (some (.int .i64 0), 1, 8) := by kernel_rfl

def totalR (ls : List (List Int)) (rs : List (List Int)) : Int := rs.foldl (fun a r => add2 a (lenR ls r)) 0
theorem totalR_next {ls rs : List (List Int)} {k : Nat} {r : List Int} (h : rs[k]? = some r) : totalR ls (rs.take (k + 1)) = add2 (totalR ls (rs.take k)) (lenR ls r) := by
  have hlt := (List.getElem?_eq_some_iff.1 h).1
  have e := (List.getElem?_eq_some_iff.1 h).2
  unfold totalR
  rw [List.take_succ_eq_append_getElem hlt, e]
  simp [List.foldl_append]

/-- The routes are long enough to be told of, and no longer. -/
def Short (rs : List (List Int)) : Prop := ∀ r ∈ rs, r.length ≤ 1000000000

/-- Right rounds. -/
def RightP (N : Nat) (cap lim : Int) (ls : List (List Int)) (st : List (Int × Int)) (rs : List (List Int)) : Prop :=
  (∀ r ∈ rs, r ≠ [] ∧ goesB cap lim ls st r = true) ∧ rs.flatten.Nodup ∧ (∀ s ∈ rs.flatten, 1 ≤ s ∧ s ≤ N) ∧ rs.flatten.length = N

/-- what is seen: 1 at those that are in P -/
def Seen (N : Nat) (sl P : List Int) : Prop := sl.length = N + 1 ∧ ∀ s : Nat, s ≤ N → sl[s]? = some (if (s : Int) ∈ P then 1 else 0)
theorem Seen.start (N : Nat) : Seen N (List.replicate (N + 1) 0) [] := ⟨by simp, fun s hs => by rw [List.getElem?_replicate, if_pos (by omega)]; simp⟩
theorem Seen.next {N : Nat} {sl P : List Int} (h : Seen N sl P) {y : Nat} (hy : y ≤ N) : Seen N (sl.set y 1) (P ++ [(y : Int)]) := by
  refine ⟨by rw [List.length_set]; exact h.1, fun s hs => ?_⟩
  rw [List.getElem?_set]
  by_cases e : y = s
  · subst e
    rw [if_pos rfl, if_pos (by rw [h.1]; omega)]
    simp
  · rw [if_neg e, h.2 s hs]
    have h5 : ¬ ((s : Int) = (y : Int)) := by omega
    simp [h5]
theorem flat_next {rs : List (List Int)} {i : Nat} {r : List Int} (h : rs[i]? = some r) : (rs.take (i + 1)).flatten = (rs.take i).flatten ++ r := by
  have hlt := (List.getElem?_eq_some_iff.1 h).1
  have e := (List.getElem?_eq_some_iff.1 h).2
  rw [List.take_succ_eq_append_getElem hlt, e]
  simp
theorem flat_pre {rs : List (List Int)} {i k : Nat} {r : List Int} {y : Int} (h : rs[i]? = some r) (g : r[k]? = some y) : ∃ t, rs.flatten = ((rs.take i).flatten ++ r.take k) ++ y :: t := by
  have e1 : rs = rs.take (i + 1) ++ rs.drop (i + 1) := (List.take_append_drop _ _).symm
  have hk := (List.getElem?_eq_some_iff.1 g).1
  have e3 : r = r.take k ++ y :: r.drop (k + 1) := by
    have := List.take_append_drop k r
    rw [List.drop_eq_getElem_cons hk, (List.getElem?_eq_some_iff.1 g).2] at this
    exact this.symm
  refine ⟨r.drop (k + 1) ++ (rs.drop (i + 1)).flatten, ?_⟩
  have e4 : rs.flatten = (rs.take (i + 1)).flatten ++ (rs.drop (i + 1)).flatten := by
    conv => lhs; rw [e1]
    rw [List.flatten_append]
  rw [e4, flat_next h]
  conv => lhs; rw [e3]
  simp

set_option maxHeartbeats 4000000 in
theorem refRight_any (dep cap lim : Int) (A R T : Option Addr) (n c m d tn tc : Nat) (st : List (Int × Int)) (ls rs : List (List Int)) (w : World) (h : RdP w A n st) (hL : LdOk st) (hr : RdT w R m rs) (ht : RdT w T tn ls) (hs : Sq tn ls) (h0 : 0 < tn) (hn : n ≤ 1000000000) (hm : m ≤ 1000000000)
    (hR : RightP n cap lim ls st rs) :
    Calls Tryz.prog 9 #[jobV dep cap lim A n c, .slice T tn tc, .slice R m d] w fun e w' => e = .returned (.bool true) ∧ Below w.heap.size w w' := by
  obtain ⟨hR1, hR2, hR3, hR4⟩ := hR
  have hflen : ∀ r ∈ rs, r.length ≤ n := fun r hr => by
    rw [← hR4]
    obtain ⟨i, hi, e⟩ := List.getElem_of_mem hr
    have := flat_next (rs := rs) (i := i) (r := r) (by rw [List.getElem?_eq_getElem hi, e])
    have h2 : rs.flatten = (rs.take (i + 1)).flatten ++ (rs.drop (i + 1)).flatten := by
      conv => lhs; rw [← List.take_append_drop (i + 1) rs]
      rw [List.flatten_append]
    rw [h2, this]
    simp
    omega
  have HK := Lib.hid (show ∀ V, Below w.heap.size w V → ∀ A' n' c' l, RdI V A' n' l → l ∈ rs → Calls Tryz.prog 31 #[jobV dep cap lim A n c, .slice T tn tc, .slice A' n' c'] V fun e w' => e = .returned (.bool true) ∧ Below V.heap.size V w' from fun V hV A' n' c' l hl hm => (refGoes_any dep cap lim A A' T n c n' c' tn tc st l ls V (h.below hV) hL hl (ht.below hV) hs h0 (by omega) (by have := hl.1; have := hflen l hm; omega)).mono fun _ _ ⟨h1, h2⟩ => ⟨by rw [h1, (hR1 l hm).2], h2⟩)
  have HM := Lib.hid hr.1
  have HR1 := Lib.hid (show ∀ r ∈ rs, r ≠ [] from fun r hr => (hR1 r hr).1)
  have HR2 := Lib.hid hR2
  have HR3 := Lib.hid hR3
  have HR4 := Lib.hid hR4
  have HFL := Lib.hid hflen
  have hmk : ∀ W, (Instr.makeSlice 38 (.int .i64 ((n : Int) + 1)) (.int .i64 ((n : Int) + 1))).run Tryz.prog W = .ok (.slice (some ⟨W.heap.size, 0, none⟩) (n + 1) (n + 1)) (W.alloc (.cells (zeros (.int .i64 0) (n + 1)) 3)) :=
    fun W => run_make1 (P := Tryz.prog) 38 3 (.int .i64 0) 8 infoInt Tryz.underlying38 rfl (n + 1) (by omega) (by omega) .i64 .i64 W
  clear h hL ht hs hR1 hR2 hR3 hR4 hflen
  go_enter Tryz.func9, Tryz.ntmps9
  go_wp2_with fail
  (refine wp_named ?_; intro w1 hw1)
  have hb1 : Below w.heap.size w w1 := by rw [hw1]; exact (by repeat (first | exact Below.refl _ _ | assumption | apply Below.drew | apply below_drewN | apply Bel.alloc | (refine Bel.setCell_ ?_ ?_; rotate_left; omega) | (refine Bel.step ?_ (by assumption))))
  have hB1 : Blk w1 w.heap.size 24 #[.int .i64 dep, .int .i64 cap, .int .i64 lim, .slice A n c] := by rw [hw1]; exact Blk.alloc (Blk.new _ _ _) _
  have hB2 : Blk w1 (w.heap.size + 1) 3 (ints (List.replicate (n + 1) 0)) := by
    rw [hw1, zeros_int]
    exact Blk.new' _ _ _ (by simp)
  clear hw1 hmk
  go_loopw [8, 9] (fun a i W => Below w.heap.size w W ∧ Blk W w.heap.size 24 #[.int .i64 dep, .int .i64 cap, .int .i64 lim, .slice A n c] ∧ ∃ (k : Nat) (sl : List Int), k ≤ m ∧ i = .int .i64 k ∧ a = .int .i64 ((rs.take k).flatten.length : Nat) ∧
      Blk W (w.heap.size + 1) 3 (ints sl) ∧ Seen n sl (rs.take k).flatten) (fun _ i _ => m - (intOf i).toNat)
  case atStart => exact ⟨hb1, hB1, 0, _, Nat.zero_le _, rfl, rfl, hB2, Seen.start n⟩
  case round =>
    obtain ⟨hbl, hX, k, sl, hk, rfl, rfl, hY, hse⟩ := hrel
    by_cases hlt : k < m
    · obtain ⟨b, o, A', n', c', l, rfl, hl, hc, hr', _, _⟩ := hr.at_ hlt
      have hlm := List.mem_of_getElem? hl
      have hne : n' ≠ 0 := fun e => by
        have := hr'.1
        rw [e] at this
        exact HR1.out l hlm (List.length_eq_zero_iff.1 this)
      have e0 : ((n' : Int) == 0) = false := by simp; omega
      have hll := HFL.out l hlm
      have hll2 := hr'.1
      have j1 := Below.cellOf hbl (Nat.le_refl _) hc
      have HSE := Lib.hid hse
      have HX := Lib.hid hl
      have hfn := Lib.hid (flat_next hl)
      clear hne hse hl
      obtain ⟨wo, rfl⟩ : ∃ wo : World, wo = wr := ⟨_, rfl⟩
      go_wp2_with fail
      go_loopw [8, 10] (fun a i W => Below w.heap.size w W ∧ Blk W w.heap.size 24 #[.int .i64 dep, .int .i64 cap, .int .i64 lim, .slice A n c] ∧ ∃ (q : Nat) (sl : List Int), q ≤ n' ∧ i = .int .i64 q ∧ a = .int .i64 (((rs.take k).flatten ++ l.take q).length : Nat) ∧
        Blk W (w.heap.size + 1) 3 (ints sl) ∧ Seen n sl ((rs.take k).flatten ++ l.take q)) (fun _ i _ => n' - (intOf i).toNat)
      case atStart => exact ⟨hbl, hX, 0, sl, Nat.zero_le _, rfl, by simp, hY, by simpa using HSE.out⟩
      case round =>
        clear hbl hX hY j1
        obtain ⟨hbl, hX, q, sl, hq, rfl, rfl, hY, hse⟩ := hrel
        have j1 := Below.cellOf hbl (Nat.le_refl _) hc
        by_cases hlt2 : q < n'
        · obtain ⟨b2, o2, y, rfl, hy, hcy⟩ := hr'.at_ hlt2
          obtain ⟨t, hpre⟩ := flat_pre HX.out hy
          have hy1 := HR3.out y (by rw [hpre]; simp)
          have hnot : y ∉ ((rs.take k).flatten ++ l.take q) := fun hm => by
            have := HR2.out
            rw [hpre] at this
            rw [List.nodup_append] at this
            exact this.2.2 y hm y (by simp) rfl
          have hlen : ((rs.take k).flatten ++ l.take q).length ≤ n := by
            have h5 := HR4.out
            rw [hpre] at h5
            simp only [List.length_append, List.length_cons] at h5 ⊢
            omega
          have hnext : ((rs.take k).flatten ++ l.take (q + 1)).length = ((rs.take k).flatten ++ l.take q).length + 1 := by
            have := (List.getElem?_eq_some_iff.1 hy).1
            simp only [List.length_append, List.length_take]
            omega
          have htake : (rs.take k).flatten ++ l.take (q + 1) = ((rs.take k).flatten ++ l.take q) ++ [y] := by
            rw [List.take_succ_eq_append_getElem (List.getElem?_eq_some_iff.1 hy).1, (List.getElem?_eq_some_iff.1 hy).2]
            simp
          have HN := Lib.hid hnext
          have HT := Lib.hid htake
          obtain ⟨z, rfl⟩ : ∃ z : Nat, y = z := ⟨y.toNat, by omega⟩
          have hz : z ≤ n := by omega
          have hsz := hse.2 z hz
          rw [if_neg hnot] at hsz
          have c1 := Below.cellOf hbl (Nat.le_refl _) hcy
          have c2 := hY.cellI hsz
          have f2 := hY.frozen z
          obtain ⟨x0, x1, x2, x3⟩ := hX.four
          have HSE2 := Lib.hid (hse.next hz)
          have g1 : (1 : Int) ≤ (z : Int) := hy1.1
          have g2 : (z : Int) ≤ (n : Int) := hy1.2
          have i5 : (0 : Int) ≤ (z : Int) := by omega
          have i6 : (z : Int) < (n : Int) + 1 := by omega
          clear hpre hnot hnext htake hy hse hsz hy1
          generalize ((rs.take k).flatten ++ l.take q).length = len at *
          go_wp2_with fail
          go_roundw
          case rel => exact ⟨(by repeat (first | exact Below.refl _ _ | assumption | apply Below.drew | apply below_drewN | apply Bel.alloc | (refine Bel.setCell_ ?_ ?_; rotate_left; omega) | (refine Bel.step ?_ (by assumption)))), (by repeat (first | assumption | apply Blk.drewN | apply Blk.drew | apply Blk.alloc | (refine Blk.far_ ?_ ?_ _; rotate_left; omega))), q + 1, _, by omega, by go_num, by rw [HN.out]; go_num, hY.setI rfl, by rw [HT.out]; exact HSE2.out⟩
          case measure => simp [intOf]; omega
        · obtain rfl : q = n' := by omega
          have et : l.take q = l := List.take_of_length_le (by omega)
          rw [et, ← hfn.out] at hse
          have HSE2 := Lib.hid hse
          have HE := Lib.hid (show ((rs.take k).flatten ++ l.take q).length = (rs.take (k + 1)).flatten.length by rw [et, hfn.out])
          clear hse et
          have hr2 := hr'.below hbl
          obtain ⟨x0, x1, x2, x3⟩ := hX.four
          have HSX := Lib.hid (show ∀ V, Below wr.heap.size wr V → V.cell? ⟨w.heap.size, 0, none⟩ = some (.int .i64 dep) ∧ V.cell? ⟨w.heap.size, 1, none⟩ = some (.int .i64 cap) ∧ V.cell? ⟨w.heap.size, 2, none⟩ = some (.int .i64 lim) ∧ V.cell? ⟨w.heap.size, 3, none⟩ = some (.slice A n c) ∧ V.cell? ⟨b, o + k, none⟩ = some (.slice A' q c') from
            fun V hb => ⟨Below.cellOf hb (Nat.le_refl _) x0, Below.cellOf hb (Nat.le_refl _) x1, Below.cellOf hb (Nat.le_refl _) x2, Below.cellOf hb (Nat.le_refl _) x3, Below.cellOf hb (Nat.le_refl _) j1⟩)
          have i1 : (0 : Int) ≤ (k : Int) := by omega
          have i2 : (k : Int) < (m : Int) := by omega
          generalize ((rs.take k).flatten ++ l.take q).length = len at *
          go_wp2_with fail
          refine wp_region_held_drew (S := fun V => Below wr.heap.size wr V) (by kernel_rfl) (by repeat (first | exact Below.refl _ _ | assumption | apply Below.drew | apply below_drewN | apply Bel.alloc | (refine Bel.setCell_ ?_ ?_; rotate_left; omega) | (refine Bel.step ?_ (by assumption)))) (fun _ => ?_)
          refine take_ (i := 0) (d := some 69) (v := ?_) rfl rfl (by kernel_rfl) (by kernel_rfl) (by kernel_rfl) (fun _ _ _ h => h) (by rfl) ?_ (by first | rfl | trivial | assumption) ?_
          rotate_left
          · (intro V hSw; (try (have hF := HSX.out V hSw)); (try (cases hSw)); (try go_split_ands); go_simp; try with_reducible rfl)
          simp only [Act.put, List.setIfInBounds_toArray, List.set_cons_zero, List.set_cons_succ]
          refine take_ (i := 1) (d := some 70) (v := ?_) rfl rfl (by kernel_rfl) (by kernel_rfl) (by kernel_rfl) (fun _ _ _ h => h) (by rfl) ?_ (by first | rfl | trivial | assumption) ?_
          rotate_left
          · (intro V hSw; (try (have hF := HSX.out V hSw)); (try (cases hSw)); (try go_split_ands); go_simp; try with_reducible rfl)
          simp only [Act.put, List.setIfInBounds_toArray, List.set_cons_zero, List.set_cons_succ]
          refine take_ (i := 2) (d := some 71) (v := ?_) rfl rfl (by kernel_rfl) (by kernel_rfl) (by kernel_rfl) (fun _ _ _ h => h) (by rfl) ?_ (by first | rfl | trivial | assumption) ?_
          rotate_left
          · (intro V hSw; (try (have hF := HSX.out V hSw)); (try (cases hSw)); (try go_split_ands); go_simp; try with_reducible rfl)
          simp only [Act.put, List.setIfInBounds_toArray, List.set_cons_zero, List.set_cons_succ]
          refine take_ (i := 3) (d := some 72) (v := ?_) rfl rfl (by kernel_rfl) (by kernel_rfl) (by kernel_rfl) (fun _ _ _ h => h) (by rfl) ?_ (by first | rfl | trivial | assumption) ?_
          rotate_left
          · (intro V hSw; (try (have hF := HSX.out V hSw)); (try (cases hSw)); (try go_split_ands); go_simp; try with_reducible rfl)
          simp only [Act.put, List.setIfInBounds_toArray, List.set_cons_zero, List.set_cons_succ]
          refine take_ (i := 4) (d := some 73) (v := ?_) rfl rfl (by kernel_rfl) (by kernel_rfl) (by kernel_rfl) (fun _ _ _ h => h) (by rfl) ?_ (by first | rfl | trivial | assumption) ?_
          rotate_left
          · (intro V hSw; (try (have hF := HSX.out V hSw)); (try (cases hSw)); (try go_split_ands); go_simp; try with_reducible rfl)
          simp only [Act.put, List.setIfInBounds_toArray, List.set_cons_zero, List.set_cons_succ]
          refine take_ (i := 5) (d := some 74) (v := ?_) rfl rfl (by kernel_rfl) (by kernel_rfl) (by kernel_rfl) (fun _ _ _ h => h) (by rfl) ?_ (by first | rfl | trivial | assumption) ?_
          rotate_left
          · (intro V hSw; (try (have hF := HSX.out V hSw)); (try (cases hSw)); (try go_split_ands); go_simp; try with_reducible rfl)
          simp only [Act.put, List.setIfInBounds_toArray, List.set_cons_zero, List.set_cons_succ]
          refine wpAnyH_ready (rs := [6]) (by kernel_rfl) (by simp) ?_
          refine AllReadyH.cons (o := _) rfl (fun K hK => ?_) AllReadyH.nil
          go_simp
          go_at_call 31
          with_reducible refine (HK.out _ (by repeat (first | exact Below.refl _ _ | assumption | apply Below.drew | apply below_drewN | apply Bel.alloc | (refine Bel.setCell_ ?_ ?_; rotate_left; omega) | (refine Bel.step ?_ (by assumption)))) _ _ _ _ (hr2.below (by repeat (first | exact Below.refl _ _ | assumption | apply Below.drew | apply below_drewN | apply Bel.alloc | (refine Bel.setCell_ ?_ ?_; rotate_left; omega) | (refine Bel.step ?_ (by assumption))))) hlm).mono ?_
          rintro e w6 ⟨rfl, hb6⟩
          go_wp2_with fail
          have hb7 : Below wr.heap.size wr w6 := (by repeat (first | exact Below.refl _ _ | assumption | apply Below.drew | apply below_drewN | apply Bel.alloc | (refine Bel.setCell_ ?_ ?_; rotate_left; omega) | (refine Bel.step ?_ (by assumption))))
          refine hK.out _ _ hb7 (fun _ => ?_)
          clear hK K
          refine take_ (i := 7) (d := some 76) (v := ?_) rfl rfl (by kernel_rfl) (by kernel_rfl) (by kernel_rfl) (fun _ _ _ h => h) (by rfl) ?_ (by first | rfl | trivial | assumption) ?_
          rotate_left
          · (intro V hSw; (try (have hF := HSX.out V hSw)); (try (cases hSw)); (try go_split_ands); go_simp; try with_reducible rfl)
          simp only [Act.put, List.setIfInBounds_toArray, List.set_cons_zero, List.set_cons_succ]
          refine wpAnyH_done (by kernel_rfl) ?_ _
          go_wp2_with fail
          go_roundw
          case rel => exact ⟨(by repeat (first | exact Below.refl _ _ | assumption | apply Below.drew | apply below_drewN | apply Bel.alloc | (refine Bel.setCell_ ?_ ?_; rotate_left; omega) | (refine Bel.step ?_ (by assumption)))), hX.below hb7 hX.lt, k + 1, sl, by omega, by go_num, by rw [← HE.out], hY.below hb7 hY.lt, HSE2.out⟩
          case measure => simp [intOf]; omega
    · obtain rfl : k = m := by omega
      rw [List.take_of_length_le (by rw [HM.out]; exact Nat.le_refl _), HR4.out]
      obtain ⟨x0, x1, x2, x3⟩ := hX.four
      go_wp2_with fail
      go_ret
      exact ⟨ret_bool (by simp), (by repeat (first | exact Below.refl _ _ | assumption | apply Below.drew | apply below_drewN | apply Bel.alloc | (refine Bel.setCell_ ?_ ?_; rotate_left; omega) | (refine Bel.step ?_ (by assumption))))⟩
end Go.Proofs.YtjphjbchhhembaaGreatDoor
