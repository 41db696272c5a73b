/- Parts of the proof: Wh. -/
import Derived.Test.YtgkeolddpielpaaGreatDoorM20
import Derived.Test.YtgkeolddpielpaaGreatDoorShelf3
/- (*Over).Where. -/
namespace Go.Proofs.YtgkeolddpielpaaGreatDoor
open Go.RowKit

attribute [local go_sem ↓] Go.wp_at_zero Go.wp_at_succ

/-- The closure: does the row's place i lie past at? -/
theorem whereP_any (ba bx blk off cap n i : Nat) (x y : Int) (W : World) (hi : i < n)
    (ha : W.cell? ⟨ba, 0, none⟩ = some (.slice (some ⟨blk, off, none⟩) n cap)) (hx : W.cell? ⟨bx, 0, none⟩ = some (.int .i64 x)) (hc : W.cell? ⟨blk, off + i, none⟩ = some (.int .i64 y)) :
    Calls Tryz.prog 53 (#[.int .i64 i] ++ #[.pointer (some ⟨ba, 0, none⟩), .pointer (some ⟨bx, 0, none⟩)]) W fun e w' => e = .returned (.bool (decide (x < y))) ∧ ∃ q, w' = W.drewN q := by
  have i1 : (0 : Int) ≤ (i : Int) := by omega
  have i2 : (i : Int) < (n : Int) := by omega
  obtain ⟨p, hp⟩ : ∃ p, p = decide (x < y) := ⟨_, rfl⟩
  rw [← hp]
  have HP := Lib.hid hp
  clear hp
  go_enter Tryz.func53, Tryz.ntmps53
  go_wp2_with fail
  go_quiet (fail)
  go_wp2_with fail
  go_ret
  exact ⟨ret_bool (by rw [HP.out]), _, rfl⟩

theorem bodyPost_nm {P : Program} {f : Func} {Q : Ending → World → Prop} {x : Exit} {a : Act} {w : World} (h : ∀ W, W = w → bodyPost P f Q x a W) : bodyPost P f Q x a w := h w rfl
theorem four_set {W : World} {g : Nat} {t : TypeId} {a b c d : Value} (h : Blk W g t #[a, b, c, d]) (x y z u : Value) : Blk ((((W.setCell ⟨g, 0, none⟩ x).setCell ⟨g, 1, none⟩ y).setCell ⟨g, 2, none⟩ z).setCell ⟨g, 3, none⟩ u) g t #[x, y, z, u] := (((h.set_ 0 x).set_ 1 y).set_ 2 z).set_ 3 u
theorem below_four {w W : World} {g : Nat} (h : Below w.heap.size w W) (hg : w.heap.size ≤ g) (x y z u : Value) : Below w.heap.size w ((((W.setCell ⟨g, 0, none⟩ x).setCell ⟨g, 1, none⟩ y).setCell ⟨g, 2, none⟩ z).setCell ⟨g, 3, none⟩ u) := (((h.setCell hg _).setCell hg _).setCell hg _).setCell hg _
theorem where_no (o : Nat) (at_ : Int) (ar : List Tri) (ls : List (List Int)) (w : World) (h : RdOv w o ar ls) (ha : at_ < 0 ∨ ((sumA (gatesOf ar ls) : Nat) : Int) ≤ at_) :
    Calls Tryz.prog 21 #[.pointer (some ⟨o, 0, none⟩), .int .i64 at_] w fun e w' => e = .returned (.tuple #[.agg #[.int .i64 0, .int .i64 0, .int .i64 0, .int .i64 0], .bool false]) ∧ Below w.heap.size w w' := by
  obtain ⟨Q, F, T, G, S, L, m, cq, cf, ct, cg, cs, h⟩ := h
  have h5 := h.n5
  clear h
  generalize sumA (gatesOf ar ls) = z at *
  have ho : o < w.heap.size := World.block_lt_of_cell? _ _ h5
  by_cases hneg : at_ < 0
  · clear ha
    go_enter Tryz.func21, Tryz.ntmps21
    go_wp2_with fail
    go_quiet (fail)
    go_wp2_with fail
    refine bodyPost_nm ?_
    intro W hW
    have hB : Blk W (w.heap.size + 1) 63 #[.int .i64 0, .int .i64 0, .int .i64 0, .int .i64 0] := by rw [hW]; refine four_set (a := .int .i64 0) (b := .int .i64 0) (c := .int .i64 0) (d := .int .i64 0) ?_ _ _ _ _; exact (by repeat (first | assumption | (refine Blk.new' _ _ _ ?_; first | with_unfolding_all rfl | (simp; done)) | apply Blk.drewN | apply Blk.drew | apply Blk.alloc | (refine Blk.far_ ?_ ?_ _; rotate_left; omega)))
    have hb : Below w.heap.size w W := by rw [hW]; refine below_four ?_ (by omega) _ _ _ _; exact (by repeat (first | exact Below.refl _ _ | assumption | apply Below.drew | apply below_drewN | apply Bel.alloc | (refine Bel.setCell_ ?_ ?_; rotate_left; omega) | (refine Bel.step ?_ (by assumption))))
    have r0 := hB.cell 0
    have r1 := hB.cell 1
    have r2 := hB.cell 2
    have r3 := hB.cell 3
    simp only [List.getElem?_toArray, List.getElem?_cons_zero, List.getElem?_cons_succ] at r0 r1 r2 r3
    refine bodyPost_ret (v := .tuple #[.agg #[.int .i64 0, .int .i64 0, .int .i64 0, .int .i64 0], .bool false]) (by simp [results, Tryz.results21, go_sem, r0, r1, r2, r3]) rfl ?_
    exact ⟨rfl, hb⟩
  · have hge : (z : Int) ≤ at_ := by omega
    clear ha
    go_enter Tryz.func21, Tryz.ntmps21
    go_wp2_with fail
    go_quiet (fail)
    go_wp2_with fail
    refine bodyPost_nm ?_
    intro W hW
    have hB : Blk W (w.heap.size + 1) 63 #[.int .i64 0, .int .i64 0, .int .i64 0, .int .i64 0] := by rw [hW]; refine four_set (a := .int .i64 0) (b := .int .i64 0) (c := .int .i64 0) (d := .int .i64 0) ?_ _ _ _ _; exact (by repeat (first | assumption | (refine Blk.new' _ _ _ ?_; first | with_unfolding_all rfl | (simp; done)) | apply Blk.drewN | apply Blk.drew | apply Blk.alloc | (refine Blk.far_ ?_ ?_ _; rotate_left; omega)))
    have hb : Below w.heap.size w W := by rw [hW]; refine below_four ?_ (by omega) _ _ _ _; exact (by repeat (first | exact Below.refl _ _ | assumption | apply Below.drew | apply below_drewN | apply Bel.alloc | (refine Bel.setCell_ ?_ ?_; rotate_left; omega) | (refine Bel.step ?_ (by assumption))))
    have r0 := hB.cell 0
    have r1 := hB.cell 1
    have r2 := hB.cell 2
    have r3 := hB.cell 3
    simp only [List.getElem?_toArray, List.getElem?_cons_zero, List.getElem?_cons_succ] at r0 r1 r2 r3
    refine bodyPost_ret (v := .tuple #[.agg #[.int .i64 0, .int .i64 0, .int .i64 0, .int .i64 0], .bool false]) (by simp [results, Tryz.results21, go_sem, r0, r1, r2, r3]) rfl ?_
    exact ⟨rfl, hb⟩

set_option maxHeartbeats 1000000 in
theorem where_ok (o i c a b : Nat) (ar : List Tri) (ls : List (List Int)) (l : List Int) (x : GateD) (w : World) (h : RdOv w o ar ls) (hl : ls[i]? = some l) (hx : (gateRow ar l)[c]? = some x) (ha : a < x.1.length) (hb : b < x.2.length) (hL : ls.length ≤ 1000000) (hS : sumA (gatesOf ar ls) ≤ 1000000000000) (hM : (mostN l).toNat ≤ 1000000) :
    Calls Tryz.prog 21 #[.pointer (some ⟨o, 0, none⟩), .int .i64 ((enAt (gatesOf ar ls) (gateRow ar l) i c x a b : Nat) : Int)] w fun e w' => e = .returned (.tuple #[.agg #[.int .i64 ((i : Int) + 1), .int .i64 c, .int .i64 a, .int .i64 b], .bool true]) ∧ Below w.heap.size w w' := by
  obtain ⟨z, hz⟩ : ∃ z, z = enAt (gatesOf ar ls) (gateRow ar l) i c x a b := ⟨_, rfl⟩
  have hrow := gates_get (ar := ar) hl
  have z2 := enAt_lt (gs := gatesOf ar ls) (i := i) hx ha hb
  have z3 := enAt_lt2 hrow hx ha hb
  have z4 := sumA_all (gatesOf ar ls) (i + 1)
  rw [← hz] at z2 z3 ⊢
  have HZ := Lib.hid hz
  have HA := Lib.hid ha
  have HB := Lib.hid hb
  have HX := Lib.hid hx
  have HLT := Lib.hid (show ∀ k row, i < k → (gatesOf ar ls)[k]? = some row → z < sumA ((gatesOf ar ls).take k) from fun k _ hk _ => Nat.lt_of_lt_of_le z3 (sumA_mono _ hk))
  have HGE := Lib.hid (show sumA ((gatesOf ar ls).take i) ≤ z by rw [hz]; unfold enAt; omega)
  obtain ⟨Q, F, T, G, S, L, m, cq, cf, ct, cg, cs, h⟩ := h
  have h5 := h.n5
  have h4 := h.n4
  have h3 := h.n3
  have hiL : i < L := by rw [← h.part.1]; exact (List.getElem?_eq_some_iff.1 hl).1
  have hLL : L ≤ 1000000 := by rw [← h.part.1]; exact hL
  have ho : o < w.heap.size := World.block_lt_of_cell? _ _ h5
  obtain ⟨ga, hga⟩ : ∃ ga, ga = sumA (gatesOf ar ls) := ⟨_, rfl⟩
  rw [← hga] at h5 z4
  have HGA := Lib.hid hga
  have zs : (z : Int) < (ga : Int) := by omega
  have znn : ¬ ((z : Int) < 0) := by omega
  -- the rows of starts
  have HST := Lib.hid h.starts
  have HGT := Lib.hid h.gates
  obtain ⟨row, gb, go_, Ag, ng, cA, hrowg, rfl, hcg, hrg, _⟩ := h.gates.at_ hiL
  rw [hrow] at hrowg
  cases hrowg
  obtain ⟨x', cb, co, A1, n1, c1, A2, n2, c2, hx', rfl, hc1, hr1, hc2, hr2, hc21⟩ := hrg.at_ (c := c) (by rw [← hrg.1]; exact (List.getElem?_eq_some_iff.1 hx).1)
  have hcng : c < ng := by rw [← hrg.1]; exact (List.getElem?_eq_some_iff.1 hx).1
  rw [hx] at hx'
  cases hx'
  have hn2 : x.2.length = n2 := hr2.1
  obtain ⟨d, hd⟩ : ∃ d, d = a * x.2.length + b := ⟨_, rfl⟩
  obtain ⟨s, hs⟩ : ∃ s, s = sumA ((gatesOf ar ls).take i) + sumS ((gateRow ar l).take c) := ⟨_, rfl⟩
  have hzd : z = s + d := by rw [hz, hs, hd]; rfl
  have e9 : (z : Int) - (s : Int) = (d : Int) := by omega
  have w9 : IntKind.i64.wrap (d : Int) = (d : Int) := IntWalk.i64_in _ (by omega)
  have n20 : ¬ n2 = 0 := by omega
  have dq : d / n2 = a := by
    rw [hd, hn2, Nat.mul_comm, Nat.mul_add_div (by omega), Nat.div_eq_of_lt (by omega)]
    rfl
  have dm : d % n2 = b := by
    rw [hd, hn2, Nat.mul_comm, Nat.mul_add_mod, Nat.mod_eq_of_lt (by omega)]
  have ed : Int.tdiv (d : Int) (n2 : Int) = (a : Int) := by rw [← dq]; exact (Int.ofNat_tdiv d n2).symm
  have em : Int.tmod (d : Int) (n2 : Int) = (b : Int) := by rw [← dm]; exact (Int.ofNat_tmod d n2).symm
  have ed2 : (d : Int) / (n2 : Int) = (a : Int) := by rw [← dq]; rfl
  have em2 : (d : Int) % (n2 : Int) = (b : Int) := by rw [← dm]; rfl
  have had : a ≤ d := by rw [← dq]; exact Nat.div_le_self _ _
  have hbd' : b ≤ d := by rw [← dm]; exact Nat.mod_le _ _
  have wa : IntKind.i64.wrap (a : Int) = (a : Int) := IntWalk.i64_in _ (by omega)
  have wb : IntKind.i64.wrap (b : Int) = (b : Int) := IntWalk.i64_in _ (by omega)
  have i9 : (c : Int) < (ng : Int) := by omega
  -- the row of this level
  obtain ⟨sb, so, Ar, n, c', lr, rfl, elr, hrc, hrr, hrn⟩ := h.starts.at_ hiL
  rw [stAll_get hrow] at elr
  obtain ⟨SB, hSB⟩ : ∃ SB, SB = sumA ((gatesOf ar ls).take i) := ⟨_, rfl⟩
  rw [← hSB] at elr z2 HGE
  have HSB := Lib.hid hSB
  cases elr
  have hnM : n = (mostN l).toNat := by rw [← hrr.1, stRow_len, gateRow_len]
  have HNM := Lib.hid hnM
  have hcn : c < n := by rw [hnM, ← gateRow_len ar l]; exact (List.getElem?_eq_some_iff.1 hx).1
  have HNB := Lib.hid (show n ≤ 1000000 by omega)
  obtain ⟨rb, ro, y0, rfl, ey0, hy0⟩ := hrr.at_ (i := 0) (by omega)
  have HROW := Lib.hid (show ∀ j, j < n → w.cell? ⟨rb, ro + j, none⟩ = some (.int .i64 ((stRow SB (gateRow ar l)).getD j 0)) from fun j hj => by
    obtain ⟨rb', ro', y, e, ey, hy⟩ := hrr.at_ hj
    cases e
    rw [List.getD_eq_getElem?_getD, ey]
    exact hy)
  have hget : ∀ j, j < n → (stRow SB (gateRow ar l)).getD j 0 = ((SB + sumS ((gateRow ar l).take j) : Nat) : Int) := fun j hj => by
    rw [List.getD_eq_getElem?_getD, stRow_get (by rw [gateRow_len, ← hnM]; exact hj)]
    rfl
  have hfalse : ∀ t, t < c + 1 → decide ((z : Int) < (stRow SB (gateRow ar l)).getD t 0) = false := fun t ht => by
    rw [hget t (by omega)]
    have := sumS_mono (gateRow ar l) (a := t) (b := c) (by omega)
    have e := hz
    unfold enAt at e
    rw [← hSB] at e
    exact decide_eq_false (by omega)
  have htrue : ∀ t, c + 1 ≤ t → t < n → decide ((z : Int) < (stRow SB (gateRow ar l)).getD t 0) = true := fun t ht hn => by
    rw [hget t hn]
    have := sumS_mono (gateRow ar l) (a := c + 1) (b := t) ht
    exact decide_eq_true (by omega)
  have HMONO := Lib.hid (show ∀ p q : Nat, p ≤ q → q < n → decide ((z : Int) < (stRow SB (gateRow ar l)).getD p 0) = true → decide ((z : Int) < (stRow SB (gateRow ar l)).getD q 0) = true from fun p q hpq hq hp => by
    rcases Nat.lt_or_ge p (c + 1) with h | h
    · rw [hfalse p h] at hp; cases hp
    · exact htrue q (by omega) hq)
  have HCNT := Lib.hid (show (List.range n).countP (fun j => !decide ((z : Int) < (stRow SB (gateRow ar l)).getD j 0)) = c + 1 by
    have hr : ∀ t, t < n → (List.range n)[t]! = t := fun t ht => by rw [getElem!_pos _ t (by simpa using ht)]; simp
    refine Lib.countP_boundary _ (List.range n) (c + 1) (by simp; omega) (fun t ht => ?_) (fun t h3 h4 => ?_)
    · rw [hr t (by omega), hfalse t ht]; rfl
    · rw [hr t (by simpa using h4), htrue t h3 (by simpa using h4)]; rfl)
  have hyc : w.cell? ⟨rb, ro + c, none⟩ = some (.int .i64 (s : Int)) := by
    have e1 := HROW.out c hcn
    rw [hget c hcn, hSB, ← hs] at e1
    exact e1
  have ey0' : y0 = (SB : Int) := by
    have := hget 0 (by omega)
    rw [List.getD_eq_getElem?_getD, ey0] at this
    simpa [sumS] using this
  subst ey0'
  have hyz : ¬ ((SB : Int) > (z : Int)) := by have := HGE.out; omega
  have i7 : (0 : Int) ≤ (c : Int) := by omega
  have i8 : (c : Int) < (n : Int) := by omega
  clear h hl hrow hx ha hb hL hS hM hz z2 z3 z4 hga hSB hget hfalse htrue hrr ey0 hnM hrg hr1 hr2 hc1 hc21 hn2 hd hs hzd dq dm had hbd'
  go_enter Tryz.func21, Tryz.ntmps21
  go_wp2_with fail
  go_quiet (fail)
  go_wp2_with fail
  (refine wp_named ?_; intro W2 hW2)
  have hb2 : Below w.heap.size w W2 := by rw [hW2]; exact (by repeat (first | exact Below.refl _ _ | assumption | apply Below.drew | apply below_drewN | apply Bel.alloc | (refine Bel.setCell_ ?_ ?_; rotate_left; omega) | (refine Bel.step ?_ (by assumption))))
  have hA : Blk W2 w.heap.size 3 #[.int .i64 (z : Int)] := by rw [hW2]; exact (by repeat (first | assumption | (refine Blk.new' _ _ _ ?_; first | with_unfolding_all rfl | (simp; done)) | apply Blk.drewN | apply Blk.drew | apply Blk.alloc | (refine Blk.far_ ?_ ?_ _; rotate_left; omega)))
  have hE : Blk W2 (w.heap.size + 1) 63 #[.int .i64 0, .int .i64 0, .int .i64 0, .int .i64 0] := by rw [hW2]; exact (by repeat (first | assumption | (refine Blk.new' _ _ _ ?_; first | with_unfolding_all rfl | (simp; done)) | apply Blk.drewN | apply Blk.drew | apply Blk.alloc | (refine Blk.far_ ?_ ?_ _; rotate_left; omega)))
  clear hW2
  go_loopw [6] (fun q W => (∃ k, W = W2.drewN k) ∧ ∃ k K : Nat, K = k + 1 ∧ i ≤ k ∧ k < L ∧ q = .int .i64 (K : Int)) (fun q _ => (intOf q).toNat)
  case atStart => exact ⟨⟨0, rfl⟩, L - 1, L, by omega, by omega, by omega, rfl⟩
  case round =>
    obtain ⟨hd, k, K, hK, hik, hkL, rfl⟩ := hrel
    obtain ⟨k0, rfl⟩ := hd
    have hbd : Below w.heap.size w (W2.drewN k0) := below_drewN hb2 k0
    have d4 := Below.cellOf hb2 (Nat.le_refl _) h4
    have dA := hA.cell 0
    simp only [List.getElem?_toArray, List.getElem?_cons_zero] at dA
    have i1 : (K : Int) - 1 = (k : Int) := by omega
    have HK := Lib.hid hK
    have i2 : (0 : Int) ≤ (k : Int) := by omega
    have wk : IntKind.i64.wrap (k : Int) = (k : Int) := IntWalk.i64_in _ (by omega)
    have i3 : (k : Int) < (L : Int) := by omega
    by_cases hki : k = i
    · subst hki
      have dr := Below.cellOf hb2 (Nat.le_refl _) hrc
      have dy := Below.cellOf hb2 (Nat.le_refl _) hy0
      have n0 : ((n : Int) == 0) = false := by simp; omega
      have n1 : ¬ (n = 0) := by omega
      have n2' : (0 : Int) < (n : Int) := by omega
      have dy' : W2.cell? ⟨rb, ro, none⟩ = some (.int .i64 (SB : Int)) := by simpa using dy
      by_cases hk0 : k = 0
      · have k1 : ¬ (1 < (K : Int)) := by omega
        have k2 : decide (1 < (K : Int)) = false := decide_eq_false k1
        clear hk0 hK
        go_wp2_with fail
        go_quiet (fail)
        generalize hW3 : (W2.drewN k0).drewN nq = W3
        have hbW3 : Below w.heap.size w W3 := by rw [← hW3]; exact below_drewN hbd nq
        have hA3 : Blk W3 w.heap.size 3 #[.int .i64 (z : Int)] := by rw [← hW3]; exact (hA.drewN k0).drewN nq
        have hE3 : Blk W3 (w.heap.size + 1) 63 #[.int .i64 0, .int .i64 0, .int .i64 0, .int .i64 0] := by rw [← hW3]; exact (hE.drewN k0).drewN nq
        clear hW3 d4 dA dr dy dy' hbd hA hE hb2
        have d4 := Below.cellOf hbW3 (Nat.le_refl _) h4
        have dr := Below.cellOf hbW3 (Nat.le_refl _) hrc
        go_wp2_with fail
        (refine calls_named ?_; intro w3 hw3)
        have hb3 : Below w.heap.size w w3 := by rw [hw3]; exact Bel.alloc hbW3
        have hB7 : Blk w3 W3.heap.size 47 #[.slice (some ⟨rb, ro, none⟩) n c'] := by
          rw [hw3]
          refine Blk.new' _ _ _ ?_
          rfl
        have lE := hE3.lt
        have hA4 : Blk w3 w.heap.size 3 #[.int .i64 (z : Int)] := by rw [hw3]; exact hA3.alloc _
        have hE4 : Blk w3 (w.heap.size + 1) 63 #[.int .i64 0, .int .i64 0, .int .i64 0, .int .i64 0] := by rw [hw3]; exact hE3.alloc _
        clear hw3 hA3 hE3 d4 dr
        have a7 := hB7.cell 0
        have a3 := hA4.cell 0
        simp only [List.getElem?_toArray, List.getElem?_cons_zero] at a7 a3
        have hS := Any.sort_Search Tryz.seekL 53 #[.pointer (some ⟨W3.heap.size, 0, none⟩), .pointer (some ⟨w.heap.size, 0, none⟩)] n (fun j => decide ((z : Int) < (stRow SB (gateRow ar l)).getD j 0)) w3 (enters_of Tryz.func53 (by kernel_rfl) rfl) (by have := HNB.out; omega)
          (fun m' os j hj => (whereP_any W3.heap.size w.heap.size rb ro c' n j (z : Int) _ _ hj (cell_grown hB7.lt a7 m' os) (cell_grown hA4.lt a3 m' os) (cell_grown (Nat.lt_of_lt_of_le (World.block_lt_of_cell? _ _ (HROW.out j hj)) hb3.size) (Below.cellOf hb3 (Nat.le_refl _) (HROW.out j hj)) m' os)).mono fun _ _ ⟨he, q, hq⟩ => ⟨he, q, #[], by rw [hq, Go.Sort.grow_empty]⟩) HMONO.out
        rw [HCNT.out] at hS
        have HSS := Lib.hid (show Calls Tryz.prog 52 _ _ _ from hS)
        clear hS
        with_reducible refine HSS.out.mono ?_
        rintro e w4 ⟨rfl, q4, os4, hw4⟩
        have hb34 : Below w3.heap.size w3 w4 := by rw [hw4]; exact below_grown_sl _ _ _ _ (Nat.le_refl _)
        have hb4 := Bel.step hb3 hb34
        have hB75 := hB7.below hb34 hB7.lt
        have hA5 := hA4.below hb34 hA4.lt
        have hE5 := hE4.below hb34 hE4.lt
        have l7 : w.heap.size + 1 < W3.heap.size := lE
        clear hw4 HSS a7 a3 hB7 hA4 hE4 hb34 hb3
        have g3 := Below.cellOf hb4 (Nat.le_refl _) h3
        have gg := Below.cellOf hb4 (Nat.le_refl _) hcg
        have gc := Below.cellOf hb4 (Nat.le_refl _) hc2
        have gy := Below.cellOf hb4 (Nat.le_refl _) hyc
        have x7 := hB75.cell 0
        have xA := hA5.cell 0
        simp only [List.getElem?_toArray, List.getElem?_cons_zero] at x7 xA
        go_wp2_with fail
        go_quiet (fail)
        go_wp2_with fail
        (refine wp_named ?_; intro W5 hW5)
        have hb5 : Below w.heap.size w W5 := by rw [hW5]; exact below_drewN hb4 nq
        have hE6 : Blk W5 (w.heap.size + 1) 63 #[.int .i64 0, .int .i64 0, .int .i64 0, .int .i64 0] := by rw [hW5]; exact hE5.drewN nq
        clear hW5 hE5 hA5 hB75 x7 xA g3 gg gc gy hb4
        refine wp_region_held_drew (S := fun V => Below w.heap.size w V) (by kernel_rfl) hb5.drew (fun _ => ?_)
        refine take_ (i := 0) (d := some 89) (v := ?_) rfl rfl (by kernel_rfl) (by kernel_rfl) (by kernel_rfl) (fun _ _ _ h => h) (by rfl) ?_ (by first | rfl | trivial | assumption) ?_
        rotate_left
        · (intro V hSw; (try (have hF := HSX.out V hSw)); (try (cases hSw)); (try go_split_ands); go_simp; try with_reducible rfl)
        simp only [Act.put, List.setIfInBounds_toArray, List.set_cons_zero, List.set_cons_succ]
        refine take_ (i := 1) (d := some 90) (v := ?_) rfl rfl (by kernel_rfl) (by kernel_rfl) (by kernel_rfl) (fun _ _ _ h => h) (by rfl) ?_ (by first | rfl | trivial | assumption) ?_
        rotate_left
        · (intro V hSw; (try (have hF := HSX.out V hSw)); (try (cases hSw)); (try go_split_ands); go_simp; try with_reducible rfl)
        simp only [Act.put, List.setIfInBounds_toArray, List.set_cons_zero, List.set_cons_succ]
        refine take_ (i := 2) (d := some 91) (v := ?_) rfl rfl (by kernel_rfl) (by kernel_rfl) (by kernel_rfl) (fun _ _ _ h => h) (by rfl) ?_ (by first | rfl | trivial | assumption) ?_
        rotate_left
        · (intro V hSw; (try (have hF := HSX.out V hSw)); (try (cases hSw)); (try go_split_ands); go_simp; try with_reducible rfl)
        simp only [Act.put, List.setIfInBounds_toArray, List.set_cons_zero, List.set_cons_succ]
        refine take_ (i := 3) (d := some 92) (v := ?_) rfl rfl (by kernel_rfl) (by kernel_rfl) (by kernel_rfl) (fun _ _ _ h => h) (by rfl) ?_ (by first | rfl | trivial | assumption) ?_
        rotate_left
        · (intro V hSw; (try (have hF := HSX.out V hSw)); (try (cases hSw)); (try go_split_ands); go_simp; try with_reducible rfl)
        simp only [Act.put, List.setIfInBounds_toArray, List.set_cons_zero, List.set_cons_succ]
        refine take_ (i := 4) (d := some 93) (v := ?_) rfl rfl (by kernel_rfl) (by kernel_rfl) (by kernel_rfl) (fun _ _ _ h => h) (by rfl) ?_ (by first | rfl | trivial | assumption) ?_
        rotate_left
        · (intro V hSw; (try (have hF := HSX.out V hSw)); (try (cases hSw)); (try go_split_ands); go_simp; try with_reducible rfl)
        simp only [Act.put, List.setIfInBounds_toArray, List.set_cons_zero, List.set_cons_succ]
        refine take_ (i := 5) (d := some 94) (v := ?_) rfl rfl (by kernel_rfl) (by kernel_rfl) (by kernel_rfl) (fun _ _ _ h => h) (by rfl) ?_ (by first | rfl | trivial | assumption) ?_
        rotate_left
        · (intro V hSw; (try (have hF := HSX.out V hSw)); (try (cases hSw)); (try go_split_ands); go_simp; try with_reducible rfl)
        simp only [Act.put, List.setIfInBounds_toArray, List.set_cons_zero, List.set_cons_succ]
        refine take_ (i := 6) (d := some 95) (v := ?_) rfl rfl (by kernel_rfl) (by kernel_rfl) (by kernel_rfl) (fun _ _ _ h => h) (by rfl) ?_ (by first | rfl | trivial | assumption) ?_
        rotate_left
        · (intro V hSw; (try (have hF := HSX.out V hSw)); (try (cases hSw)); (try go_split_ands); go_simp; try with_reducible rfl)
        simp only [Act.put, List.setIfInBounds_toArray, List.set_cons_zero, List.set_cons_succ]
        refine take_ (i := 7) (d := some 96) (v := ?_) rfl rfl (by kernel_rfl) (by kernel_rfl) (by kernel_rfl) (fun _ _ _ h => h) (by rfl) ?_ (by first | rfl | trivial | assumption) ?_
        rotate_left
        · (intro V hSw; (try (have hF := HSX.out V hSw)); (try (cases hSw)); (try go_split_ands); go_simp; try with_reducible rfl)
        simp only [Act.put, List.setIfInBounds_toArray, List.set_cons_zero, List.set_cons_succ]
        refine take_ (i := 8) (d := some 97) (v := ?_) rfl rfl (by kernel_rfl) (by kernel_rfl) (by kernel_rfl) (fun _ _ _ h => h) (by rfl) ?_ (by first | rfl | trivial | assumption) ?_
        rotate_left
        · (intro V hSw; (try (have hF := HSX.out V hSw)); (try (cases hSw)); (try go_split_ands); go_simp; try with_reducible rfl)
        simp only [Act.put, List.setIfInBounds_toArray, List.set_cons_zero, List.set_cons_succ]
        obtain ⟨z0, z1, z2, z3⟩ := hE6.four
        have zf0 := hE6.frozen 0
        have zf1 := hE6.frozen 1
        have zf2 := hE6.frozen 2
        have zf3 := hE6.frozen 3
        refine wpAnyH_ready (rs := [9]) (by kernel_rfl) (by simp) ?_
        refine AllReadyH.cons (o := _) rfl (fun K hK => ?_) AllReadyH.nil
        go_simp
        refine hK.out _ _ (below_four hb5 (Nat.le_succ _) _ _ _ _).drew (fun _ => ?_)
        clear hK K
        refine take_ (i := 10) (d := some 5) (v := ?_) rfl rfl (by kernel_rfl) (by kernel_rfl) (by kernel_rfl) (fun _ _ _ h => h) (by rfl) ?_ (by first | rfl | trivial | assumption) ?_
        rotate_left
        · (intro V hSw; (try (have hF := HSX.out V hSw)); (try (cases hSw)); (try go_split_ands); go_simp; try with_reducible rfl)
        simp only [Act.put, List.setIfInBounds_toArray, List.set_cons_zero, List.set_cons_succ]
        refine wpAnyH_done (by kernel_rfl) ?_ _
        have hE8 := (four_set hE6 (.int .i64 (K : Int)) (.int .i64 (c : Int)) (.int .i64 (a : Int)) (.int .i64 (b : Int))).drew
        have r0 := hE8.cell 0
        have r1 := hE8.cell 1
        have r2 := hE8.cell 2
        have r3 := hE8.cell 3
        simp only [List.getElem?_toArray, List.getElem?_cons_zero, List.getElem?_cons_succ] at r0 r1 r2 r3
        have hb9 := (below_four hb5 (show w.heap.size ≤ w.heap.size + 1 by omega) (.int .i64 (K : Int)) (.int .i64 (c : Int)) (.int .i64 (a : Int)) (.int .i64 (b : Int))).drew
        go_wp2_with fail
        refine bodyPost_ret (v := .tuple #[.agg #[.int .i64 (K : Int), .int .i64 (c : Int), .int .i64 (a : Int), .int .i64 (b : Int)], .bool true]) (by simp [results, Tryz.results21, go_sem, r0, r1, r2, r3]) rfl ?_
        exact ⟨by rw [show (K : Int) = (k : Int) + 1 by have := HK.out; omega], hb9⟩
      · have k1 : 1 < (K : Int) := by omega
        have k2 : decide (1 < (K : Int)) = true := decide_eq_true k1
        clear hk0 hK
        go_wp2_with fail
        go_quiet (fail)
        generalize hW3 : (W2.drewN k0).drewN nq = W3
        have hbW3 : Below w.heap.size w W3 := by rw [← hW3]; exact below_drewN hbd nq
        have hA3 : Blk W3 w.heap.size 3 #[.int .i64 (z : Int)] := by rw [← hW3]; exact (hA.drewN k0).drewN nq
        have hE3 : Blk W3 (w.heap.size + 1) 63 #[.int .i64 0, .int .i64 0, .int .i64 0, .int .i64 0] := by rw [← hW3]; exact (hE.drewN k0).drewN nq
        clear hW3 d4 dA dr dy dy' hbd hA hE hb2
        have d4 := Below.cellOf hbW3 (Nat.le_refl _) h4
        have dr := Below.cellOf hbW3 (Nat.le_refl _) hrc
        go_wp2_with fail
        (refine calls_named ?_; intro w3 hw3)
        have hb3 : Below w.heap.size w w3 := by rw [hw3]; exact Bel.alloc hbW3
        have hB7 : Blk w3 W3.heap.size 47 #[.slice (some ⟨rb, ro, none⟩) n c'] := by
          rw [hw3]
          refine Blk.new' _ _ _ ?_
          rfl
        have lE := hE3.lt
        have hA4 : Blk w3 w.heap.size 3 #[.int .i64 (z : Int)] := by rw [hw3]; exact hA3.alloc _
        have hE4 : Blk w3 (w.heap.size + 1) 63 #[.int .i64 0, .int .i64 0, .int .i64 0, .int .i64 0] := by rw [hw3]; exact hE3.alloc _
        clear hw3 hA3 hE3 d4 dr
        have a7 := hB7.cell 0
        have a3 := hA4.cell 0
        simp only [List.getElem?_toArray, List.getElem?_cons_zero] at a7 a3
        have hS := Any.sort_Search Tryz.seekL 53 #[.pointer (some ⟨W3.heap.size, 0, none⟩), .pointer (some ⟨w.heap.size, 0, none⟩)] n (fun j => decide ((z : Int) < (stRow SB (gateRow ar l)).getD j 0)) w3 (enters_of Tryz.func53 (by kernel_rfl) rfl) (by have := HNB.out; omega)
          (fun m' os j hj => (whereP_any W3.heap.size w.heap.size rb ro c' n j (z : Int) _ _ hj (cell_grown hB7.lt a7 m' os) (cell_grown hA4.lt a3 m' os) (cell_grown (Nat.lt_of_lt_of_le (World.block_lt_of_cell? _ _ (HROW.out j hj)) hb3.size) (Below.cellOf hb3 (Nat.le_refl _) (HROW.out j hj)) m' os)).mono fun _ _ ⟨he, q, hq⟩ => ⟨he, q, #[], by rw [hq, Go.Sort.grow_empty]⟩) HMONO.out
        rw [HCNT.out] at hS
        have HSS := Lib.hid (show Calls Tryz.prog 52 _ _ _ from hS)
        clear hS
        with_reducible refine HSS.out.mono ?_
        rintro e w4 ⟨rfl, q4, os4, hw4⟩
        have hb34 : Below w3.heap.size w3 w4 := by rw [hw4]; exact below_grown_sl _ _ _ _ (Nat.le_refl _)
        have hb4 := Bel.step hb3 hb34
        have hB75 := hB7.below hb34 hB7.lt
        have hA5 := hA4.below hb34 hA4.lt
        have hE5 := hE4.below hb34 hE4.lt
        have l7 : w.heap.size + 1 < W3.heap.size := lE
        clear hw4 HSS a7 a3 hB7 hA4 hE4 hb34 hb3
        have g3 := Below.cellOf hb4 (Nat.le_refl _) h3
        have gg := Below.cellOf hb4 (Nat.le_refl _) hcg
        have gc := Below.cellOf hb4 (Nat.le_refl _) hc2
        have gy := Below.cellOf hb4 (Nat.le_refl _) hyc
        have x7 := hB75.cell 0
        have xA := hA5.cell 0
        simp only [List.getElem?_toArray, List.getElem?_cons_zero] at x7 xA
        go_wp2_with fail
        go_quiet (fail)
        go_wp2_with fail
        (refine wp_named ?_; intro W5 hW5)
        have hb5 : Below w.heap.size w W5 := by rw [hW5]; exact below_drewN hb4 nq
        have hE6 : Blk W5 (w.heap.size + 1) 63 #[.int .i64 0, .int .i64 0, .int .i64 0, .int .i64 0] := by rw [hW5]; exact hE5.drewN nq
        clear hW5 hE5 hA5 hB75 x7 xA g3 gg gc gy hb4
        refine wp_region_held_drew (S := fun V => Below w.heap.size w V) (by kernel_rfl) hb5.drew (fun _ => ?_)
        refine take_ (i := 0) (d := some 89) (v := ?_) rfl rfl (by kernel_rfl) (by kernel_rfl) (by kernel_rfl) (fun _ _ _ h => h) (by rfl) ?_ (by first | rfl | trivial | assumption) ?_
        rotate_left
        · (intro V hSw; (try (have hF := HSX.out V hSw)); (try (cases hSw)); (try go_split_ands); go_simp; try with_reducible rfl)
        simp only [Act.put, List.setIfInBounds_toArray, List.set_cons_zero, List.set_cons_succ]
        refine take_ (i := 1) (d := some 90) (v := ?_) rfl rfl (by kernel_rfl) (by kernel_rfl) (by kernel_rfl) (fun _ _ _ h => h) (by rfl) ?_ (by first | rfl | trivial | assumption) ?_
        rotate_left
        · (intro V hSw; (try (have hF := HSX.out V hSw)); (try (cases hSw)); (try go_split_ands); go_simp; try with_reducible rfl)
        simp only [Act.put, List.setIfInBounds_toArray, List.set_cons_zero, List.set_cons_succ]
        refine take_ (i := 2) (d := some 91) (v := ?_) rfl rfl (by kernel_rfl) (by kernel_rfl) (by kernel_rfl) (fun _ _ _ h => h) (by rfl) ?_ (by first | rfl | trivial | assumption) ?_
        rotate_left
        · (intro V hSw; (try (have hF := HSX.out V hSw)); (try (cases hSw)); (try go_split_ands); go_simp; try with_reducible rfl)
        simp only [Act.put, List.setIfInBounds_toArray, List.set_cons_zero, List.set_cons_succ]
        refine take_ (i := 3) (d := some 92) (v := ?_) rfl rfl (by kernel_rfl) (by kernel_rfl) (by kernel_rfl) (fun _ _ _ h => h) (by rfl) ?_ (by first | rfl | trivial | assumption) ?_
        rotate_left
        · (intro V hSw; (try (have hF := HSX.out V hSw)); (try (cases hSw)); (try go_split_ands); go_simp; try with_reducible rfl)
        simp only [Act.put, List.setIfInBounds_toArray, List.set_cons_zero, List.set_cons_succ]
        refine take_ (i := 4) (d := some 93) (v := ?_) rfl rfl (by kernel_rfl) (by kernel_rfl) (by kernel_rfl) (fun _ _ _ h => h) (by rfl) ?_ (by first | rfl | trivial | assumption) ?_
        rotate_left
        · (intro V hSw; (try (have hF := HSX.out V hSw)); (try (cases hSw)); (try go_split_ands); go_simp; try with_reducible rfl)
        simp only [Act.put, List.setIfInBounds_toArray, List.set_cons_zero, List.set_cons_succ]
        refine take_ (i := 5) (d := some 94) (v := ?_) rfl rfl (by kernel_rfl) (by kernel_rfl) (by kernel_rfl) (fun _ _ _ h => h) (by rfl) ?_ (by first | rfl | trivial | assumption) ?_
        rotate_left
        · (intro V hSw; (try (have hF := HSX.out V hSw)); (try (cases hSw)); (try go_split_ands); go_simp; try with_reducible rfl)
        simp only [Act.put, List.setIfInBounds_toArray, List.set_cons_zero, List.set_cons_succ]
        refine take_ (i := 6) (d := some 95) (v := ?_) rfl rfl (by kernel_rfl) (by kernel_rfl) (by kernel_rfl) (fun _ _ _ h => h) (by rfl) ?_ (by first | rfl | trivial | assumption) ?_
        rotate_left
        · (intro V hSw; (try (have hF := HSX.out V hSw)); (try (cases hSw)); (try go_split_ands); go_simp; try with_reducible rfl)
        simp only [Act.put, List.setIfInBounds_toArray, List.set_cons_zero, List.set_cons_succ]
        refine take_ (i := 7) (d := some 96) (v := ?_) rfl rfl (by kernel_rfl) (by kernel_rfl) (by kernel_rfl) (fun _ _ _ h => h) (by rfl) ?_ (by first | rfl | trivial | assumption) ?_
        rotate_left
        · (intro V hSw; (try (have hF := HSX.out V hSw)); (try (cases hSw)); (try go_split_ands); go_simp; try with_reducible rfl)
        simp only [Act.put, List.setIfInBounds_toArray, List.set_cons_zero, List.set_cons_succ]
        refine take_ (i := 8) (d := some 97) (v := ?_) rfl rfl (by kernel_rfl) (by kernel_rfl) (by kernel_rfl) (fun _ _ _ h => h) (by rfl) ?_ (by first | rfl | trivial | assumption) ?_
        rotate_left
        · (intro V hSw; (try (have hF := HSX.out V hSw)); (try (cases hSw)); (try go_split_ands); go_simp; try with_reducible rfl)
        simp only [Act.put, List.setIfInBounds_toArray, List.set_cons_zero, List.set_cons_succ]
        obtain ⟨z0, z1, z2, z3⟩ := hE6.four
        have zf0 := hE6.frozen 0
        have zf1 := hE6.frozen 1
        have zf2 := hE6.frozen 2
        have zf3 := hE6.frozen 3
        refine wpAnyH_ready (rs := [9]) (by kernel_rfl) (by simp) ?_
        refine AllReadyH.cons (o := _) rfl (fun K hK => ?_) AllReadyH.nil
        go_simp
        refine hK.out _ _ (below_four hb5 (Nat.le_succ _) _ _ _ _).drew (fun _ => ?_)
        clear hK K
        refine take_ (i := 10) (d := some 5) (v := ?_) rfl rfl (by kernel_rfl) (by kernel_rfl) (by kernel_rfl) (fun _ _ _ h => h) (by rfl) ?_ (by first | rfl | trivial | assumption) ?_
        rotate_left
        · (intro V hSw; (try (have hF := HSX.out V hSw)); (try (cases hSw)); (try go_split_ands); go_simp; try with_reducible rfl)
        simp only [Act.put, List.setIfInBounds_toArray, List.set_cons_zero, List.set_cons_succ]
        refine wpAnyH_done (by kernel_rfl) ?_ _
        have hE8 := (four_set hE6 (.int .i64 (K : Int)) (.int .i64 (c : Int)) (.int .i64 (a : Int)) (.int .i64 (b : Int))).drew
        have r0 := hE8.cell 0
        have r1 := hE8.cell 1
        have r2 := hE8.cell 2
        have r3 := hE8.cell 3
        simp only [List.getElem?_toArray, List.getElem?_cons_zero, List.getElem?_cons_succ] at r0 r1 r2 r3
        have hb9 := (below_four hb5 (show w.heap.size ≤ w.heap.size + 1 by omega) (.int .i64 (K : Int)) (.int .i64 (c : Int)) (.int .i64 (a : Int)) (.int .i64 (b : Int))).drew
        go_wp2_with fail
        refine bodyPost_ret (v := .tuple #[.agg #[.int .i64 (K : Int), .int .i64 (c : Int), .int .i64 (a : Int), .int .i64 (b : Int)], .bool true]) (by simp [results, Tryz.results21, go_sem, r0, r1, r2, r3]) rfl ?_
        exact ⟨by rw [show (K : Int) = (k : Int) + 1 by have := HK.out; omega], hb9⟩
    · have k1 : 1 < (K : Int) := by omega
      have k2 : decide (1 < (K : Int)) = true := decide_eq_true k1
      obtain ⟨sb', so', A', n', cc, l', e, el, hrk, hrr', _⟩ := HST.out.at_ hkL
      cases e
      have drk := Below.cellOf hb2 (Nat.le_refl _) hrk
      obtain ⟨rowk, hrowk⟩ : ∃ rowk, (gatesOf ar ls)[k]? = some rowk := ⟨_, List.getElem?_eq_getElem (by have := (List.getElem?_eq_some_iff.1 el).1; rwa [stAll_len] at this)⟩
      rw [stAll_get hrowk] at el
      cases el
      have hlt2 := HLT.out k rowk (by omega) hrowk
      by_cases hn0 : n' = 0
      · subst hn0
        have HNK := Lib.hid (show i < k by omega)
        clear hrr' hrowk hlt2 hki hK hik
        go_wp2_with fail
        go_quiet (fail)
        go_wp2_with fail
        go_roundw
        case rel => exact ⟨⟨k0 + nq, rfl⟩, k - 1, k, by have := HNK.out; omega, by have := HNK.out; omega, by omega, rfl⟩
        case measure => simp [intOf]; have := HK.out; omega
      · obtain ⟨qb, qo, y, rfl, ey, hy⟩ := hrr'.at_ (i := 0) (by omega)
        have hl0 : 0 < rowk.length := by rw [← stRow_len (sumA ((gatesOf ar ls).take k)) rowk, hrr'.1]; omega
        rw [stRow_get hl0] at ey
        obtain ⟨yn, hyn⟩ : ∃ yn, yn = sumA ((gatesOf ar ls).take k) + sumS (rowk.take 0) := ⟨_, rfl⟩
        rw [← hyn] at ey
        cases ey
        have dy := Below.cellOf hb2 (Nat.le_refl _) hy
        have dy' : W2.cell? ⟨qb, qo, none⟩ = some (.int .i64 (yn : Int)) := by simpa using dy
        have hyz2 : (z : Int) < (yn : Int) := by omega
        have n0 : ((n' : Int) == 0) = false := by simp; omega
        have n2' : (0 : Int) < (n' : Int) := by omega
        have n3 : decide ((z : Int) < (yn : Int)) = true := decide_eq_true hyz2
        have HNK := Lib.hid (show i < k by omega)
        clear hrr' hrowk hlt2 hki hl0 hyn hK hik
        go_wp2_with fail
        go_quiet (fail)
        go_wp2_with fail
        go_roundw
        case rel => exact ⟨⟨k0 + nq, rfl⟩, k - 1, k, by have := HNK.out; omega, by have := HNK.out; omega, by omega, rfl⟩
        case measure => simp [intOf]; have := HK.out; omega
end Go.Proofs.YtgkeolddpielpaaGreatDoor
