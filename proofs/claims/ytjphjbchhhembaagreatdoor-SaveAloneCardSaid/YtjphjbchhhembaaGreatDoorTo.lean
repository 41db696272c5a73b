/- To of roundsmanlaw24: the job as the program's. -/
import Derived.Test.YtjphjbchhhembaaGreatDoorJoin
namespace Go.Proofs.YtjphjbchhhembaaGreatDoor
open Go.RowKit

attribute [local go_sem ↓] Go.wp_at_zero Go.wp_at_succ

theorem infoStop : (Tryz.prog.info? 46).map (fun i => (i.zero, i.size, i.bytes)) = some (some (.agg #[.int .i64 0, .int .i64 0]), 2, 16) := by kernel_rfl
theorem pcells_next {L : List (Int × Int)} {k : Nat} {p : Int × Int} (h : L[k]? = some p) : pcells (L.take (k + 1)) = pcells (L.take k) ++ [.int .i64 p.1, .int .i64 p.2] := by
  have hlt := (List.getElem?_eq_some_iff.1 h).1
  have e := (List.getElem?_eq_some_iff.1 h).2
  rw [List.take_succ_eq_append_getElem hlt, e, pcells_app]
  rfl
theorem Blk.grown {w w' : World} {g : Nat} {t : TypeId} {cs : Array Value} {r : Option Nat} (h : Blk w g t cs) (hg : w.grownBy w' r) (hne : r ≠ some g) : Blk w' g t cs :=
  (hg.block g h.lt (fun e => hne e.symm)).trans h
theorem Own.ne {w : World} {B s n c g : Nat} {e : TypeId} {A : Option Addr} {xs : List Value} (h : Own w B e s A n c xs) (hg : g < B) : blkOf A ≠ some g := fun e' => by
  have := (h.lt g e').1
  omega

theorem two_one (x y : Int) : ∀ u ∈ [Value.int .i64 x, Value.int .i64 y], u.oneCell' = true := pcells_one [(x, y)]
theorem RdP.grown {w w' : World} {A : Option Addr} {n g : Nat} {l : List (Int × Int)} (h : RdP w A n l) (hg : w.grownBy w' (some g)) (hne : blkOf A ≠ some g) : RdP w' A n l :=
  ⟨h.1, fun i x hx => by
    obtain ⟨b, o, e, h1, h2⟩ := h.2 i x hx
    subst e
    have hbne : (some b : Option Nat) ≠ some g := hne
    have hb := lt_of_cell h1
    have hk := hg.block b hb (fun e => hbne e)
    refine ⟨b, o, rfl, ?_, ?_⟩
    all_goals
      unfold World.cell? at h1 h2 ⊢
      rw [hk]
      assumption⟩
theorem step_app' {P : Program} {w : World} {ops : Array Oper} {o : Oper} {a : Act} {K : Act → World → Prop} {Q : Exit → Act → World → Prop} {E : Prop} (d : Option Tmp) (hd : o.dst = d) (hgd : o.guard = none) (s x : Operand) (t : TypeId)
    (ho : o.op = .call { callee := .builtin .append, args := #[s, x], argTypes := #[t, t] })
    (e : TypeId) (z : Value) (sz by_ : Nat) (hinfo : (P.info? e).map (fun i => (i.zero, i.size, i.bytes)) = some (some z, sz, by_)) (ht : P.underlying t = some (.slice e)) (hzs : z.cells.size = sz) (hs0 : 0 < sz)
    {B n c m c2 : Nat} {A X : Option Addr} {xs news : List Value} (hs : a.eval s = .slice A n c) (hx : a.eval x = .slice X m c2)
    (hown : Own w B e sz A n c xs) (hr : Rds w sz X m news) (h1 : ∀ u ∈ news, u.oneCell' = true) (hn : (n + m) * by_ ≤ 140737488355328) (hnm : n + m ≤ 9223372036854775807) (hB : B ≤ w.heap.size)
    (h : ∀ A' c' w', Own w' B e sz A' (n + m) c' (xs ++ news) → w.grownBy w' (blkOf A) → (blkOf A' = blkOf A ∨ blkOf A' = some w.heap.size) → K (a.put d (.slice A' (n + m) c')) w') :
    if Region.wanted o (yielded ops a.tmps) = true then Oper.wp P o a w K Q else E := by
  subst hd
  exact step_app hgd s x t ho e z sz by_ hinfo ht hzs hs0 hs hx hown hr h1 hn hnm hB h
set_option maxHeartbeats 2000000 in
theorem to_any (dep cap lim : Int) (A : Option Addr) (n c : Nat) (st : List (Int × Int)) (w : World) (h : RdP w A n st) (hn : n ≤ 1000000000) :
    Calls Tryz.prog 8 #[jobV dep cap lim A n c] w fun e w' => ∃ A' c', e = .returned (jobV dep cap lim A' n c') ∧ RdP w' A' n st ∧ Below w.heap.size w w' := by
  have HL := Lib.hid h.1
  go_enter Tryz.func8, Tryz.ntmps8
  go_wp2_with fail
  (refine wp_named ?_; intro w1 hw1)
  have hb1 : Below w.heap.size w w1 := by rw [hw1]; exact (by repeat (first | exact Below.refl _ _ | assumption | apply Below.drew | apply below_drewN | apply Bel.alloc | (refine Bel.setCell_ ?_ ?_; rotate_left; omega) | (refine Bel.step ?_ (by assumption))))
  have hJ : Blk w1 w.heap.size 24 #[.int .i64 dep, .int .i64 cap, .int .i64 lim, .slice A n c] := by rw [hw1]; exact (by repeat (first | assumption | (refine Blk.new' _ _ _ ?_; first | with_unfolding_all rfl | (simp; done)) | apply Blk.drewN | apply Blk.drew | apply Blk.alloc | (refine Blk.far_ ?_ ?_ _; rotate_left; omega)))
  have hR : Blk w1 (w.heap.size + 1) 35 #[.int .i64 0, .int .i64 0, .int .i64 0, .slice none 0 0] := by rw [hw1]; exact (by repeat (first | assumption | (refine Blk.new' _ _ _ ?_; first | with_unfolding_all rfl | (simp; done)) | apply Blk.drewN | apply Blk.drew | apply Blk.alloc | (refine Blk.far_ ?_ ?_ _; rotate_left; omega)))
  have hK0 : Blk w1 (w.heap.size + 1 + 1) 35 #[.int .i64 dep, .int .i64 cap, .int .i64 lim, .slice none 0 0] := by rw [hw1]; exact (by repeat (first | assumption | (refine Blk.new' _ _ _ ?_; first | with_unfolding_all rfl | (simp; done)) | apply Blk.drewN | apply Blk.drew | apply Blk.alloc | (refine Blk.far_ ?_ ?_ _; rotate_left; omega)))
  clear hw1
  go_loopw [4] (fun i W => Below w.heap.size w W ∧ Blk W w.heap.size 24 #[.int .i64 dep, .int .i64 cap, .int .i64 lim, .slice A n c] ∧ Blk W (w.heap.size + 1) 35 #[.int .i64 0, .int .i64 0, .int .i64 0, .slice none 0 0] ∧ ∃ (k : Nat) (A3 : Option Addr) (c3 : Nat), k ≤ n ∧ i = .int .i64 k ∧ Blk W (w.heap.size + 1 + 1) 35 #[.int .i64 dep, .int .i64 cap, .int .i64 lim, .slice A3 k c3] ∧ Own W (w.heap.size + 1 + 1 + 1) 46 2 A3 k c3 (pcells (st.take k))) (fun i _ => n - (intOf i).toNat)
  case atStart => exact ⟨hb1, hJ, hR, 0, none, 0, Nat.zero_le _, rfl, hK0, by simpa [pcells] using Own.nil _ _ _ _⟩
  case round =>
    clear hb1 hJ hR hK0
    obtain ⟨hbl, hJ, hR, k, A3, c3, hk, rfl, hK0, hown⟩ := hrel
    obtain ⟨j0, j1, j2, j3⟩ := hJ.four
    obtain ⟨k0, k1, k2, k3⟩ := hK0.four
    have kf := hK0.frozen 3
    by_cases hlt : k < n
    · obtain ⟨sb, so, x, y, rfl, hx, cx, cy⟩ := h.at_ hlt
      have HN := Lib.hid (pcells_next hx)
      have dx := Below.cellOf hbl (Nat.le_refl _) cx
      have dy := Below.cellOf hbl (Nat.le_refl _) cy
      have HSX := Lib.hid (show ∀ V, Below (w.heap.size + 1 + 1) wr V → V.cell? ⟨w.heap.size, 3, none⟩ = some (.slice (some ⟨sb, so, none⟩) n c) ∧ V.cell? ⟨sb, so + k * 2, none⟩ = some (.int .i64 x) ∧ V.cell? ⟨sb, so + k * 2 + 1, none⟩ = some (.int .i64 y) from
        fun V hb => ⟨(hb.cell (by simp only; omega)).trans j3, (hb.cell (by have := lt_of_cell cx; simp only at this ⊢; omega)).trans dx, (hb.cell (by have := lt_of_cell cx; simp only at this ⊢; omega)).trans dy⟩)
      have i3 : (0 : Int) ≤ (k : Int) := by omega
      have i4 : (k : Int) < (n : Int) := by omega
      have hsz : w.heap.size + 1 + 1 ≤ wr.heap.size := by have := hK0.lt; omega
      clear hx cx cy dx dy j0 j1 j2 k0 k1 k2 kf
      go_wp2_with fail
      refine wp_region_held_drew (S := fun V => Below (w.heap.size + 1 + 1) wr V) (by kernel_rfl) (Below.refl _ _).drew (fun _ => ?_)
      refine take_ (i := 0) (d := some 19) (v := ?_) rfl rfl (by kernel_rfl) (by kernel_rfl) (by kernel_rfl) (fun _ _ _ h => h) (by rfl) ?_ (by first | rfl | trivial | assumption) ?_
      rotate_left
      · (intro V hSw; (try (have hF := HSX.out V hSw)); (try (cases hSw)); (try go_split_ands); go_simp; try with_reducible rfl)
      simp only [Act.put, List.setIfInBounds_toArray, List.set_cons_zero, List.set_cons_succ]
      refine take_ (i := 2) (d := some 21) (v := ?_) rfl rfl (by kernel_rfl) (by kernel_rfl) (by kernel_rfl) (fun _ _ _ h => h) (by rfl) ?_ (by first | rfl | trivial | assumption) ?_
      rotate_left
      · (intro V hSw; (try (have hF := HSX.out V hSw)); (try (cases hSw)); (try go_split_ands); go_simp; try with_reducible rfl)
      simp only [Act.put, List.setIfInBounds_toArray, List.set_cons_zero, List.set_cons_succ]
      refine take_ (i := 3) (d := some 22) (v := ?_) rfl rfl (by kernel_rfl) (by kernel_rfl) (by kernel_rfl) (fun _ _ _ h => h) (by rfl) ?_ (by first | rfl | trivial | assumption) ?_
      rotate_left
      · (intro V hSw; (try (have hF := HSX.out V hSw)); (try (cases hSw)); (try go_split_ands); go_simp; try with_reducible rfl)
      simp only [Act.put, List.setIfInBounds_toArray, List.set_cons_zero, List.set_cons_succ]
      refine take_ (i := 4) (d := some 23) (v := ?_) rfl rfl (by kernel_rfl) (by kernel_rfl) (by kernel_rfl) (fun _ _ _ h => h) (by rfl) ?_ (by first | rfl | trivial | assumption) ?_
      rotate_left
      · (intro V hSw; (try (have hF := HSX.out V hSw)); (try (cases hSw)); (try go_split_ands); go_simp; try with_reducible rfl)
      simp only [Act.put, List.setIfInBounds_toArray, List.set_cons_zero, List.set_cons_succ]
      refine take_ (i := 5) (d := some 24) (v := ?_) rfl rfl (by kernel_rfl) (by kernel_rfl) (by kernel_rfl) (fun _ _ _ h => h) (by rfl) ?_ (by first | rfl | trivial | assumption) ?_
      rotate_left
      · (intro V hSw; (try (have hF := HSX.out V hSw)); (try (cases hSw)); (try go_split_ands); go_simp; try with_reducible rfl)
      simp only [Act.put, List.setIfInBounds_toArray, List.set_cons_zero, List.set_cons_succ]
      refine take_ (i := 6) (d := some 25) (v := ?_) rfl rfl (by kernel_rfl) (by kernel_rfl) (by kernel_rfl) (fun _ _ _ h => h) (by rfl) ?_ (by first | rfl | trivial | assumption) ?_
      rotate_left
      · (intro V hSw; (try (have hF := HSX.out V hSw)); (try (cases hSw)); (try go_split_ands); go_simp; try with_reducible rfl)
      simp only [Act.put, List.setIfInBounds_toArray, List.set_cons_zero, List.set_cons_succ]
      refine take_ (i := 7) (d := some 26) (v := ?_) rfl rfl (by kernel_rfl) (by kernel_rfl) (by kernel_rfl) (fun _ _ _ h => h) (by rfl) ?_ (by first | rfl | trivial | assumption) ?_
      rotate_left
      · (intro V hSw; (try (have hF := HSX.out V hSw)); (try (cases hSw)); (try go_split_ands); go_simp; try with_reducible rfl)
      simp only [Act.put, List.setIfInBounds_toArray, List.set_cons_zero, List.set_cons_succ]
      refine take_ (i := 8) (d := some 27) (v := ?_) rfl rfl (by kernel_rfl) (by kernel_rfl) (by kernel_rfl) (fun _ _ _ h => h) (by rfl) ?_ (by first | rfl | trivial | assumption) ?_
      rotate_left
      · (intro V hSw; (try (have hF := HSX.out V hSw)); (try (cases hSw)); (try go_split_ands); go_simp; try with_reducible rfl)
      simp only [Act.put, List.setIfInBounds_toArray, List.set_cons_zero, List.set_cons_succ]
      refine take_ (i := 9) (d := some 28) (v := ?_) rfl rfl (by kernel_rfl) (by kernel_rfl) (by kernel_rfl) (fun _ _ _ h => h) (by rfl) ?_ (by first | rfl | trivial | assumption) ?_
      rotate_left
      · (intro V hSw; (try (have hF := HSX.out V hSw)); (try (cases hSw)); (try go_split_ands); go_simp; try with_reducible rfl)
      simp only [Act.put, List.setIfInBounds_toArray, List.set_cons_zero, List.set_cons_succ]
      refine take_ (i := 10) (d := some 29) (v := ?_) rfl rfl (by kernel_rfl) (by kernel_rfl) (by kernel_rfl) (fun _ _ _ h => h) (by rfl) ?_ (by first | rfl | trivial | assumption) ?_
      rotate_left
      · (intro V hSw; (try (have hF := HSX.out V hSw)); (try (cases hSw)); (try go_split_ands); go_simp; try with_reducible rfl)
      simp only [Act.put, List.setIfInBounds_toArray, List.set_cons_zero, List.set_cons_succ]
      refine take_ (i := 11) (d := some 30) (v := ?_) rfl rfl (by kernel_rfl) (by kernel_rfl) (by kernel_rfl) (fun _ _ _ h => h) (by rfl) ?_ (by first | rfl | trivial | assumption) ?_
      rotate_left
      · (intro V hSw; (try (have hF := HSX.out V hSw)); (try (cases hSw)); (try go_split_ands); go_simp; try with_reducible rfl)
      simp only [Act.put, List.setIfInBounds_toArray, List.set_cons_zero, List.set_cons_succ]
      refine take_ (i := 12) (d := some 31) (v := ?_) rfl rfl (by kernel_rfl) (by kernel_rfl) (by kernel_rfl) (fun _ _ _ h => h) (by rfl) ?_ (by first | rfl | trivial | assumption) ?_
      rotate_left
      · (intro V hSw; (try (have hF := HSX.out V hSw)); (try (cases hSw)); (try go_split_ands); go_simp; try with_reducible rfl)
      simp only [Act.put, List.setIfInBounds_toArray, List.set_cons_zero, List.set_cons_succ]
      refine take_ (i := 13) (d := some 32) (v := ?_) rfl rfl (by kernel_rfl) (by kernel_rfl) (by kernel_rfl) (fun _ _ _ h => h) (by rfl) ?_ (by first | rfl | trivial | assumption) ?_
      rotate_left
      · (intro V hSw; (try (have hF := HSX.out V hSw)); (try (cases hSw)); (try go_split_ands); go_simp; try with_reducible rfl)
      simp only [Act.put, List.setIfInBounds_toArray, List.set_cons_zero, List.set_cons_succ]
      refine take_ (i := 14) (d := some 33) (v := ?_) rfl rfl (by kernel_rfl) (by kernel_rfl) (by kernel_rfl) (fun _ _ _ h => h) (by rfl) ?_ (by first | rfl | trivial | assumption) ?_
      rotate_left
      · (intro V hSw; (try (have hF := HSX.out V hSw)); (try (cases hSw)); (try go_split_ands); go_simp; try with_reducible rfl)
      simp only [Act.put, List.setIfInBounds_toArray, List.set_cons_zero, List.set_cons_succ]
      refine wpAnyH_ready (rs := [1, 15]) (by kernel_rfl) (by simp) ?_
      refine AllReadyH.cons (o := _) rfl (fun K hK => ?_) (AllReadyH.cons (o := _) rfl (fun K hK => ?_) AllReadyH.nil)
      · go_simp
        refine hK.out _ _ (Below.refl _ _).drew (fun _ => ?_)
        clear hK K
        refine wpAnyH_ready (rs := [15]) (by kernel_rfl) (by simp) ?_
        refine AllReadyH.cons (o := _) rfl (fun K hK => ?_) AllReadyH.nil
        go_simp
        refine hK.out _ _ (((Below.refl _ _).alloc hsz _).drew) (fun _ => ?_)
        clear hK K
        have hW : ∃ W, W = (wr.alloc (.cells #[.int .i64 x, .int .i64 y] 46)).drew := ⟨_, rfl⟩
        obtain ⟨W, hW⟩ := hW
        rw [← hW]
        have hownW : Own W (w.heap.size + 1 + 1 + 1) 46 2 A3 k c3 (pcells (st.take k)) := by rw [hW]; exact (by repeat (first | assumption | apply Own.drewN | apply Own.drew | apply Own.alloc))
        have hrdW : Rds W 2 (some ⟨wr.heap.size, 0, none⟩) 1 [.int .i64 x, .int .i64 y] := by rw [hW]; exact (Blk.new wr 46 #[.int .i64 x, .int .i64 y]).rds rfl
        have hbW : Below (w.heap.size + 1 + 1) wr W := by rw [hW]; exact ((Below.refl _ _).alloc hsz _).drew
        have hblW : Below w.heap.size w W := by rw [hW]; exact (by repeat (first | exact Below.refl _ _ | assumption | apply Below.drew | apply below_drewN | apply Bel.alloc | (refine Bel.setCell_ ?_ ?_; rotate_left; omega) | (refine Bel.step ?_ (by assumption))))
        have hJW : Blk W w.heap.size 24 #[.int .i64 dep, .int .i64 cap, .int .i64 lim, .slice (some ⟨sb, so, none⟩) n c] := by rw [hW]; exact (by repeat (first | assumption | apply Blk.drewN | apply Blk.drew | apply Blk.alloc | (refine Blk.far_ ?_ ?_ _; rotate_left; omega)))
        have hRW : Blk W (w.heap.size + 1) 35 #[.int .i64 0, .int .i64 0, .int .i64 0, .slice none 0 0] := by rw [hW]; exact (by repeat (first | assumption | apply Blk.drewN | apply Blk.drew | apply Blk.alloc | (refine Blk.far_ ?_ ?_ _; rotate_left; omega)))
        have hKW : Blk W (w.heap.size + 1 + 1) 35 #[.int .i64 dep, .int .i64 cap, .int .i64 lim, .slice A3 k c3] := by rw [hW]; exact (by repeat (first | assumption | apply Blk.drewN | apply Blk.drew | apply Blk.alloc | (refine Blk.far_ ?_ ?_ _; rotate_left; omega)))
        have hWsz : w.heap.size + 1 + 1 + 1 ≤ W.heap.size := by have := hKW.lt; omega
        clear hW
        refine wpAnyH_ready (rs := [16]) (by kernel_rfl) (by simp) ?_
        refine AllReadyH.cons (o := _) rfl (fun K hK => ?_) AllReadyH.nil
        with_reducible refine step_app' (some 35) rfl rfl (.tmp 20) (.tmp 34) 33 rfl 46 _ 2 16 infoStop Tryz.underlying33 rfl (by omega) rfl rfl hownW hrdW (two_one x y) (by omega) (by omega) hWsz ?_
        intro A' c' w' hown' hg _
        have hb5 : Below (w.heap.size + 1 + 1) wr w' := Bel.grownOwn hbW hg (hownW.mono (by omega)) (by omega)
        have hb6 : Below w.heap.size w w' := Bel.grownOwn hblW hg (hownW.mono (by omega)) (by omega)
        have hJ' := hJW.grown hg (hownW.ne (by omega))
        have hR' := hRW.grown hg (hownW.ne (by omega))
        have hK' := hKW.grown hg (hownW.ne (by omega))
        clear hownW hrdW hbW hblW hJW hRW hKW hg
        refine hK.out _ _ hb5 (fun _ => ?_)
        clear hK K
        simp only [Act.put, List.setIfInBounds_toArray, List.set_cons_zero, List.set_cons_succ]
        refine take_ (i := 17) (d := some 36) (v := ?_) rfl rfl (by kernel_rfl) (by kernel_rfl) (by kernel_rfl) (fun _ _ _ h => h) (by rfl) ?_ (by first | rfl | trivial | assumption) ?_
        rotate_left
        · (intro V hSw; (try (have hF := HSX.out V hSw)); (try (cases hSw)); (try go_split_ands); go_simp; try with_reducible rfl)
        simp only [Act.put, List.setIfInBounds_toArray, List.set_cons_zero, List.set_cons_succ]
        have k3' := hK'.four.2.2.2
        have kf' := hK'.frozen 3
        refine wpAnyH_ready (rs := [18]) (by kernel_rfl) (by simp) ?_
        refine AllReadyH.cons (o := _) rfl (fun K hK => ?_) AllReadyH.nil
        go_simp
        refine hK.out _ _ (hb5.setCell (by simp only; omega) _) (fun _ => ?_)
        clear hK K
        refine wpAnyH_done (by kernel_rfl) ?_ _
        have HO := Lib.hid (hown'.far (grownBy_set w' (w.heap.size + 1 + 1) 3 (.slice A' (k + 1) c')) (.inr (hown'.ne (by omega))))
        have HK2 := Lib.hid (hK'.set_ 3 (.slice A' (k + 1) c'))
        clear hown' hK' k3' kf'
        go_wp2_with fail
        go_roundw
        case rel => exact ⟨(by repeat (first | exact Below.refl _ _ | assumption | apply Below.drew | apply below_drewN | apply Bel.alloc | (refine Bel.setCell_ ?_ ?_; rotate_left; omega) | (refine Bel.step ?_ (by assumption)))), (by repeat (first | assumption | apply Blk.drewN | apply Blk.drew | apply Blk.alloc | (refine Blk.far_ ?_ ?_ _; rotate_left; omega))), (by repeat (first | assumption | apply Blk.drewN | apply Blk.drew | apply Blk.alloc | (refine Blk.far_ ?_ ?_ _; rotate_left; omega))), k + 1, A', c', by omega, by go_num, HK2.out, by rw [HN.out]; exact HO.out⟩
        case measure => simp [intOf]; omega
      · go_simp
        refine hK.out _ _ (((Below.refl _ _).alloc hsz _).drew) (fun _ => ?_)
        clear hK K
        have k3a := fun o => (hK0.alloc o).four.2.2.2
        refine wpAnyH_ready (rs := [1]) (by kernel_rfl) (by simp) ?_
        refine AllReadyH.cons (o := _) rfl (fun K hK => ?_) AllReadyH.nil
        go_simp
        refine hK.out _ _ (((Below.refl _ _).alloc hsz _).drew) (fun _ => ?_)
        clear hK K
        have hW : ∃ W, W = (wr.alloc (.cells #[.int .i64 x, .int .i64 y] 46)).drew := ⟨_, rfl⟩
        obtain ⟨W, hW⟩ := hW
        rw [← hW]
        have hownW : Own W (w.heap.size + 1 + 1 + 1) 46 2 A3 k c3 (pcells (st.take k)) := by rw [hW]; exact (by repeat (first | assumption | apply Own.drewN | apply Own.drew | apply Own.alloc))
        have hrdW : Rds W 2 (some ⟨wr.heap.size, 0, none⟩) 1 [.int .i64 x, .int .i64 y] := by rw [hW]; exact (Blk.new wr 46 #[.int .i64 x, .int .i64 y]).rds rfl
        have hbW : Below (w.heap.size + 1 + 1) wr W := by rw [hW]; exact ((Below.refl _ _).alloc hsz _).drew
        have hblW : Below w.heap.size w W := by rw [hW]; exact (by repeat (first | exact Below.refl _ _ | assumption | apply Below.drew | apply below_drewN | apply Bel.alloc | (refine Bel.setCell_ ?_ ?_; rotate_left; omega) | (refine Bel.step ?_ (by assumption))))
        have hJW : Blk W w.heap.size 24 #[.int .i64 dep, .int .i64 cap, .int .i64 lim, .slice (some ⟨sb, so, none⟩) n c] := by rw [hW]; exact (by repeat (first | assumption | apply Blk.drewN | apply Blk.drew | apply Blk.alloc | (refine Blk.far_ ?_ ?_ _; rotate_left; omega)))
        have hRW : Blk W (w.heap.size + 1) 35 #[.int .i64 0, .int .i64 0, .int .i64 0, .slice none 0 0] := by rw [hW]; exact (by repeat (first | assumption | apply Blk.drewN | apply Blk.drew | apply Blk.alloc | (refine Blk.far_ ?_ ?_ _; rotate_left; omega)))
        have hKW : Blk W (w.heap.size + 1 + 1) 35 #[.int .i64 dep, .int .i64 cap, .int .i64 lim, .slice A3 k c3] := by rw [hW]; exact (by repeat (first | assumption | apply Blk.drewN | apply Blk.drew | apply Blk.alloc | (refine Blk.far_ ?_ ?_ _; rotate_left; omega)))
        have hWsz : w.heap.size + 1 + 1 + 1 ≤ W.heap.size := by have := hKW.lt; omega
        clear hW
        refine wpAnyH_ready (rs := [16]) (by kernel_rfl) (by simp) ?_
        refine AllReadyH.cons (o := _) rfl (fun K hK => ?_) AllReadyH.nil
        with_reducible refine step_app' (some 35) rfl rfl (.tmp 20) (.tmp 34) 33 rfl 46 _ 2 16 infoStop Tryz.underlying33 rfl (by omega) rfl rfl hownW hrdW (two_one x y) (by omega) (by omega) hWsz ?_
        intro A' c' w' hown' hg _
        have hb5 : Below (w.heap.size + 1 + 1) wr w' := Bel.grownOwn hbW hg (hownW.mono (by omega)) (by omega)
        have hb6 : Below w.heap.size w w' := Bel.grownOwn hblW hg (hownW.mono (by omega)) (by omega)
        have hJ' := hJW.grown hg (hownW.ne (by omega))
        have hR' := hRW.grown hg (hownW.ne (by omega))
        have hK' := hKW.grown hg (hownW.ne (by omega))
        clear hownW hrdW hbW hblW hJW hRW hKW hg
        refine hK.out _ _ hb5 (fun _ => ?_)
        clear hK K
        simp only [Act.put, List.setIfInBounds_toArray, List.set_cons_zero, List.set_cons_succ]
        refine take_ (i := 17) (d := some 36) (v := ?_) rfl rfl (by kernel_rfl) (by kernel_rfl) (by kernel_rfl) (fun _ _ _ h => h) (by rfl) ?_ (by first | rfl | trivial | assumption) ?_
        rotate_left
        · (intro V hSw; (try (have hF := HSX.out V hSw)); (try (cases hSw)); (try go_split_ands); go_simp; try with_reducible rfl)
        simp only [Act.put, List.setIfInBounds_toArray, List.set_cons_zero, List.set_cons_succ]
        have k3' := hK'.four.2.2.2
        have kf' := hK'.frozen 3
        refine wpAnyH_ready (rs := [18]) (by kernel_rfl) (by simp) ?_
        refine AllReadyH.cons (o := _) rfl (fun K hK => ?_) AllReadyH.nil
        go_simp
        refine hK.out _ _ (hb5.setCell (by simp only; omega) _) (fun _ => ?_)
        clear hK K
        refine wpAnyH_done (by kernel_rfl) ?_ _
        have HO := Lib.hid (hown'.far (grownBy_set w' (w.heap.size + 1 + 1) 3 (.slice A' (k + 1) c')) (.inr (hown'.ne (by omega))))
        have HK2 := Lib.hid (hK'.set_ 3 (.slice A' (k + 1) c'))
        clear hown' hK' k3' kf'
        go_wp2_with fail
        go_roundw
        case rel => exact ⟨(by repeat (first | exact Below.refl _ _ | assumption | apply Below.drew | apply below_drewN | apply Bel.alloc | (refine Bel.setCell_ ?_ ?_; rotate_left; omega) | (refine Bel.step ?_ (by assumption)))), (by repeat (first | assumption | apply Blk.drewN | apply Blk.drew | apply Blk.alloc | (refine Blk.far_ ?_ ?_ _; rotate_left; omega))), (by repeat (first | assumption | apply Blk.drewN | apply Blk.drew | apply Blk.alloc | (refine Blk.far_ ?_ ?_ _; rotate_left; omega))), k + 1, A', c', by omega, by go_num, HK2.out, by rw [HN.out]; exact HO.out⟩
        case measure => simp [intOf]; omega
    · obtain rfl : k = n := by omega
      have hr := hown.rds.rdP
      rw [List.take_of_length_le (by rw [HL.out]; exact Nat.le_refl _)] at hr
      have HR := Lib.hid hr
      have q1 := hR.four
      have q0 := hR.frozen
      obtain ⟨q2, q3, q4, q5⟩ := q1
      have q6 := q0 0
      have q7 := q0 1
      have q8 := q0 2
      have q9 := q0 3
      have HNE := hown.ne (g := w.heap.size + 1) (by omega)
      clear hr hown q0
      go_wp2_with fail
      refine bodyPost_ret (v := jobV dep cap lim A3 k c3) (by simp [results, Tryz.results8, go_sem, q2, q3, q4, q5]) rfl ?_
      exact ⟨A3, c3, rfl, ((((HR.out.grown (grownBy_set _ _ _ _) HNE).grown (grownBy_set _ _ _ _) HNE).grown (grownBy_set _ _ _ _) HNE).grown (grownBy_set _ _ _ _) HNE), (by repeat (first | exact Below.refl _ _ | assumption | apply Below.drew | apply below_drewN | apply Bel.alloc | (refine Bel.setCell_ ?_ ?_; rotate_left; omega) | (refine Bel.step ?_ (by assumption))))⟩
end Go.Proofs.YtjphjbchhhembaaGreatDoor
