/- Parts of the proof: RwW, TwW, Si. -/
import Derived.Test.YtgkeolddpielpaaGreatDoorM18
/- Rows of ints in a row of the call's own, all of it may be written. -/
namespace Go.Proofs.YtgkeolddpielpaaGreatDoor
open Go.RowKit

def RwW (W : World) (B : Nat) (A : Option Addr) (n c : Nat) (xs : List Value) (ls : List (List Int)) : Prop :=
  RwL W B A n c xs ls ∧ ∀ (j : Nat) (A2 : Option Addr) (n2 c2 : Nat), xs[j]? = some (Value.slice A2 n2 c2) → Warm W A2
theorem RwW.nil (W : World) (B : Nat) : RwW W B none 0 0 [] [] := ⟨RwL.nil W B, fun j _ _ _ h => by simp at h⟩
theorem RwW.row {W : World} {B n c j : Nat} {A : Option Addr} {xs : List Value} {ls : List (List Int)} (h : RwL W B A n c xs ls) {A2 : Option Addr} {n2 c2 : Nat} (hx : xs[j]? = some (Value.slice A2 n2 c2)) :
    ∃ l, ls[j]? = some l ∧ RdI W A2 n2 l ∧ (∀ g, blkOf A2 = some g → B ≤ g ∧ g < W.heap.size ∧ blkOf A ≠ some g) := by
  have hj : j < ls.length := by have := (List.getElem?_eq_some_iff.1 hx).1; rw [h.1.1, Nat.mul_one] at this; rw [h.2.1]; exact this
  obtain ⟨A3, n3, c3, e, h1, h2, _⟩ := h.2.2 j _ (List.getElem?_eq_getElem hj)
  rw [hx] at e
  cases e
  exact ⟨_, List.getElem?_eq_getElem hj, h1, h2⟩
theorem RwW.below {W W' : World} {B n c : Nat} {A : Option Addr} {xs : List Value} {ls : List (List Int)} (h : RwW W B A n c xs ls) (hb : Below W.heap.size W W') : RwW W' B A n c xs ls :=
  ⟨h.1.below hb, fun j A2 n2 c2 hx => by
    obtain ⟨l, _, _, h3⟩ := RwW.row h.1 hx
    exact (h.2 j A2 n2 c2 hx).keep hb.size (fun b e => hb.block b (h3 b e).2.1)⟩
theorem RwW.far {W W' : World} {B n c : Nat} {A : Option Addr} {xs : List Value} {ls : List (List Int)} (h : RwW W B A n c xs ls) {g : Nat} (hg : W.grownBy W' (some g)) (hB : g < B) : RwW W' B A n c xs ls :=
  ⟨h.1.far hg hB, fun j A2 n2 c2 hx => by
    obtain ⟨l, _, _, h3⟩ := RwW.row h.1 hx
    exact (h.2 j A2 n2 c2 hx).keep hg.size (fun b e => hg.block b (h3 b e).2.1 (fun e' => by cases e'; have := (h3 g e).1; omega))⟩
theorem RwW.mono {W : World} {B B' n c : Nat} {A : Option Addr} {xs : List Value} {ls : List (List Int)} (h : RwW W B A n c xs ls) (hB : B' ≤ B) : RwW W B' A n c xs ls :=
  ⟨⟨h.1.1.mono hB, h.1.2.1, fun j l hl => by
    obtain ⟨A2, n2, c2, h1, h2, h3, h4⟩ := h.1.2.2 j l hl
    exact ⟨A2, n2, c2, h1, h2, fun g e => ⟨Nat.le_trans hB (h3 g e).1, (h3 g e).2⟩, h4⟩⟩, h.2⟩
theorem RwW.push {W w' : World} {B n c c' m d : Nat} {A A' R : Option Addr} {xs : List Value} {ls : List (List Int)} {t : List Int} (h : RwW W B A n c xs ls)
    (hown : Own w' B 47 1 A' (n + 1) c' (xs ++ [.slice R m d])) (hg : W.grownBy w' (blkOf A)) (hat : blkOf A' = blkOf A ∨ blkOf A' = some W.heap.size)
    (hr : RdI W R m t) (hne : ∀ g, blkOf R = some g → B ≤ g ∧ g < W.heap.size ∧ blkOf A ≠ some g) (h4 : m ≤ d) (h5 : d ≤ 9223372036854775807) (hw : Warm W R) : RwW w' B A' (n + 1) c' (xs ++ [.slice R m d]) (ls ++ [t]) := by
  refine ⟨h.1.push hown hg hat hr hne h4 h5, fun j A2 n2 c2 hx => ?_⟩
  rcases Nat.lt_or_ge j xs.length with hj | hj
  · rw [List.getElem?_append_left hj] at hx
    obtain ⟨l, _, _, h3⟩ := RwW.row h.1 hx
    exact (h.2 j A2 n2 c2 hx).keep hg.size (fun b e => hg.block b (h3 b e).2.1 (h3 b e).2.2.symm)
  · have hj2 : j = xs.length := by
      have := (List.getElem?_eq_some_iff.1 hx).1
      simp at this
      omega
    subst hj2
    rw [List.getElem?_append_right (Nat.le_refl _), Nat.sub_self] at hx
    cases hx
    exact hw.keep hg.size (fun b e => hg.block b (hne b e).2.1 (hne b e).2.2.symm)
/-- Rows that may be written, in blocks from B on ahead of T: what is read of them are ints. -/
def RwF (W : World) (B T : Nat) (A : Option Addr) (n : Nat) (ms : List Nat) : Prop :=
  ms.length = n ∧ ∀ (j m : Nat), ms[j]? = some m → ∃ (b o : Nat) (A2 : Option Addr) (c2 : Nat), A = some ⟨b, o, none⟩ ∧ W.cell? ⟨b, o + j, none⟩ = some (.slice A2 m c2) ∧
    ∀ k, k < m → ∃ (b2 o2 : Nat) (x : Int), A2 = some ⟨b2, o2, none⟩ ∧ b2 ≠ b ∧ B ≤ b2 ∧ b2 < T ∧ W.cell? ⟨b2, o2 + k, none⟩ = some (.int .i64 x) ∧ W.frozen? ⟨b2, o2 + k, none⟩ = false
theorem RwW.rwF {W : World} {B n c : Nat} {A : Option Addr} {xs : List Value} {ls : List (List Int)} (h : RwW W B A n c xs ls) : RwF W B W.heap.size A n (ls.map List.length) := by
  refine ⟨by rw [List.length_map]; exact h.1.2.1, fun j m hm => ?_⟩
  rw [List.getElem?_map] at hm
  obtain ⟨l, hl, rfl⟩ := Option.map_eq_some_iff.1 hm
  obtain ⟨A2, n2, c2, h1, h2, h3, h4⟩ := h.1.2.2 j l hl
  obtain ⟨b, o, e, hc⟩ := h.1.1.rds.2 _ _ h1
  have hn2 : l.length = n2 := h2.1
  subst hn2
  refine ⟨b, o, A2, c2, e, hc, fun k hk => ?_⟩
  obtain ⟨b2, o2, x, e2, _, hc2⟩ := h2.at_ hk
  have hb2 := h3 b2 (by rw [e2]; rfl)
  exact ⟨b2, o2, x, e2, fun e' => hb2.2.2 (by rw [e, e']; rfl), hb2.1, hb2.2.1, hc2, (h.2 j A2 _ c2 h1 b2 (by rw [e2]; rfl)).2 _⟩
theorem RwF.below {W W' : World} {B T n : Nat} {A : Option Addr} {ms : List Nat} (h : RwF W B T A n ms) (hb : Below W.heap.size W W') : RwF W' B T A n ms :=
  ⟨h.1, fun j m hm => by
    obtain ⟨b, o, A2, c2, e, hc, hr⟩ := h.2 j m hm
    refine ⟨b, o, A2, c2, e, Below.cellOf hb (Nat.le_refl _) hc, fun k hk => ?_⟩
    obtain ⟨b2, o2, x, e2, h1, h2, h5, h3, h4⟩ := hr k hk
    exact ⟨b2, o2, x, e2, h1, h2, h5, Below.cellOf hb (Nat.le_refl _) h3, (Below.frozenOf hb (lt_of_cell h3)).trans h4⟩⟩
theorem RwF.at_ {W : World} {B T n j : Nat} {A : Option Addr} {ms : List Nat} (h : RwF W B T A n ms) (hj : j < n) : ∃ (m b o : Nat) (A2 : Option Addr) (c2 : Nat), ms[j]? = some m ∧ A = some ⟨b, o, none⟩ ∧ W.cell? ⟨b, o + j, none⟩ = some (.slice A2 m c2) ∧
    ∀ k, k < m → ∃ (b2 o2 : Nat) (x : Int), A2 = some ⟨b2, o2, none⟩ ∧ b2 ≠ b ∧ B ≤ b2 ∧ b2 < T ∧ W.cell? ⟨b2, o2 + k, none⟩ = some (.int .i64 x) ∧ W.frozen? ⟨b2, o2 + k, none⟩ = false := by
  have hj' : j < ms.length := by rw [h.1]; exact hj
  have hm : ms[j]? = some ms[j] := List.getElem?_eq_getElem hj'
  obtain ⟨b, o, A2, c2, h1⟩ := h.2 j _ hm
  exact ⟨_, b, o, A2, c2, hm, h1⟩
/-- One int of a row is written. -/
theorem RwF.set {W : World} {B T n b o b2 o2 k : Nat} {ms : List Nat} (h : RwF W B T (some ⟨b, o, none⟩) n ms) (hne : b2 ≠ b) (x : Int) : RwF (W.setCell ⟨b2, o2 + k, none⟩ (.int .i64 x)) B T (some ⟨b, o, none⟩) n ms :=
  ⟨h.1, fun j m hm => by
    obtain ⟨b', o', A3, c3, e, hc, hr⟩ := h.2 j m hm
    cases e
    refine ⟨b, o, A3, c3, rfl, ?_, fun k' hk' => ?_⟩
    · rw [World.cell?_setCell_other _ _ _ _ (by intro h; simp only [Addr.mk.injEq] at h; omega)]; exact hc
    · obtain ⟨b3, o3, y, e3, h1, h2, h5, h3, h4⟩ := hr k' hk'
      by_cases ea : (⟨b3, o3 + k', none⟩ : Addr) = ⟨b2, o2 + k, none⟩
      · refine ⟨b3, o3, x, e3, h1, h2, h5, ?_, by rw [World.frozen?_setCell]; exact h4⟩
        rw [ea] at h3 ⊢
        exact World.cell?_setCell_same _ _ _ h3
      · refine ⟨b3, o3, y, e3, h1, h2, h5, ?_, by rw [World.frozen?_setCell]; exact h4⟩
        rw [World.cell?_setCell_other _ _ _ _ (fun e => ea e.symm)]
        exact h3⟩
end Go.Proofs.YtgkeolddpielpaaGreatDoor

/- over.twin: rows copied. -/
namespace Go.Proofs.YtgkeolddpielpaaGreatDoor
open Go.RowKit

attribute [local go_sem ↓] Go.wp_at_zero Go.wp_at_succ



set_option maxHeartbeats 4000000 in
set_option maxRecDepth 20000 in
theorem twin_w (Q : Option Addr) (L cq : Nat) (ls : List (List Int)) (w : World) (h : RdT w Q L ls) (hL : L ≤ 1000000) (hc : ∀ l ∈ ls, l.length ≤ 1000000) :
    Calls Tryz.prog 36 #[.agg #[.slice Q L cq]] w fun r w' => ∃ Q' cq' xs, r = .returned (.agg #[.slice Q' L cq']) ∧ RwW w' w.heap.size Q' L cq' xs ls ∧ Below w.heap.size w w' := by
  have HT := Lib.hid h
  have HC := Lib.hid hc
  clear h hc
  go_enter Tryz.func36, Tryz.ntmps36
  go_wp2_with fail
  (refine wp_named ?_; intro w1 hw1)
  have hb1 : Below w.heap.size w w1 := by rw [hw1]; exact (by repeat (first | exact Below.refl _ _ | assumption | apply Below.drew | apply below_drewN | apply Bel.alloc | (refine Bel.setCell_ ?_ ?_; rotate_left; omega) | (refine Bel.step ?_ (by assumption))))
  have hJ : Blk w1 w.heap.size 35 #[.slice Q L cq] := by rw [hw1]; exact (by repeat (first | assumption | (refine Blk.new' _ _ _ ?_; first | with_unfolding_all rfl | (simp; done)) | apply Blk.drewN | apply Blk.drew | apply Blk.alloc | (refine Blk.far_ ?_ ?_ _; rotate_left; omega)))
  have hR : Blk w1 (w.heap.size + 1) 35 #[.slice none 0 0] := by rw [hw1]; exact (by repeat (first | assumption | (refine Blk.new' _ _ _ ?_; first | with_unfolding_all rfl | (simp; done)) | apply Blk.drewN | apply Blk.drew | apply Blk.alloc | (refine Blk.far_ ?_ ?_ _; rotate_left; omega)))
  have hK0 : Blk w1 (w.heap.size + 2) 35 #[.slice none 0 0] := by rw [hw1]; exact (by repeat (first | assumption | (refine Blk.new' _ _ _ ?_; first | with_unfolding_all rfl | (simp; done)) | apply Blk.drewN | apply Blk.drew | apply Blk.alloc | (refine Blk.far_ ?_ ?_ _; rotate_left; omega)))
  clear hw1
  go_loopw [9] (fun i W => Below w.heap.size w W ∧ Blk W w.heap.size 35 #[.slice Q L cq] ∧ Blk W (w.heap.size + 1) 35 #[.slice none 0 0] ∧ ∃ (j : Nat) (A3 : Option Addr) (c3 : Nat) (xs : List Value), j ≤ L ∧ i = .int .i64 j ∧ Blk W (w.heap.size + 2) 35 #[.slice A3 j c3] ∧ RwW W (w.heap.size + 3) A3 j c3 xs (ls.take j)) (fun i _ => L - (intOf i).toNat)
  case atStart => exact ⟨hb1, hJ, hR, 0, none, 0, [], Nat.zero_le _, rfl, hK0, by simpa using RwW.nil _ _⟩
  case round =>
    clear hb1 hJ hR hK0
    obtain ⟨hbl, hJ, hR, j, A3, c3, xs, hj, rfl, hK0, hown⟩ := hrel
    have j0 := hJ.cell 0
    simp only [List.getElem?_toArray, List.getElem?_cons_zero] at j0
    by_cases hlt : j < L
    · obtain ⟨sb, so, Ar, m, cr, l, rfl, hl, hcl, hr, hq1, hq2⟩ := HT.out.at_ hlt
      have HN := Lib.hid (show ls.take (j + 1) = ls.take j ++ [l] by
        rw [List.take_succ_eq_append_getElem (List.getElem?_eq_some_iff.1 hl).1, (List.getElem?_eq_some_iff.1 hl).2])
      have hm : m ≤ 1000000 := by have := HC.out l (List.mem_of_getElem? hl); rw [hr.1] at this; exact this
      have dcl := Below.cellOf hbl (Nat.le_refl _) hcl
      have HRR := Lib.hid (hr.below hbl)
      have i3 : (0 : Int) ≤ (j : Int) := by omega
      have i4 : (j : Int) < (L : Int) := by omega
      have hsz : w.heap.size + 3 ≤ wr.heap.size := by have := hK0.lt; omega
      clear hr hl hcl hq1 hq2
      have HTC := Lib.hid (show ∀ V, Below wr.heap.size wr V → Calls Tryz.prog 51 #[.slice Ar m cr] V (fun e w' => ∃ A2 c2, e = .returned (.slice A2 m c2) ∧ Own w' V.heap.size 3 1 A2 m c2 (icells l) ∧ Below V.heap.size V w') from
        fun V hV => fresh_any Ar m cr l V (HRR.out.below hV) hm)
      go_wp2_with fail
      refine wp_region_held_drew (S := fun V => Below (w.heap.size + 2) wr V) (by kernel_rfl) (Below.refl _ _).drew (fun _ => ?_)
      refine take_ (i := 0) (d := some 13) (v := ?_) rfl rfl (by kernel_rfl) (by kernel_rfl) (by kernel_rfl) (fun _ _ _ h => h) (by rfl) ?_ (by first | rfl | trivial | assumption) ?_
      rotate_left
      · (intro V hSw; (try (have hF := HSX.out V hSw)); (try (cases hSw)); (try go_split_ands); go_simp; try with_reducible rfl)
      simp only [Act.put, List.setIfInBounds_toArray, List.set_cons_zero, List.set_cons_succ]
      refine take_ (i := 2) (d := some 15) (v := ?_) rfl rfl (by kernel_rfl) (by kernel_rfl) (by kernel_rfl) (fun _ _ _ h => h) (by rfl) ?_ (by first | rfl | trivial | assumption) ?_
      rotate_left
      · (intro V hSw; (try (have hF := HSX.out V hSw)); (try (cases hSw)); (try go_split_ands); go_simp; try with_reducible rfl)
      simp only [Act.put, List.setIfInBounds_toArray, List.set_cons_zero, List.set_cons_succ]
      refine wpAnyH_ready (rs := [1, 3]) (by kernel_rfl) (by simp) ?_
      refine AllReadyH.cons (o := _) rfl (fun K hK => ?_) (AllReadyH.cons (o := _) rfl (fun K hK => ?_) AllReadyH.nil)
      · have k3a := hK0.cell 0
        simp only [List.getElem?_toArray, List.getElem?_cons_zero] at k3a
        go_simp
        refine hK.out _ _ (Below.refl _ _).drew (fun _ => ?_)
        clear hK K k3a
        refine wpAnyH_ready (rs := [3]) (by kernel_rfl) (by simp) ?_
        refine AllReadyH.cons (o := _) rfl (fun K hK => ?_) AllReadyH.nil
        go_simp
        with_reducible refine (HTC.out _ (by repeat (first | exact Below.refl _ _ | assumption | apply Below.drew | apply below_drewN | apply Bel.alloc | (refine Bel.setCell_ ?_ ?_; rotate_left; omega) | (refine Bel.step ?_ (by assumption))))).mono ?_
        rintro r w4 ⟨A2, c2, rfl, hrc, hb4⟩
        have hrc : Own w4 wr.heap.size 3 1 A2 m c2 (icells l) := hrc
        have hbr4 : Below wr.heap.size wr w4 := Bel.step (by repeat (first | exact Below.refl _ _ | assumption | apply Below.drew | apply below_drewN | apply Bel.alloc | (refine Bel.setCell_ ?_ ?_; rotate_left; omega) | (refine Bel.step ?_ (by assumption)))) hb4
        clear hb4
        go_wp2_with fail
        refine hK.out _ _ (hbr4.mono (by omega)) (fun _ => ?_)
        clear hK K
        refine wpAnyH_ready (rs := [4]) (by kernel_rfl) (by simp) ?_
        refine AllReadyH.cons (o := _) rfl (fun K hK => ?_) AllReadyH.nil
        go_simp
        refine hK.out _ _ (Below.alloc (hbr4.mono (by omega)) (by have := hbr4.size; omega) _) (fun _ => ?_)
        clear hK K
        obtain ⟨W, hW⟩ : ∃ W, W = w4.alloc (.cells #[.slice A2 m c2] 47) := ⟨_, rfl⟩
        rw [← hW]
        have hb4W : Below w4.heap.size w4 W := by rw [hW]; exact (by repeat (first | exact Below.refl _ _ | assumption | apply Below.drew | apply below_drewN | apply Bel.alloc | (refine Bel.setCell_ ?_ ?_; rotate_left; omega) | (refine Bel.step ?_ (by assumption))))
        have hrdW : Rds W 1 (some ⟨w4.heap.size, 0, none⟩) 1 [.slice A2 m c2] := by rw [hW]; exact (Blk.new w4 47 #[.slice A2 m c2]).rds rfl
        clear hW
        have hbrW : Below wr.heap.size wr W := Bel.step hbr4 hb4W
        have hcW := hrc.rds.rdI.below hb4W
        have hwmW := (hrc.below hb4W).warm
        have hloW : ∀ g, blkOf A2 = some g → wr.heap.size ≤ g ∧ g < W.heap.size := fun g hg => ⟨(hrc.lt g hg).1, Nat.lt_of_lt_of_le (hrc.lt g hg).2 hb4W.size⟩
        have hcapW := hrc.cap
        have hcapM := hrc.capMax
        have hbrW : Below wr.heap.size wr W := hbrW
        have hyW := hown.below hbrW
        have hbW : Below (w.heap.size + 2) wr W := hbrW.mono (by omega)
        have hblW : Below w.heap.size w W := Bel.step hbl hbrW
        have hJW := hJ.below hbrW hJ.lt
        have hRW := hR.below hbrW hR.lt
        have hKW := hK0.below hbrW hK0.lt
        have hclW : ∀ g, blkOf A2 = some g → w.heap.size + 3 ≤ g ∧ g < W.heap.size ∧ blkOf A3 ≠ some g := fun g hg => by
          have h1 := hloW g hg
          refine ⟨by omega, h1.2, fun e => ?_⟩
          have h2 := (hown.1.1.lt g e).2
          omega
        have hWsz : w.heap.size + 3 ≤ W.heap.size := by have := hbrW.size; omega
        have HYY := Lib.hid hyW
        have hownY := hyW.1.1
        clear hyW
        refine wpAnyH_ready (rs := [5]) (by kernel_rfl) (by simp) ?_
        refine AllReadyH.cons (o := _) rfl (fun K hK => ?_) AllReadyH.nil
        with_reducible refine step_app' (some 18) rfl rfl (.tmp 14) (.tmp 17) 27 rfl 47 _ 1 24 infoRw Tryz.underlying27 rfl (by omega) rfl rfl hownY hrdW (slice_one _ _ _) (by omega) (by omega) hWsz ?_
        intro A' c' w' hown' hg hat
        have hb5 : Below (w.heap.size + 2) wr w' := Bel.grownOwn hbW hg (hownY.mono (by omega)) (by omega)
        have hb6 : Below w.heap.size w w' := Bel.grownOwn hblW hg (hownY.mono (by omega)) (by omega)
        have hJ' := hJW.grown hg (hownY.ne (by omega))
        have hR' := hRW.grown hg (hownY.ne (by omega))
        have hK' := hKW.grown hg (hownY.ne (by omega))
        have HYN := Lib.hid (HYY.out.push hown' hg hat hcW hclW hcapW hcapM hwmW)
        clear hownY hrdW hbW hblW hJW hRW hKW hg hclW hcW hown' hat HYY hbrW hcapW hcapM
        refine hK.out _ _ hb5 (fun _ => ?_)
        clear hK K
        simp only [Act.put, List.setIfInBounds_toArray, List.set_cons_zero, List.set_cons_succ]
        refine take_ (i := 6) (d := some 19) (v := ?_) rfl rfl (by kernel_rfl) (by kernel_rfl) (by kernel_rfl) (fun _ _ _ h => h) (by rfl) ?_ (by first | rfl | trivial | assumption) ?_
        rotate_left
        · (intro V hSw; (try (have hF := HSX.out V hSw)); (try (cases hSw)); (try go_split_ands); go_simp; try with_reducible rfl)
        simp only [Act.put, List.setIfInBounds_toArray, List.set_cons_zero, List.set_cons_succ]
        have k3' := hK'.cell 0
        simp only [List.getElem?_toArray, List.getElem?_cons_zero] at k3'
        have kf' := hK'.frozen 0
        refine wpAnyH_ready (rs := [7]) (by kernel_rfl) (by simp) ?_
        refine AllReadyH.cons (o := _) rfl (fun K hK => ?_) AllReadyH.nil
        go_simp
        refine hK.out _ _ (hb5.setCell (by simp only; omega) _) (fun _ => ?_)
        clear hK K
        refine wpAnyH_done (by kernel_rfl) ?_ _
        have HK2 := Lib.hid (hK'.set_ 0 (.slice A' (j + 1) c'))
        have HY2 := Lib.hid (HYN.out.far (grownBy_set w' (w.heap.size + 2) 0 (.slice A' (j + 1) c')) (by omega))
        have HB2 := Lib.hid (show Below w.heap.size w (w'.setCell ⟨w.heap.size + 2, 0, none⟩ (.slice A' (j + 1) c')) from hb6.setCell (by simp only; omega) _)
        have HJ2 := Lib.hid (hJ'.far_ (b := w.heap.size + 2) (o := 0) (by omega) (.slice A' (j + 1) c'))
        have HR2 := Lib.hid (hR'.far_ (b := w.heap.size + 2) (o := 0) (by omega) (.slice A' (j + 1) c'))
        clear hK' k3' kf' hJ' hR'
        go_wp2_with fail
        go_roundw
        case rel => exact ⟨HB2.out, HJ2.out, HR2.out, j + 1, A', c', _, by omega, by go_num, HK2.out, by rw [HN.out]; exact HY2.out⟩
        case measure => simp [intOf]; omega
      · go_simp
        with_reducible refine (HTC.out _ (by repeat (first | exact Below.refl _ _ | assumption | apply Below.drew | apply below_drewN | apply Bel.alloc | (refine Bel.setCell_ ?_ ?_; rotate_left; omega) | (refine Bel.step ?_ (by assumption))))).mono ?_
        rintro r w4 ⟨A2, c2, rfl, hrc, hb4⟩
        have hrc : Own w4 wr.heap.size 3 1 A2 m c2 (icells l) := hrc
        have hbr4 : Below wr.heap.size wr w4 := Bel.step (by repeat (first | exact Below.refl _ _ | assumption | apply Below.drew | apply below_drewN | apply Bel.alloc | (refine Bel.setCell_ ?_ ?_; rotate_left; omega) | (refine Bel.step ?_ (by assumption)))) hb4
        clear hb4
        go_wp2_with fail
        refine hK.out _ _ (hbr4.mono (by omega)) (fun _ => ?_)
        clear hK K
        refine wpAnyH_ready (rs := [1, 4]) (by kernel_rfl) (by simp) ?_
        refine AllReadyH.cons (o := _) rfl (fun K hK => ?_) (AllReadyH.cons (o := _) rfl (fun K hK => ?_) AllReadyH.nil)
        · have k3a := (hK0.below hbr4 hK0.lt).cell 0
          simp only [List.getElem?_toArray, List.getElem?_cons_zero] at k3a
          go_simp
          refine hK.out _ _ (hbr4.mono (by omega)) (fun _ => ?_)
          clear hK K k3a
          refine wpAnyH_ready (rs := [4]) (by kernel_rfl) (by simp) ?_
          refine AllReadyH.cons (o := _) rfl (fun K hK => ?_) AllReadyH.nil
          go_simp
          refine hK.out _ _ (Below.alloc (hbr4.mono (by omega)) (by have := hbr4.size; omega) _) (fun _ => ?_)
          clear hK K
          obtain ⟨W, hW⟩ : ∃ W, W = w4.alloc (.cells #[.slice A2 m c2] 47) := ⟨_, rfl⟩
          rw [← hW]
          have hb4W : Below w4.heap.size w4 W := by rw [hW]; exact (by repeat (first | exact Below.refl _ _ | assumption | apply Below.drew | apply below_drewN | apply Bel.alloc | (refine Bel.setCell_ ?_ ?_; rotate_left; omega) | (refine Bel.step ?_ (by assumption))))
          have hrdW : Rds W 1 (some ⟨w4.heap.size, 0, none⟩) 1 [.slice A2 m c2] := by rw [hW]; exact (Blk.new w4 47 #[.slice A2 m c2]).rds rfl
          clear hW
          have hbrW : Below wr.heap.size wr W := Bel.step hbr4 hb4W
          have hcW := hrc.rds.rdI.below hb4W
          have hwmW := (hrc.below hb4W).warm
          have hloW : ∀ g, blkOf A2 = some g → wr.heap.size ≤ g ∧ g < W.heap.size := fun g hg => ⟨(hrc.lt g hg).1, Nat.lt_of_lt_of_le (hrc.lt g hg).2 hb4W.size⟩
          have hcapW := hrc.cap
          have hcapM := hrc.capMax
          have hbrW : Below wr.heap.size wr W := hbrW
          have hyW := hown.below hbrW
          have hbW : Below (w.heap.size + 2) wr W := hbrW.mono (by omega)
          have hblW : Below w.heap.size w W := Bel.step hbl hbrW
          have hJW := hJ.below hbrW hJ.lt
          have hRW := hR.below hbrW hR.lt
          have hKW := hK0.below hbrW hK0.lt
          have hclW : ∀ g, blkOf A2 = some g → w.heap.size + 3 ≤ g ∧ g < W.heap.size ∧ blkOf A3 ≠ some g := fun g hg => by
            have h1 := hloW g hg
            refine ⟨by omega, h1.2, fun e => ?_⟩
            have h2 := (hown.1.1.lt g e).2
            omega
          have hWsz : w.heap.size + 3 ≤ W.heap.size := by have := hbrW.size; omega
          have HYY := Lib.hid hyW
          have hownY := hyW.1.1
          clear hyW
          refine wpAnyH_ready (rs := [5]) (by kernel_rfl) (by simp) ?_
          refine AllReadyH.cons (o := _) rfl (fun K hK => ?_) AllReadyH.nil
          with_reducible refine step_app' (some 18) rfl rfl (.tmp 14) (.tmp 17) 27 rfl 47 _ 1 24 infoRw Tryz.underlying27 rfl (by omega) rfl rfl hownY hrdW (slice_one _ _ _) (by omega) (by omega) hWsz ?_
          intro A' c' w' hown' hg hat
          have hb5 : Below (w.heap.size + 2) wr w' := Bel.grownOwn hbW hg (hownY.mono (by omega)) (by omega)
          have hb6 : Below w.heap.size w w' := Bel.grownOwn hblW hg (hownY.mono (by omega)) (by omega)
          have hJ' := hJW.grown hg (hownY.ne (by omega))
          have hR' := hRW.grown hg (hownY.ne (by omega))
          have hK' := hKW.grown hg (hownY.ne (by omega))
          have HYN := Lib.hid (HYY.out.push hown' hg hat hcW hclW hcapW hcapM hwmW)
          clear hownY hrdW hbW hblW hJW hRW hKW hg hclW hcW hown' hat HYY hbrW hcapW hcapM
          refine hK.out _ _ hb5 (fun _ => ?_)
          clear hK K
          simp only [Act.put, List.setIfInBounds_toArray, List.set_cons_zero, List.set_cons_succ]
          refine take_ (i := 6) (d := some 19) (v := ?_) rfl rfl (by kernel_rfl) (by kernel_rfl) (by kernel_rfl) (fun _ _ _ h => h) (by rfl) ?_ (by first | rfl | trivial | assumption) ?_
          rotate_left
          · (intro V hSw; (try (have hF := HSX.out V hSw)); (try (cases hSw)); (try go_split_ands); go_simp; try with_reducible rfl)
          simp only [Act.put, List.setIfInBounds_toArray, List.set_cons_zero, List.set_cons_succ]
          have k3' := hK'.cell 0
          simp only [List.getElem?_toArray, List.getElem?_cons_zero] at k3'
          have kf' := hK'.frozen 0
          refine wpAnyH_ready (rs := [7]) (by kernel_rfl) (by simp) ?_
          refine AllReadyH.cons (o := _) rfl (fun K hK => ?_) AllReadyH.nil
          go_simp
          refine hK.out _ _ (hb5.setCell (by simp only; omega) _) (fun _ => ?_)
          clear hK K
          refine wpAnyH_done (by kernel_rfl) ?_ _
          have HK2 := Lib.hid (hK'.set_ 0 (.slice A' (j + 1) c'))
          have HY2 := Lib.hid (HYN.out.far (grownBy_set w' (w.heap.size + 2) 0 (.slice A' (j + 1) c')) (by omega))
          have HB2 := Lib.hid (show Below w.heap.size w (w'.setCell ⟨w.heap.size + 2, 0, none⟩ (.slice A' (j + 1) c')) from hb6.setCell (by simp only; omega) _)
          have HJ2 := Lib.hid (hJ'.far_ (b := w.heap.size + 2) (o := 0) (by omega) (.slice A' (j + 1) c'))
          have HR2 := Lib.hid (hR'.far_ (b := w.heap.size + 2) (o := 0) (by omega) (.slice A' (j + 1) c'))
          clear hK' k3' kf' hJ' hR'
          go_wp2_with fail
          go_roundw
          case rel => exact ⟨HB2.out, HJ2.out, HR2.out, j + 1, A', c', _, by omega, by go_num, HK2.out, by rw [HN.out]; exact HY2.out⟩
          case measure => simp [intOf]; omega
        · go_simp
          refine hK.out _ _ (Below.alloc (hbr4.mono (by omega)) (by have := hbr4.size; omega) _) (fun _ => ?_)
          clear hK K
          have k3a : ∀ o, (w4.alloc o).cell? ⟨w.heap.size + 2, 0, none⟩ = some (.slice A3 j c3) := fun o => ((hK0.below hbr4 hK0.lt).alloc o).cell 0
          refine wpAnyH_ready (rs := [1]) (by kernel_rfl) (by simp) ?_
          refine AllReadyH.cons (o := _) rfl (fun K hK => ?_) AllReadyH.nil
          go_simp
          refine hK.out _ _ (Below.alloc (hbr4.mono (by omega)) (by have := hbr4.size; omega) _) (fun _ => ?_)
          clear hK K k3a
          obtain ⟨W, hW⟩ : ∃ W, W = w4.alloc (.cells #[.slice A2 m c2] 47) := ⟨_, rfl⟩
          rw [← hW]
          have hb4W : Below w4.heap.size w4 W := by rw [hW]; exact (by repeat (first | exact Below.refl _ _ | assumption | apply Below.drew | apply below_drewN | apply Bel.alloc | (refine Bel.setCell_ ?_ ?_; rotate_left; omega) | (refine Bel.step ?_ (by assumption))))
          have hrdW : Rds W 1 (some ⟨w4.heap.size, 0, none⟩) 1 [.slice A2 m c2] := by rw [hW]; exact (Blk.new w4 47 #[.slice A2 m c2]).rds rfl
          clear hW
          have hbrW : Below wr.heap.size wr W := Bel.step hbr4 hb4W
          have hcW := hrc.rds.rdI.below hb4W
          have hwmW := (hrc.below hb4W).warm
          have hloW : ∀ g, blkOf A2 = some g → wr.heap.size ≤ g ∧ g < W.heap.size := fun g hg => ⟨(hrc.lt g hg).1, Nat.lt_of_lt_of_le (hrc.lt g hg).2 hb4W.size⟩
          have hcapW := hrc.cap
          have hcapM := hrc.capMax
          have hbrW : Below wr.heap.size wr W := hbrW
          have hyW := hown.below hbrW
          have hbW : Below (w.heap.size + 2) wr W := hbrW.mono (by omega)
          have hblW : Below w.heap.size w W := Bel.step hbl hbrW
          have hJW := hJ.below hbrW hJ.lt
          have hRW := hR.below hbrW hR.lt
          have hKW := hK0.below hbrW hK0.lt
          have hclW : ∀ g, blkOf A2 = some g → w.heap.size + 3 ≤ g ∧ g < W.heap.size ∧ blkOf A3 ≠ some g := fun g hg => by
            have h1 := hloW g hg
            refine ⟨by omega, h1.2, fun e => ?_⟩
            have h2 := (hown.1.1.lt g e).2
            omega
          have hWsz : w.heap.size + 3 ≤ W.heap.size := by have := hbrW.size; omega
          have HYY := Lib.hid hyW
          have hownY := hyW.1.1
          clear hyW
          refine wpAnyH_ready (rs := [5]) (by kernel_rfl) (by simp) ?_
          refine AllReadyH.cons (o := _) rfl (fun K hK => ?_) AllReadyH.nil
          with_reducible refine step_app' (some 18) rfl rfl (.tmp 14) (.tmp 17) 27 rfl 47 _ 1 24 infoRw Tryz.underlying27 rfl (by omega) rfl rfl hownY hrdW (slice_one _ _ _) (by omega) (by omega) hWsz ?_
          intro A' c' w' hown' hg hat
          have hb5 : Below (w.heap.size + 2) wr w' := Bel.grownOwn hbW hg (hownY.mono (by omega)) (by omega)
          have hb6 : Below w.heap.size w w' := Bel.grownOwn hblW hg (hownY.mono (by omega)) (by omega)
          have hJ' := hJW.grown hg (hownY.ne (by omega))
          have hR' := hRW.grown hg (hownY.ne (by omega))
          have hK' := hKW.grown hg (hownY.ne (by omega))
          have HYN := Lib.hid (HYY.out.push hown' hg hat hcW hclW hcapW hcapM hwmW)
          clear hownY hrdW hbW hblW hJW hRW hKW hg hclW hcW hown' hat HYY hbrW hcapW hcapM
          refine hK.out _ _ hb5 (fun _ => ?_)
          clear hK K
          simp only [Act.put, List.setIfInBounds_toArray, List.set_cons_zero, List.set_cons_succ]
          refine take_ (i := 6) (d := some 19) (v := ?_) rfl rfl (by kernel_rfl) (by kernel_rfl) (by kernel_rfl) (fun _ _ _ h => h) (by rfl) ?_ (by first | rfl | trivial | assumption) ?_
          rotate_left
          · (intro V hSw; (try (have hF := HSX.out V hSw)); (try (cases hSw)); (try go_split_ands); go_simp; try with_reducible rfl)
          simp only [Act.put, List.setIfInBounds_toArray, List.set_cons_zero, List.set_cons_succ]
          have k3' := hK'.cell 0
          simp only [List.getElem?_toArray, List.getElem?_cons_zero] at k3'
          have kf' := hK'.frozen 0
          refine wpAnyH_ready (rs := [7]) (by kernel_rfl) (by simp) ?_
          refine AllReadyH.cons (o := _) rfl (fun K hK => ?_) AllReadyH.nil
          go_simp
          refine hK.out _ _ (hb5.setCell (by simp only; omega) _) (fun _ => ?_)
          clear hK K
          refine wpAnyH_done (by kernel_rfl) ?_ _
          have HK2 := Lib.hid (hK'.set_ 0 (.slice A' (j + 1) c'))
          have HY2 := Lib.hid (HYN.out.far (grownBy_set w' (w.heap.size + 2) 0 (.slice A' (j + 1) c')) (by omega))
          have HB2 := Lib.hid (show Below w.heap.size w (w'.setCell ⟨w.heap.size + 2, 0, none⟩ (.slice A' (j + 1) c')) from hb6.setCell (by simp only; omega) _)
          have HJ2 := Lib.hid (hJ'.far_ (b := w.heap.size + 2) (o := 0) (by omega) (.slice A' (j + 1) c'))
          have HR2 := Lib.hid (hR'.far_ (b := w.heap.size + 2) (o := 0) (by omega) (.slice A' (j + 1) c'))
          clear hK' k3' kf' hJ' hR'
          go_wp2_with fail
          go_roundw
          case rel => exact ⟨HB2.out, HJ2.out, HR2.out, j + 1, A', c', _, by omega, by go_num, HK2.out, by rw [HN.out]; exact HY2.out⟩
          case measure => simp [intOf]; omega
    · obtain rfl : L = j := by omega
      rw [List.take_of_length_le (by rw [HT.out.1]; exact Nat.le_refl _)] at hown
      have q0 := hK0.cell 0
      have r0 := hR.cell 0
      simp only [List.getElem?_toArray, List.getElem?_cons_zero] at q0 r0
      have f0 := hR.frozen 0
      have hown2 := hown.far (grownBy_set wr (w.heap.size + 1) 0 (.slice A3 L c3)) (by omega)
      have HM := Lib.hid (hown2.mono (show w.heap.size ≤ w.heap.size + 3 by omega))
      clear hown hown2 hR
      go_wp2_with fail
      refine bodyPost_ret (v := .agg #[.slice A3 L c3]) (by simp [results, Tryz.results36, go_sem, r0]) rfl ?_
      exact ⟨A3, c3, _, rfl, HM.out, (by repeat (first | exact Below.refl _ _ | assumption | apply Below.drew | apply below_drewN | apply Bel.alloc | (refine Bel.setCell_ ?_ ?_; rotate_left; omega) | (refine Bel.step ?_ (by assumption))))⟩
end Go.Proofs.YtgkeolddpielpaaGreatDoor

/- SameInts, law16.Is. -/
namespace Go.Proofs.YtgkeolddpielpaaGreatDoor
open Go.RowKit

attribute [local go_sem ↓] Go.wp_at_zero Go.wp_at_succ

set_option maxHeartbeats 1000000 in
theorem sameInts_any (A B : Option Addr) (n m c d : Nat) (l l2 : List Int) (w : World) (h : RdI w A n l) (h2 : RdI w B m l2) (hn : n ≤ 1000000000) (hm : m ≤ 1000000000) :
    Calls Tryz.prog 29 #[.slice A n c, .slice B m d] w fun e w' => e = .returned (.bool (decide (l = l2))) ∧ ∃ k, w' = w.drewN k := by
  have HR := Lib.hid h
  have HR2 := Lib.hid h2
  have HL := Lib.hid h.1
  have HL2 := Lib.hid h2.1
  clear h h2
  by_cases hnm : n = m
  rotate_left
  · have e1 : ((n : Int) != (m : Int)) = true := by simp; omega
    have e2 : ((n : Int) == (m : Int)) = false := by simp; omega
    have HD := Lib.hid (show decide (l = l2) = false from decide_eq_false (fun e => hnm (by rw [← HL.out, ← HL2.out, e])))
    go_enter Tryz.func29, Tryz.ntmps29
    go_wp2_with fail
    go_ret
    exact ⟨ret_bool HD.out.symm, 0, rfl⟩
  subst hnm
  go_enter Tryz.func29, Tryz.ntmps29
  go_wp2_with fail
  go_loopw [5] (fun q W => (∃ k, W = w.drewN k) ∧ ∃ i : Nat, i ≤ n ∧ q = .int .i64 i ∧ ∀ j, j < i → l[j]? = l2[j]?) (fun q _ => n - (intOf q).toNat)
  case atStart => exact ⟨⟨0, rfl⟩, 0, Nat.zero_le _, rfl, fun _ h => absurd h (Nat.not_lt_zero _)⟩
  case round =>
    obtain ⟨hd, i, hi, rfl, hall⟩ := hrel
    have HD := Lib.hid hd
    have HA := Lib.hid hall
    clear hall
    by_cases hlt : i < n
    · obtain ⟨b, o, x, rfl, hx, hc⟩ := HR.out.at_ hlt
      obtain ⟨b', o', y, rfl, hy, hc'⟩ := HR2.out.at_ hlt
      have hc1 : wr.cell? ⟨b, o + i, none⟩ = some (.int .i64 x) := by obtain ⟨k, rfl⟩ := hd; exact hc
      have hc2 : wr.cell? ⟨b', o' + i, none⟩ = some (.int .i64 y) := by obtain ⟨k, rfl⟩ := hd; exact hc'
      have HX := Lib.hid hx
      have HY := Lib.hid hy
      have i1 : (0 : Int) ≤ (i : Int) := by omega
      have i2 : (i : Int) < (n : Int) := by omega
      clear hx hy hc hc' hd
      by_cases e : x = y
      · subst e
        go_wp2_with fail
        go_quiet (fail)
        go_wp2_with fail
        go_roundw
        case rel =>
          obtain ⟨k, e⟩ := HD.out
          refine ⟨⟨k + nq, by rw [e, World.drewN_drewN]⟩, i + 1, by omega, by go_num, fun j hj => ?_⟩
          by_cases ej : j = i
          · subst ej
            rw [HX.out, HY.out]
          · exact HA.out j (by omega)
        case measure => simp [intOf]; omega
      · have e1 : (x != y) = true := by simpa using e
        have e2 : (x == y) = false := by simpa using e
        have HN := Lib.hid (show decide (l = l2) = false from decide_eq_false (fun ee => by
          have := HX.out
          rw [ee, HY.out] at this
          exact e (Option.some.inj this).symm))
        have HE := Lib.hid e
        clear e
        go_wp2_with fail
        go_quiet (fail)
        go_wp2_with fail
        go_ret
        obtain ⟨k, e⟩ := HD.out
        exact ⟨ret_bool HN.out.symm, k + nq, by rw [e, World.drewN_drewN]⟩
    · obtain rfl : n = i := by omega
      have HE := Lib.hid (show decide (l = l2) = true from decide_eq_true (List.ext_getElem? (fun j => by
        rcases Nat.lt_or_ge j n with h | h
        · exact HA.out j h
        · rw [List.getElem?_eq_none (by rw [HL.out]; exact h), List.getElem?_eq_none (by rw [HL2.out]; exact h)])))
      clear hd
      go_wp2_with fail
      go_ret
      exact ⟨ret_bool HE.out.symm, HD.out⟩
end Go.Proofs.YtgkeolddpielpaaGreatDoor
