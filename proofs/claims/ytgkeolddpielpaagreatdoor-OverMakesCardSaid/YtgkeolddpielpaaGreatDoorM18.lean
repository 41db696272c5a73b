/- Parts of the proof: Ch5, Ch6, MkD. -/
import Derived.Test.YtgkeolddpielpaaGreatDoorM17
/- The document's Set, Bend. -/
namespace Go.Proofs.YtgkeolddpielpaaGreatDoor
open Go.RowKit

attribute [local go_sem ↓] Go.wp_at_zero Go.wp_at_succ

theorem bodyPost_namd {P : Program} {f : Func} {Q : Ending → World → Prop} {x : Exit} {a : Act} {w : World} (h : ∀ W, W = w → bodyPost P f Q x a W) : bodyPost P f Q x a w := h w rfl
theorem tcells_setW {x y z : Int} (u : Int) : ∀ {l : List Tri} {a : Nat}, l[a]? = some (x, y, z) → (tcells l).set (a * 3 + 2) (.int .i64 u) = tcells (l.set a (x, y, u))
  | [], a, h => by simp at h
  | p :: t, 0, h => by simp at h; subst h; simp [tcells]
  | p :: t, a + 1, h => by
    have := tcells_setW u (l := t) (a := a) (by simpa using h)
    rw [show (a + 1) * 3 + 2 = (a * 3 + 2) + 1 + 1 + 1 by omega]
    simp [tcells, this]
theorem RdY2.mskd {W : World} {G : Nat → Prop} {A : Option Addr} {n : Nat} {l : List TabD} (h : RdY2 W (msk W G) A n l) (hg : ∀ b, blkOf A = some b → G b) : RdY (msk W G) A n l :=
  ⟨h.1, fun i t ht => by
    obtain ⟨b, o, e, h1, h2, A', n', c', h3, h4, h5⟩ := h.2 i t ht
    have hb := hg b (by rw [e]; rfl)
    exact ⟨b, o, e, msk_cell.2 ⟨hb, h1⟩, msk_cell.2 ⟨hb, h2⟩, A', n', c', msk_cell.2 ⟨hb, h3⟩, h4, h5⟩⟩
theorem YwR.rdY2 {W : World} {B n c : Nat} {A : Option Addr} {xs : List Value} {ls : List TabD} (h : YwR W B A n c xs ls) {G : Nat → Prop} (hG : ∀ b, B ≤ b → blkOf A ≠ some b → G b) : RdY2 W (msk W G) A n ls :=
  ⟨h.2.1, fun i t ht => by
    obtain ⟨A2, n2, c2, h1, h2, h3, h4, h7, h5, h6⟩ := h.2.2 i t ht
    obtain ⟨b, o, e, k1⟩ := h.1.rds.2 _ _ h1
    obtain ⟨b', o', e', k2⟩ := h.1.rds.2 _ _ h2
    rw [e] at e'; cases e'
    obtain ⟨b', o', e', k3⟩ := h.1.rds.2 _ _ h3
    rw [e] at e'; cases e'
    exact ⟨b, o, e, k1, by rw [Nat.add_assoc]; exact k2, A2, n2, c2, by rw [Nat.add_assoc]; exact k3, h4.msk (fun g hg => hG g (h7 g hg).1 (h7 g hg).2.2), h5, h6⟩⟩

theorem Le.alloc (W : World) (o : Obj) : Le W (W.alloc o) := Le.below ((Below.refl _ _).alloc (Nat.le_refl _) o)
theorem msk_mono_le {W W' : World} {G G' : Nat → Prop} (h : ∀ b, G b → G' b) (hl : Le W W') : Le (msk W G) (msk W' G') := fun a v hc => by
  obtain ⟨h1, h2⟩ := msk_cell.1 hc
  exact msk_cell.2 ⟨h _ h1, hl _ _ h2⟩
/-- A copy, of which a weight is set, and then the results' cells. -/
theorem setW_copy {w3 : World} {z B gb n m k c' d' e' K a : Nat} {A' C' : Option Addr} {xs : List Value} {N : NetD} {x y r : Int} {x1 x2 x3 x4 x5 : Value} (hz : z + 3 ≤ B) (hK : B ≤ K)
    (hV : Own w3 B 119 3 A' n c' (tcells N.vs)) (hA : Own w3 B 121 3 (some ⟨gb, 0, none⟩) m d' (tcells N.ar)) (hY : YwR w3 K C' k e' xs N.ts)
    (hd : ∀ g, blkOf A' = some g → blkOf (some ⟨gb, 0, none⟩) ≠ some g) (hAK : ∀ g, blkOf (some ⟨gb, 0, none⟩) = some g → g < K) (ha : N.ar[a]? = some (x, y, r)) (u : Int) :
    RdNet (msk ((((((w3.setCell ⟨gb, a * 3 + 2, none⟩ (.int .i64 u)).setCell ⟨z + 1, 0, none⟩ x1).setCell ⟨z + 1, 1, none⟩ x2).setCell ⟨z + 1, 2, none⟩ x3).setCell ⟨z + 1 + 1, 0, none⟩ x4).setCell ⟨z + 1 + 1, 1, none⟩ x5) (fun b => z ≤ b)) A' (some ⟨gb, 0, none⟩) C' n m k (N.setW a x y u) := by
  have hgB : B ≤ gb := (hA.lt gb rfl).1
  have hgK : gb < K := hAK gb rfl
  have hV1 : Own (w3.setCell ⟨gb, a * 3 + 2, none⟩ (.int .i64 u)) B 119 3 A' n c' (tcells N.vs) := hV.far (grownBy_set _ _ _ _) (.inr (fun e => hd gb e rfl))
  have hA1 := hA.setAt (k := a * 3 + 2) (.int .i64 u)
  rw [Nat.zero_add, tcells_setW u ha] at hA1
  have hY1 := hY.far (grownBy_set w3 gb (a * 3 + 2) (.int .i64 u)) hgK
  have hY5 := ((((hY1.far (grownBy_set _ (z + 1) 0 x1) (by omega)).far (grownBy_set _ (z + 1) 1 x2) (by omega)).far (grownBy_set _ (z + 1) 2 x3) (by omega)).far (grownBy_set _ (z + 1 + 1) 0 x4) (by omega)).far (grownBy_set _ (z + 1 + 1) 1 x5) (by omega)
  have hV5 := ((((hV1.far (grownBy_set _ (z + 1) 0 x1) (.inr (hV1.ne (by omega)))).far (grownBy_set _ (z + 1) 1 x2) (.inr (hV1.ne (by omega)))).far (grownBy_set _ (z + 1) 2 x3) (.inr (hV1.ne (by omega)))).far (grownBy_set _ (z + 1 + 1) 0 x4) (.inr (hV1.ne (by omega)))).far (grownBy_set _ (z + 1 + 1) 1 x5) (.inr (hV1.ne (by omega)))
  have hA5 := ((((hA1.far (grownBy_set _ (z + 1) 0 x1) (.inr (hA1.ne (by omega)))).far (grownBy_set _ (z + 1) 1 x2) (.inr (hA1.ne (by omega)))).far (grownBy_set _ (z + 1) 2 x3) (.inr (hA1.ne (by omega)))).far (grownBy_set _ (z + 1 + 1) 0 x4) (.inr (hA1.ne (by omega)))).far (grownBy_set _ (z + 1 + 1) 1 x5) (.inr (hA1.ne (by omega)))
  refine ⟨(Rds.rd3 hV5.rds).msk (fun b e => ?_), (Rds.rd3 hA5.rds).msk (fun b e => ?_), (hY5.rdY2 (fun b hb _ => ?_)).mskd (fun b e => ?_)⟩
  · have := (hV5.lt b e).1; omega
  · have := (hA5.lt b e).1; omega
  · omega
  · have := (hY5.1.lt b e).1; omega
set_option maxHeartbeats 1000000 in
theorem refSet_ok (A B C : Option Addr) (n m k c d e a : Nat) (x y z u : Int) (N : NetD) (w : World) (h : RdNet w A B C n m k N) (hn : n ≤ 1000000) (hm : m ≤ 1000000) (hk : k ≤ 1000000) (hc : ∀ t ∈ N.ts, t.costs.length ≤ 1000000) (ha : N.ar[a]? = some (x, y, z)) (hu : wOk u = true) :
    Calls Tryz.prog 46 #[.agg #[.slice A n c, .slice B m d, .slice C k e], .int .i64 a, .int .i64 u] w fun r w' => ∃ A' B' C' c' d' e', r = .returned (.tuple #[.agg #[.slice A' n c', .slice B' m d', .slice C' k e'], .agg #[.slice none 0 0, .int .i64 0]]) ∧ RdNet (msk w' (fun b => w.heap.size ≤ b)) A' B' C' n m k (N.setW a x y u) ∧ Below w.heap.size w w' := by
  have hla := (List.getElem?_eq_some_iff.1 ha).1
  have ham : a < m := by rw [h.2.1.1] at hla; exact hla
  have HT := Lib.hid (fun (V : World) => refThere_ok A B C n m k c d e (a : Int) V (by omega) (by omega))
  have HCN := Lib.hid (fun (V : World) (hV : Below w.heap.size w V) => copyNet_any A B C n m k c d e N V (h.below hV) hn hm hk hc)
  have HW := Lib.hid (show ∀ V, Calls Tryz.prog 78 #[.int .i64 u] V fun e w' => e = .returned (.bool true) ∧ V = w' from fun V => by
    have := refWeight_any u V
    rw [hu] at this
    exact this)
  have HAR := Lib.hid ha
  have i1 : (0 : Int) ≤ (a : Int) := by omega
  have i2 : (a : Int) < (m : Int) := by omega
  clear h hn hm hk hc ha hu hla
  go_enter Tryz.func46, Tryz.ntmps46
  go_wp2_with fail
  (refine calls_named ?_; intro w1 hw1)
  have hb1 : Below w.heap.size w w1 := by rw [hw1]; exact (by repeat (first | exact Below.refl _ _ | assumption | apply Below.drew | apply below_drewN | apply Bel.alloc | (refine Bel.setCell_ ?_ ?_; rotate_left; omega) | (refine Bel.step ?_ (by assumption))))
  have hJ1 : Blk w1 w.heap.size 26 #[.slice A n c, .slice B m d, .slice C k e] := by rw [hw1]; exact (by repeat (first | assumption | (refine Blk.new' _ _ _ ?_; first | with_unfolding_all rfl | (simp; done)) | apply Blk.drewN | apply Blk.drew | apply Blk.alloc | (refine Blk.far_ ?_ ?_ _; rotate_left; omega)))
  have hR1 : Blk w1 (w.heap.size + 1) 26 #[.slice none 0 0, .slice none 0 0, .slice none 0 0] := by rw [hw1]; exact (by repeat (first | assumption | (refine Blk.new' _ _ _ ?_; first | with_unfolding_all rfl | (simp; done)) | apply Blk.drewN | apply Blk.drew | apply Blk.alloc | (refine Blk.far_ ?_ ?_ _; rotate_left; omega)))
  have hX1 : Blk w1 (w.heap.size + 1 + 1) 44 #[.slice none 0 0, .int .i64 0] := by rw [hw1]; exact (by repeat (first | assumption | (refine Blk.new' _ _ _ ?_; first | with_unfolding_all rfl | (simp; done)) | apply Blk.drewN | apply Blk.drew | apply Blk.alloc | (refine Blk.far_ ?_ ?_ _; rotate_left; omega)))
  have hz1 : w.heap.size + 3 ≤ w1.heap.size := by rw [hw1]; simp
  clear hw1
  with_reducible refine (HT.out w1).mono ?_
  rintro r w2 ⟨rfl, hb2⟩
  have hb2' := Bel.step hb1 hb2
  have hJ2 := hJ1.below hb2 hJ1.lt
  have hR2 := hR1.below hb2 hR1.lt
  have hX2 := hX1.below hb2 hX1.lt
  have hz2 := Nat.le_trans hz1 hb2.size
  clear hb1 hb2 hJ1 hR1 hX1 hz1
  go_wp2_with fail
  with_reducible refine (HW.out _).mono ?_
  rintro r w' ⟨rfl, rfl⟩
  obtain ⟨j0, j1, j2⟩ := hJ2.three
  go_wp2_with fail
  with_reducible refine (HCN.out w2 hb2').mono ?_
  rintro r w3 ⟨A', B', C', c', d', e', K, xs, rfl, hK, hV, hA, hY, hdj, hVK, hAK, hb3⟩
  have hb3' := Bel.step hb2' hb3
  have hR3 := hR2.below hb3 hR2.lt
  have hX3 := hX2.below hb3 hX2.lt
  have hz3 := Nat.le_trans hz2 hb3.size
  clear hJ2 hR2 hX2 hb3 j0 j1 j2 HCN HT
  obtain ⟨gb, cur, rfl, hg0, hgb, _, hcz, hcu⟩ := hA.block (by omega)
  obtain ⟨v0, hv0⟩ : ∃ v0, cur[a * 3 + 2]? = some v0 := ⟨_, Array.getElem?_eq_getElem (by omega)⟩
  have ck : w3.cell? ⟨gb, a * 3 + 2, none⟩ = some v0 := by rw [hgb.cell]; exact hv0
  have fk := hgb.frozen (a * 3 + 2)
  have hgl := hgb.lt
  have zR := hR3.lt
  have zX := hX3.lt
  obtain ⟨r0, r1, r2⟩ := hR3.three
  have fr0 := hR3.frozen 0
  have fr1 := hR3.frozen 1
  have fr2 := hR3.frozen 2
  obtain ⟨x0, x1, fx0, fx1⟩ := hX3.two
  have ne1 : ¬ gb = w.heap.size + 1 := by omega
  have ne2 : ¬ gb = w.heap.size + 1 + 1 := by omega
  have ne3 : ¬ w.heap.size + 1 = gb := by omega
  have ne4 : ¬ w.heap.size + 1 + 1 = gb := by omega
  have ne5 : ¬ gb = w3.heap.size := by omega
  have HV := Lib.hid hV
  have HA := Lib.hid hA
  have HY := Lib.hid hY
  have HD := Lib.hid hdj
  have HVK := Lib.hid hVK
  have HAK := Lib.hid hAK
  have HR3 := Lib.hid hR3
  have HX3 := Lib.hid hX3
  clear hV hA hY hdj hVK hAK hgb hcz hcu hv0 hR3 hX3
  go_wp2_with fail
  refine bodyPost_namd ?_
  intro W hW
  have hRW : Blk W (w.heap.size + 1) 26 #[.slice A' n c', .slice (some ⟨gb, 0, none⟩) m d', .slice C' k e'] := by
    rw [hW]; exact ((((((HR3.out.far (by simp only; omega) _).set_ 0 _).set_ 1 _).set_ 2 _).far (by simp) _).far (by simp) _).alloc _
  have hXW : Blk W (w.heap.size + 1 + 1) 44 #[.slice none 0 0, .int .i64 0] := by
    rw [hW]; exact ((((((HX3.out.far (by simp only; omega) _).far (by simp) _).far (by simp) _).far (by simp) _).set_ 0 _).set_ 1 _).alloc _
  have hbW : Below w.heap.size w W := by
    rw [hW]; exact Bel.alloc ((((((hb3'.setCell (by simp only; omega) _).setCell (by simp only; omega) _).setCell (by simp only; omega) _).setCell (by simp only; omega) _).setCell (by simp only; omega) _).setCell (by simp only; omega) _)
  have hNW : RdNet (msk W (fun b => w.heap.size ≤ b)) A' (some ⟨gb, 0, none⟩) C' n m k (N.setW a x y u) := by
    rw [hW]
    exact (setW_copy (x1 := .slice A' n c') (x2 := .slice (some ⟨gb, 0, none⟩) m d') (x3 := .slice C' k e') (x4 := .slice none 0 0) (x5 := .int .i64 0) (by omega) hK HV.out HA.out HY.out HD.out HAK.out HAR.out u).le (msk_mono_le (fun b hb => hb) (Le.alloc _ _))
  clear hW r0 r1 r2 x0 x1
  obtain ⟨r0, r1, r2⟩ := hRW.three
  obtain ⟨x0, x1, _, _⟩ := hXW.two
  refine bodyPost_ret (v := .tuple #[.agg #[.slice A' n c', .slice (some ⟨gb, 0, none⟩) m d', .slice C' k e'], .agg #[.slice none 0 0, .int .i64 0]]) (by simp [results, Tryz.results46, go_sem, r0, r1, r2, x0, x1]) rfl ?_
  exact ⟨A', _, C', c', d', e', rfl, hNW, hbW⟩
end Go.Proofs.YtgkeolddpielpaaGreatDoor

/- The document's Set: what can't be. -/
namespace Go.Proofs.YtgkeolddpielpaaGreatDoor
open Go.RowKit

attribute [local go_sem ↓] Go.wp_at_zero Go.wp_at_succ

theorem RdW.setFar {W : World} {A : Option Addr} {n : Nat} {l : List (ByteArray × Int)} (h : RdW W A n l) (g i : Nat) (v : Value) (hne : ∀ b, blkOf A = some b → b ≠ g ∧ b < W.heap.size) : RdW (W.setCell ⟨g, i, none⟩ v) A n l :=
  h.keepB (fun b e => (Kept.set W g i v (G := fun b => b ≠ g) (fun h => h rfl)) b (hne b e).1 (hne b e).2)
set_option maxHeartbeats 1000000 in
theorem refSet_no1 (A B C : Option Addr) (n m k c d e : Nat) (a u : Int) (w : World) (h : ¬ (0 ≤ a ∧ a < m)) :
    Calls Tryz.prog 46 #[.agg #[.slice A n c, .slice B m d, .slice C k e], .int .i64 a, .int .i64 u] w fun r w' => ∃ A4 n4 m4, r = .returned (.tuple #[.agg #[.slice A n c, .slice B m d, .slice C k e], .agg #[.slice A4 n4 m4, .int .i64 5]]) ∧ RdW w' A4 n4 [((⟨#[103, 114, 97, 112, 104]⟩ : ByteArray), a)] ∧ n4 ≤ 1000000 ∧ Below w.heap.size w w' := by
  have HT := Lib.hid (fun (V : World) => refThere_no A B C n m k c d e a V h)
  clear h
  go_enter Tryz.func46, Tryz.ntmps46
  go_wp2_with fail
  (refine calls_named ?_; intro w1 hw1)
  have hb1 : Below w.heap.size w w1 := by rw [hw1]; exact (by repeat (first | exact Below.refl _ _ | assumption | apply Below.drew | apply below_drewN | apply Bel.alloc | (refine Bel.setCell_ ?_ ?_; rotate_left; omega) | (refine Bel.step ?_ (by assumption))))
  have hJ1 : Blk w1 w.heap.size 26 #[.slice A n c, .slice B m d, .slice C k e] := by rw [hw1]; exact (by repeat (first | assumption | (refine Blk.new' _ _ _ ?_; first | with_unfolding_all rfl | (simp; done)) | apply Blk.drewN | apply Blk.drew | apply Blk.alloc | (refine Blk.far_ ?_ ?_ _; rotate_left; omega)))
  have hR1 : Blk w1 (w.heap.size + 1) 26 #[.slice none 0 0, .slice none 0 0, .slice none 0 0] := by rw [hw1]; exact (by repeat (first | assumption | (refine Blk.new' _ _ _ ?_; first | with_unfolding_all rfl | (simp; done)) | apply Blk.drewN | apply Blk.drew | apply Blk.alloc | (refine Blk.far_ ?_ ?_ _; rotate_left; omega)))
  have hX1 : Blk w1 (w.heap.size + 1 + 1) 44 #[.slice none 0 0, .int .i64 0] := by rw [hw1]; exact (by repeat (first | assumption | (refine Blk.new' _ _ _ ?_; first | with_unfolding_all rfl | (simp; done)) | apply Blk.drewN | apply Blk.drew | apply Blk.alloc | (refine Blk.far_ ?_ ?_ _; rotate_left; omega)))
  have hz1 : w.heap.size + 3 ≤ w1.heap.size := by rw [hw1]; simp
  clear hw1
  with_reducible refine (HT.out w1).mono ?_
  rintro r w2 ⟨rfl, hb2⟩
  have hb2' := Bel.step hb1 hb2
  have hJ2 := hJ1.below hb2 hJ1.lt
  have hR2 := hR1.below hb2 hR1.lt
  have hX2 := hX1.below hb2 hX1.lt
  have hz2 := Nat.le_trans hz1 hb2.size
  clear hb1 hb2 hJ1 hR1 hX1 hz1
  go_wp2_with fail
  have HSX := Lib.hid (show ∀ X, Blk X w.heap.size 26 #[.slice A n c, .slice B m d, .slice C k e] → X.cell? ⟨w.heap.size, 0, none⟩ = some (.slice A n c) ∧ X.cell? ⟨w.heap.size, 1, none⟩ = some (.slice B m d) ∧ X.cell? ⟨w.heap.size, 2, none⟩ = some (.slice C k e) from fun X hX => hX.three)
  refine wp_region_held_drew (S := fun X => Blk X w.heap.size 26 #[.slice A n c, .slice B m d, .slice C k e]) (by kernel_rfl) hJ2.drew (fun _ => ?_)
  refine take_ (i := 0) (d := some 13) (v := ?_) rfl rfl (by kernel_rfl) (by kernel_rfl) (by kernel_rfl) (fun _ _ _ h => h) (by rfl) ?_ (by first | rfl | trivial | assumption) ?_
  rotate_left
  · (intro V hSw; (try (have hF := HSX.out V hSw)); (try (cases hSw)); (try go_split_ands); go_simp; try with_reducible rfl)
  simp only [Act.put, List.setIfInBounds_toArray, List.set_cons_zero, List.set_cons_succ]
  refine take_ (i := 1) (d := some 14) (v := ?_) rfl rfl (by kernel_rfl) (by kernel_rfl) (by kernel_rfl) (fun _ _ _ h => h) (by rfl) ?_ (by first | rfl | trivial | assumption) ?_
  rotate_left
  · (intro V hSw; (try (have hF := HSX.out V hSw)); (try (cases hSw)); (try go_split_ands); go_simp; try with_reducible rfl)
  simp only [Act.put, List.setIfInBounds_toArray, List.set_cons_zero, List.set_cons_succ]
  refine wpAnyH_ready (rs := [2]) (by kernel_rfl) (by simp) ?_
  refine AllReadyH.cons (o := _) rfl (fun K hK => ?_) AllReadyH.nil
  go_simp
  have hbd : Below w2.heap.size w2 w2.drew := (Below.refl _ _).drew
  with_reducible refine (refAt_x _ _ _ _).mono ?_
  rintro r w4 ⟨A4, n4, m4, rfl, h4, hA4, h5, hb⟩
  have hb4 : Below w2.heap.size w2 w4 := hbd.trans hb
  have hb4' := Bel.step hb2' hb4
  have hJ4 := hJ2.below hb4 hJ2.lt
  have hR4 := hR2.below hb4 hR2.lt
  have hX4 := hX2.below hb4 hX2.lt
  have hz4 := hb4.size
  have hA5 : ∀ b, blkOf A4 = some b → w.heap.size + 3 ≤ b ∧ b < w4.heap.size := fun b e => ⟨Nat.le_trans hz2 (hA4 b e).1, (hA4 b e).2⟩
  clear hb hbd hb4 hJ2 hR2 hX2 hA4
  go_wp2_with fail
  refine hK.out _ _ hJ4 (fun _ => ?_)
  clear hK K
  obtain ⟨r0, r1, r2⟩ := hR4.three
  have fr0 := hR4.frozen 0
  have fr1 := hR4.frozen 1
  have fr2 := hR4.frozen 2
  refine wpAnyH_ready (rs := [3]) (by kernel_rfl) (by simp) ?_
  refine AllReadyH.cons (o := _) rfl (fun K hK => ?_) AllReadyH.nil
  go_simp
  have hJ5 := ((hJ4.far (p := ⟨w.heap.size + 1, 0, none⟩) (by simp only; omega) (.slice A n c)).far (p := ⟨w.heap.size + 1, 1, none⟩) (by simp only; omega) (.slice B m d)).far (p := ⟨w.heap.size + 1, 2, none⟩) (by simp only; omega) (.slice C k e)
  have hR5 := ((hR4.set_ 0 (.slice A n c)).set_ 1 (.slice B m d)).set_ 2 (.slice C k e)
  have hX5 := ((hX4.far (p := ⟨w.heap.size + 1, 0, none⟩) (by simp only; omega) (.slice A n c)).far (p := ⟨w.heap.size + 1, 1, none⟩) (by simp only; omega) (.slice B m d)).far (p := ⟨w.heap.size + 1, 2, none⟩) (by simp only; omega) (.slice C k e)
  have hb5 := ((hb4'.setCell (p := ⟨w.heap.size + 1, 0, none⟩) (by simp only; omega) (.slice A n c)).setCell (p := ⟨w.heap.size + 1, 1, none⟩) (by simp only; omega) (.slice B m d)).setCell (p := ⟨w.heap.size + 1, 2, none⟩) (by simp only; omega) (.slice C k e)
  have hw5 := ((h4.setFar (w.heap.size + 1) 0 (.slice A n c) (fun b e => ⟨by have := (hA5 b e).1; omega, (hA5 b e).2⟩)).setFar (w.heap.size + 1) 1 (.slice B m d) (fun b e => ⟨by have := (hA5 b e).1; omega, by simpa [World.setCell] using (hA5 b e).2⟩)).setFar (w.heap.size + 1) 2 (.slice C k e) (fun b e => ⟨by have := (hA5 b e).1; omega, by simpa [World.setCell] using (hA5 b e).2⟩)
  refine hK.out _ _ hJ5 (fun _ => ?_)
  obtain ⟨W5, hW5⟩ : ∃ X, X = ((w4.setCell ⟨w.heap.size + 1, 0, none⟩ (.slice A n c)).setCell ⟨w.heap.size + 1, 1, none⟩ (.slice B m d)).setCell ⟨w.heap.size + 1, 2, none⟩ (.slice C k e) := ⟨_, rfl⟩
  have hz5 : w4.heap.size = W5.heap.size := by rw [hW5]; simp [World.setCell]
  rw [← hW5] at hJ5 hR5 hX5 hb5 hw5 ⊢
  clear hK K hW5 r0 r1 r2 fr0 fr1 fr2 hR4 hX4 hJ4 h4 hb4'
  obtain ⟨x0, x1, fx0, fx1⟩ := hX5.two
  refine wpAnyH_ready (rs := [4]) (by kernel_rfl) (by simp) ?_
  refine AllReadyH.cons (o := _) rfl (fun K hK => ?_) AllReadyH.nil
  go_simp
  refine hK.out _ _ ((hJ5.far (by simp only; omega) _).far (by simp only; omega) _) (fun _ => ?_)
  clear hK K
  refine wpAnyH_done (by kernel_rfl) ?_ _
  go_wp2_with fail
  refine bodyPost_namd ?_
  intro W hW
  have hRW : Blk W (w.heap.size + 1) 26 #[.slice A n c, .slice B m d, .slice C k e] := by rw [hW]; exact (hR5.far (by simp) _).far (by simp) _
  have hXW : Blk W (w.heap.size + 1 + 1) 44 #[.slice A4 n4 m4, .int .i64 5] := by rw [hW]; exact (hX5.set_ 0 _).set_ 1 _
  have hbW : Below w.heap.size w W := by rw [hW]; exact (hb5.setCell (by simp only; omega) _).setCell (by simp only; omega) _
  have hwW : RdW W A4 n4 [((⟨#[103, 114, 97, 112, 104]⟩ : ByteArray), a)] := by
    rw [hW]
    exact (hw5.setFar (w.heap.size + 1 + 1) 0 (.slice A4 n4 m4) (fun b e => ⟨by have := (hA5 b e).1; omega, by rw [← hz5]; exact (hA5 b e).2⟩)).setFar (w.heap.size + 1 + 1) 1 (.int .i64 5) (fun b e => ⟨by have := (hA5 b e).1; omega, by simpa [World.setCell, ← hz5] using (hA5 b e).2⟩)
  clear hW hR5 hX5 hb5 hw5 x0 x1
  obtain ⟨r0, r1, r2⟩ := hRW.three
  obtain ⟨x0, x1, _, _⟩ := hXW.two
  refine bodyPost_ret (v := .tuple #[.agg #[.slice A n c, .slice B m d, .slice C k e], .agg #[.slice A4 n4 m4, .int .i64 5]]) (by simp [results, Tryz.results46, go_sem, r0, r1, r2, x0, x1]) rfl ?_
  exact ⟨_, _, _, rfl, hwW, h5, hbW⟩
set_option maxHeartbeats 1000000 in
theorem refSet_no2 (A B C : Option Addr) (n m k c d e : Nat) (a u : Int) (w : World) (h0 : 0 ≤ a) (h1 : a < m) (hu : wOk u = false) :
    Calls Tryz.prog 46 #[.agg #[.slice A n c, .slice B m d, .slice C k e], .int .i64 a, .int .i64 u] w fun r w' => ∃ A4 n4 m4, r = .returned (.tuple #[.agg #[.slice A n c, .slice B m d, .slice C k e], .agg #[.slice A4 n4 m4, .int .i64 8]]) ∧ RdW w' A4 n4 [((⟨#[103, 114, 97, 112, 104]⟩ : ByteArray), a)] ∧ n4 ≤ 1000000 ∧ Below w.heap.size w w' := by
  have HT := Lib.hid (fun (V : World) => refThere_ok A B C n m k c d e a V h0 h1)
  have HW := Lib.hid (show ∀ V, Calls Tryz.prog 78 #[.int .i64 u] V fun e w' => e = .returned (.bool false) ∧ V = w' from fun V => by
    have := refWeight_any u V
    rw [hu] at this
    exact this)
  clear h0 h1 hu
  go_enter Tryz.func46, Tryz.ntmps46
  go_wp2_with fail
  (refine calls_named ?_; intro w1 hw1)
  have hb1 : Below w.heap.size w w1 := by rw [hw1]; exact (by repeat (first | exact Below.refl _ _ | assumption | apply Below.drew | apply below_drewN | apply Bel.alloc | (refine Bel.setCell_ ?_ ?_; rotate_left; omega) | (refine Bel.step ?_ (by assumption))))
  have hJ1 : Blk w1 w.heap.size 26 #[.slice A n c, .slice B m d, .slice C k e] := by rw [hw1]; exact (by repeat (first | assumption | (refine Blk.new' _ _ _ ?_; first | with_unfolding_all rfl | (simp; done)) | apply Blk.drewN | apply Blk.drew | apply Blk.alloc | (refine Blk.far_ ?_ ?_ _; rotate_left; omega)))
  have hR1 : Blk w1 (w.heap.size + 1) 26 #[.slice none 0 0, .slice none 0 0, .slice none 0 0] := by rw [hw1]; exact (by repeat (first | assumption | (refine Blk.new' _ _ _ ?_; first | with_unfolding_all rfl | (simp; done)) | apply Blk.drewN | apply Blk.drew | apply Blk.alloc | (refine Blk.far_ ?_ ?_ _; rotate_left; omega)))
  have hX1 : Blk w1 (w.heap.size + 1 + 1) 44 #[.slice none 0 0, .int .i64 0] := by rw [hw1]; exact (by repeat (first | assumption | (refine Blk.new' _ _ _ ?_; first | with_unfolding_all rfl | (simp; done)) | apply Blk.drewN | apply Blk.drew | apply Blk.alloc | (refine Blk.far_ ?_ ?_ _; rotate_left; omega)))
  have hz1 : w.heap.size + 3 ≤ w1.heap.size := by rw [hw1]; simp
  clear hw1
  with_reducible refine (HT.out w1).mono ?_
  rintro r w2 ⟨rfl, hb2⟩
  have hb2' := Bel.step hb1 hb2
  have hJ2 := hJ1.below hb2 hJ1.lt
  have hR2 := hR1.below hb2 hR1.lt
  have hX2 := hX1.below hb2 hX1.lt
  have hz2 := Nat.le_trans hz1 hb2.size
  clear hb1 hb2 hJ1 hR1 hX1 hz1
  go_wp2_with fail
  with_reducible refine (HW.out _).mono ?_
  rintro r w' ⟨rfl, rfl⟩
  go_wp2_with fail
  have HSX := Lib.hid (show ∀ X, Blk X w.heap.size 26 #[.slice A n c, .slice B m d, .slice C k e] → X.cell? ⟨w.heap.size, 0, none⟩ = some (.slice A n c) ∧ X.cell? ⟨w.heap.size, 1, none⟩ = some (.slice B m d) ∧ X.cell? ⟨w.heap.size, 2, none⟩ = some (.slice C k e) from fun X hX => hX.three)
  refine wp_region_held_drew (S := fun X => Blk X w.heap.size 26 #[.slice A n c, .slice B m d, .slice C k e]) (by kernel_rfl) hJ2.drew (fun _ => ?_)
  refine take_ (i := 0) (d := some 19) (v := ?_) rfl rfl (by kernel_rfl) (by kernel_rfl) (by kernel_rfl) (fun _ _ _ h => h) (by rfl) ?_ (by first | rfl | trivial | assumption) ?_
  rotate_left
  · (intro V hSw; (try (have hF := HSX.out V hSw)); (try (cases hSw)); (try go_split_ands); go_simp; try with_reducible rfl)
  simp only [Act.put, List.setIfInBounds_toArray, List.set_cons_zero, List.set_cons_succ]
  refine take_ (i := 1) (d := some 20) (v := ?_) rfl rfl (by kernel_rfl) (by kernel_rfl) (by kernel_rfl) (fun _ _ _ h => h) (by rfl) ?_ (by first | rfl | trivial | assumption) ?_
  rotate_left
  · (intro V hSw; (try (have hF := HSX.out V hSw)); (try (cases hSw)); (try go_split_ands); go_simp; try with_reducible rfl)
  simp only [Act.put, List.setIfInBounds_toArray, List.set_cons_zero, List.set_cons_succ]
  refine wpAnyH_ready (rs := [2]) (by kernel_rfl) (by simp) ?_
  refine AllReadyH.cons (o := _) rfl (fun K hK => ?_) AllReadyH.nil
  go_simp
  have hbd : Below w2.heap.size w2 w2.drew := (Below.refl _ _).drew
  with_reducible refine (refAt_x _ _ _ _).mono ?_
  rintro r w4 ⟨A4, n4, m4, rfl, h4, hA4, h5, hb⟩
  have hb4 : Below w2.heap.size w2 w4 := hbd.trans hb
  have hb4' := Bel.step hb2' hb4
  have hJ4 := hJ2.below hb4 hJ2.lt
  have hR4 := hR2.below hb4 hR2.lt
  have hX4 := hX2.below hb4 hX2.lt
  have hz4 := hb4.size
  have hA5 : ∀ b, blkOf A4 = some b → w.heap.size + 3 ≤ b ∧ b < w4.heap.size := fun b e => ⟨Nat.le_trans hz2 (hA4 b e).1, (hA4 b e).2⟩
  clear hb hbd hb4 hJ2 hR2 hX2 hA4
  go_wp2_with fail
  refine hK.out _ _ hJ4 (fun _ => ?_)
  clear hK K
  obtain ⟨r0, r1, r2⟩ := hR4.three
  have fr0 := hR4.frozen 0
  have fr1 := hR4.frozen 1
  have fr2 := hR4.frozen 2
  refine wpAnyH_ready (rs := [3]) (by kernel_rfl) (by simp) ?_
  refine AllReadyH.cons (o := _) rfl (fun K hK => ?_) AllReadyH.nil
  go_simp
  have hJ5 := ((hJ4.far (p := ⟨w.heap.size + 1, 0, none⟩) (by simp only; omega) (.slice A n c)).far (p := ⟨w.heap.size + 1, 1, none⟩) (by simp only; omega) (.slice B m d)).far (p := ⟨w.heap.size + 1, 2, none⟩) (by simp only; omega) (.slice C k e)
  have hR5 := ((hR4.set_ 0 (.slice A n c)).set_ 1 (.slice B m d)).set_ 2 (.slice C k e)
  have hX5 := ((hX4.far (p := ⟨w.heap.size + 1, 0, none⟩) (by simp only; omega) (.slice A n c)).far (p := ⟨w.heap.size + 1, 1, none⟩) (by simp only; omega) (.slice B m d)).far (p := ⟨w.heap.size + 1, 2, none⟩) (by simp only; omega) (.slice C k e)
  have hb5 := ((hb4'.setCell (p := ⟨w.heap.size + 1, 0, none⟩) (by simp only; omega) (.slice A n c)).setCell (p := ⟨w.heap.size + 1, 1, none⟩) (by simp only; omega) (.slice B m d)).setCell (p := ⟨w.heap.size + 1, 2, none⟩) (by simp only; omega) (.slice C k e)
  have hw5 := ((h4.setFar (w.heap.size + 1) 0 (.slice A n c) (fun b e => ⟨by have := (hA5 b e).1; omega, (hA5 b e).2⟩)).setFar (w.heap.size + 1) 1 (.slice B m d) (fun b e => ⟨by have := (hA5 b e).1; omega, by simpa [World.setCell] using (hA5 b e).2⟩)).setFar (w.heap.size + 1) 2 (.slice C k e) (fun b e => ⟨by have := (hA5 b e).1; omega, by simpa [World.setCell] using (hA5 b e).2⟩)
  refine hK.out _ _ hJ5 (fun _ => ?_)
  obtain ⟨W5, hW5⟩ : ∃ X, X = ((w4.setCell ⟨w.heap.size + 1, 0, none⟩ (.slice A n c)).setCell ⟨w.heap.size + 1, 1, none⟩ (.slice B m d)).setCell ⟨w.heap.size + 1, 2, none⟩ (.slice C k e) := ⟨_, rfl⟩
  have hz5 : w4.heap.size = W5.heap.size := by rw [hW5]; simp [World.setCell]
  rw [← hW5] at hJ5 hR5 hX5 hb5 hw5 ⊢
  clear hK K hW5 r0 r1 r2 fr0 fr1 fr2 hR4 hX4 hJ4 h4 hb4'
  obtain ⟨x0, x1, fx0, fx1⟩ := hX5.two
  refine wpAnyH_ready (rs := [4]) (by kernel_rfl) (by simp) ?_
  refine AllReadyH.cons (o := _) rfl (fun K hK => ?_) AllReadyH.nil
  go_simp
  refine hK.out _ _ ((hJ5.far (by simp only; omega) _).far (by simp only; omega) _) (fun _ => ?_)
  clear hK K
  refine wpAnyH_done (by kernel_rfl) ?_ _
  go_wp2_with fail
  refine bodyPost_namd ?_
  intro W hW
  have hRW : Blk W (w.heap.size + 1) 26 #[.slice A n c, .slice B m d, .slice C k e] := by rw [hW]; exact (hR5.far (by simp) _).far (by simp) _
  have hXW : Blk W (w.heap.size + 1 + 1) 44 #[.slice A4 n4 m4, .int .i64 8] := by rw [hW]; exact (hX5.set_ 0 _).set_ 1 _
  have hbW : Below w.heap.size w W := by rw [hW]; exact (hb5.setCell (by simp only; omega) _).setCell (by simp only; omega) _
  have hwW : RdW W A4 n4 [((⟨#[103, 114, 97, 112, 104]⟩ : ByteArray), a)] := by
    rw [hW]
    exact (hw5.setFar (w.heap.size + 1 + 1) 0 (.slice A4 n4 m4) (fun b e => ⟨by have := (hA5 b e).1; omega, by rw [← hz5]; exact (hA5 b e).2⟩)).setFar (w.heap.size + 1 + 1) 1 (.int .i64 8) (fun b e => ⟨by have := (hA5 b e).1; omega, by simpa [World.setCell, ← hz5] using (hA5 b e).2⟩)
  clear hW hR5 hX5 hb5 hw5 x0 x1
  obtain ⟨r0, r1, r2⟩ := hRW.three
  obtain ⟨x0, x1, _, _⟩ := hXW.two
  refine bodyPost_ret (v := .tuple #[.agg #[.slice A n c, .slice B m d, .slice C k e], .agg #[.slice A4 n4 m4, .int .i64 8]]) (by simp [results, Tryz.results46, go_sem, r0, r1, r2, x0, x1]) rfl ?_
  exact ⟨_, _, _, rfl, hwW, h5, hbW⟩
end Go.Proofs.YtgkeolddpielpaaGreatDoor

/- The document's CheckPart, told exactly. -/
namespace Go.Proofs.YtgkeolddpielpaaGreatDoor
open Go.RowKit

attribute [local go_sem ↓] Go.wp_at_zero Go.wp_at_succ

set_option maxHeartbeats 2000000 in
set_option maxRecDepth 20000 in
theorem checkPart_x (Q : Option Addr) (n L cq : Nat) (ls : List (List Int)) (w : World) (h : RdT w Q L ls) (hn : n ≤ 4096) (l1 : 1 ≤ L) (l6 : L ≤ 6) (i0 : Nat) (hi0 : i0 ≤ L) (hg : PGood n ls i0) (c0 : Int) (hc0 : ∀ l, ls[i0]? = some l → lvlCode n (prevOf ls i0) l = c0 ∧ c0 ≠ 0) :
    Calls Tryz.prog 11 #[.int .i64 n, .agg #[.slice Q L cq], .slice none 0 0] w fun e w' => ((i0 = L ∧ e = .returned (.agg #[.slice none 0 0, .int .i64 0])) ∨ (i0 < L ∧ ∃ A4 n4 m4, e = .returned (.agg #[.slice A4 n4 m4, .int .i64 c0]) ∧ RdW w' A4 n4 [((⟨#[112, 97, 114, 116]⟩ : ByteArray), (i0 : Int) + 1)] ∧ n4 ≤ 1000000)) ∧ Below w.heap.size w w' := by
  have HT := Lib.hid h
  clear h
  have q0 : ¬ (n : Int) > 4096 := by omega
  have q1 : ¬ (L : Int) > 6 := by omega
  have q2 : ¬ L = 0 := by omega
  have HG := Lib.hid hg
  have HC0 := Lib.hid hc0
  clear hg hc0
  have j1 : ((L : Int) == 0) = false := by simp; exact q2
  go_enter Tryz.func11, Tryz.ntmps11
  go_wp2_with fail
  (refine wp_named ?_; intro w1 hw1)
  have hb1 : Below w.heap.size w w1 := by rw [hw1]; exact (by repeat (first | exact Below.refl _ _ | assumption | apply Below.drew | apply below_drewN | apply Bel.alloc | (refine Bel.setCell_ ?_ ?_; rotate_left; omega) | (refine Bel.step ?_ (by assumption))))
  have hQ : Blk w1 w.heap.size 29 #[.slice Q L cq] := by rw [hw1]; exact (by repeat (first | assumption | (refine Blk.new' _ _ _ ?_; first | with_unfolding_all rfl | (simp; done)) | apply Blk.drewN | apply Blk.drew | apply Blk.alloc | (refine Blk.far_ ?_ ?_ _; rotate_left; omega)))
  have hB : Blk w1 (w.heap.size + 1) 44 #[.slice none 0 0, .int .i64 0] := by rw [hw1]; exact (by repeat (first | assumption | (refine Blk.new' _ _ _ ?_; first | with_unfolding_all rfl | (simp; done)) | apply Blk.drewN | apply Blk.drew | apply Blk.alloc | (refine Blk.far_ ?_ ?_ _; rotate_left; omega)))
  clear hw1
  go_loopw [7] (fun q W => Below w.heap.size w W ∧ Blk W w.heap.size 29 #[.slice Q L cq] ∧ Blk W (w.heap.size + 1) 44 #[.slice none 0 0, .int .i64 0] ∧ ∃ i : Nat, i ≤ i0 ∧ q = .int .i64 ((i : Int) + 1)) (fun q _ => L + 1 - (intOf q).toNat)
  case atStart => exact ⟨hb1, hQ, hB, 0, Nat.zero_le _, rfl⟩
  case round =>
    clear hb1 hQ hB
    obtain ⟨hbl, hQ, hB, i, hi, rfl⟩ := hrel
    have zB0 := hB.lt
    have y0 := hQ.cell 0
    simp only [List.getElem?_toArray, List.getElem?_cons_zero] at y0
    by_cases hlt : i < L
    · obtain ⟨l, hl⟩ : ∃ l, ls[i]? = some l := ⟨_, List.getElem?_eq_getElem (by rw [HT.out.1]; exact hlt)⟩
      have HCL := Lib.hid (checkLevel_any Q n L cq i ls l wr (HT.out.below hbl) hl (by omega) (by omega) (fun j p e hp => (HG.out.lvl (show j < i0 by omega) hp).len))
      have HLL := Lib.hid hl
      by_cases hii : i < i0
      · have hcz := HG.out i l hii hl
        rw [hcz] at HCL
        have i1 : (i : Int) + 1 ≤ (L : Int) := by omega
        clear hl hcz
        go_wp2_with fail
        with_reducible refine HCL.out.mono ?_
        rintro e w2 ⟨rfl, hb2⟩
        have hQ2 := hQ.below hb2 hQ.lt
        have hB2 := hB.below hb2 hB.lt
        have hbw2 := Bel.step hbl hb2
        clear hQ hB y0 HCL hb2 zB0
        go_wp2_with fail
        go_roundw
        case rel => exact ⟨hbw2, hQ2, hB2, i + 1, by omega, by go_num⟩
        case measure => simp [intOf]; omega
      obtain rfl : i0 = i := by omega
      obtain ⟨hcode, hc⟩ := HC0.out l hl
      rw [hcode] at HCL
      have hltL : i0 < L := hlt
      have i1 : (i0 : Int) + 1 ≤ (L : Int) := by omega
      have e1 : (c0 == 0) = false := by simpa using hc
      have e2 : (c0 != 0) = true := by simpa using hc
      clear hl hcode hc hii hlt
      go_wp2_with fail
      with_reducible refine HCL.out.mono ?_
      rintro e w2 ⟨rfl, hb2⟩
      have hB2 := hB.below hb2 hB.lt
      have hbw2 := Bel.step hbl hb2
      have hz2 := hb2.size
      clear hQ hB y0 HCL hb2
      go_wp2_with fail
      with_reducible refine (refAt_x _ _ _ _).mono ?_
      rintro e w3 ⟨A4, n4, m4, rfl, h4, hA4, h5, hb3⟩
      have hB3 := hB2.below hb3 hB2.lt
      obtain ⟨d0, d1, f0, f1⟩ := hB3.two
      have hbw3 := Bel.step hbw2 hb3
      have HW := Lib.hid ((h4.setFar (w.heap.size + 1) 0 (.slice A4 n4 m4) (fun b e => ⟨by have := (hA4 b e).1; omega, (hA4 b e).2⟩)).setFar (w.heap.size + 1) 1 (.int .i64 c0) (fun b e => ⟨by have := (hA4 b e).1; omega, by simpa [World.setCell] using (hA4 b e).2⟩))
      have hbw4 : Below w.heap.size w ((w3.setCell ⟨w.heap.size + 1, 0, none⟩ (.slice A4 n4 m4)).setCell ⟨w.heap.size + 1, 1, none⟩ (.int .i64 c0)) := (hbw3.setCell (by simp only; omega) _).setCell (by simp only; omega) _
      clear h4 hA4 hb3 hB2 hbw2
      go_wp2_with fail
      refine bodyPost_ret (v := .agg #[.slice A4 n4 m4, .int .i64 c0]) (by simp [results, Tryz.results11, go_sem, d0, d1]) rfl ?_
      exact ⟨.inr ⟨hltL, _, _, _, rfl, HW.out, h5⟩, hbw4⟩
    · obtain rfl : L = i := by omega
      obtain rfl : i0 = L := by omega
      obtain ⟨c0, c1, f0, f1⟩ := hB.two
      have zB := hB.lt
      go_wp2_with fail
      refine bodyPost_ret (v := .agg #[.slice none 0 0, .int .i64 0]) (by simp [results, Tryz.results11, go_sem, c0, c1]) rfl ?_
      exact ⟨rfl, (by repeat (first | exact Below.refl _ _ | assumption | apply Below.drew | apply below_drewN | apply Bel.alloc | (refine Bel.setCell_ ?_ ?_; rotate_left; omega) | (refine Bel.step ?_ (by assumption))))⟩
set_option maxHeartbeats 1000000 in
theorem checkPart_size (Q : Option Addr) (n L cq : Nat) (k c : Int) (w : World) (hn : n ≤ 4096) (h : (6 < L ∧ k = 0 ∧ c = 4) ∨ (L = 0 ∧ k = 0 ∧ c = 1)) :
    Calls Tryz.prog 11 #[.int .i64 n, .agg #[.slice Q L cq], .slice none 0 0] w fun e w' => ∃ A4 n4 m4, e = .returned (.agg #[.slice A4 n4 m4, .int .i64 c]) ∧ RdW w' A4 n4 [((⟨#[112, 97, 114, 116]⟩ : ByteArray), k)] ∧ n4 ≤ 1000000 ∧ Below w.heap.size w w' := by
  have q0 : ¬ (n : Int) > 4096 := by omega
  rcases h with ⟨h, rfl, rfl⟩ | ⟨h, rfl, rfl⟩
  · have q1 : (L : Int) > 6 := by omega
    clear h
    go_enter Tryz.func11, Tryz.ntmps11
    go_wp2_with fail
    (refine calls_named ?_; intro w1 hw1)
    have hb1 : Below w.heap.size w w1 := by rw [hw1]; exact (by repeat (first | exact Below.refl _ _ | assumption | apply Below.drew | apply below_drewN | apply Bel.alloc | (refine Bel.setCell_ ?_ ?_; rotate_left; omega) | (refine Bel.step ?_ (by assumption))))
    have hB1 : Blk w1 (w.heap.size + 1) 44 #[.slice none 0 0, .int .i64 0] := by rw [hw1]; exact (by repeat (first | assumption | (refine Blk.new' _ _ _ ?_; first | with_unfolding_all rfl | (simp; done)) | apply Blk.drewN | apply Blk.drew | apply Blk.alloc | (refine Blk.far_ ?_ ?_ _; rotate_left; omega)))
    have hz1 : w.heap.size + 2 ≤ w1.heap.size := by rw [hw1]; simp
    clear hw1
    with_reducible refine (refAt_x _ _ _ _).mono ?_
    rintro e w3 ⟨A4, n4, m4, rfl, h4, hA4, h5, hb3⟩
    have hB3 := hB1.below hb3 hB1.lt
    obtain ⟨d0, d1, f0, f1⟩ := hB3.two
    have hbw3 := Bel.step hb1 hb3
    have HW := Lib.hid ((h4.setFar (w.heap.size + 1) 0 (.slice A4 n4 m4) (fun b e => ⟨by have := (hA4 b e).1; omega, (hA4 b e).2⟩)).setFar (w.heap.size + 1) 1 (.int .i64 4) (fun b e => ⟨by have := (hA4 b e).1; omega, by simpa [World.setCell] using (hA4 b e).2⟩))
    have hbw4 : Below w.heap.size w ((w3.setCell ⟨w.heap.size + 1, 0, none⟩ (.slice A4 n4 m4)).setCell ⟨w.heap.size + 1, 1, none⟩ (.int .i64 4)) := (hbw3.setCell (by simp only; omega) _).setCell (by simp only; omega) _
    clear h4 hA4 hb3
    go_wp2_with fail
    refine bodyPost_ret (v := .agg #[.slice A4 n4 m4, .int .i64 4]) (by simp [results, Tryz.results11, go_sem, d0, d1]) rfl ?_
    exact ⟨_, _, _, rfl, HW.out, h5, hbw4⟩
  · subst h
    have q1 : ¬ (((0 : Nat) : Int) > 6) := by omega
    have j1 : ((((0 : Nat) : Int)) == 0) = true := by simp
    go_enter Tryz.func11, Tryz.ntmps11
    go_wp2_with fail
    (refine calls_named ?_; intro w1 hw1)
    have hb1 : Below w.heap.size w w1 := by rw [hw1]; exact (by repeat (first | exact Below.refl _ _ | assumption | apply Below.drew | apply below_drewN | apply Bel.alloc | (refine Bel.setCell_ ?_ ?_; rotate_left; omega) | (refine Bel.step ?_ (by assumption))))
    have hB1 : Blk w1 (w.heap.size + 1) 44 #[.slice none 0 0, .int .i64 0] := by rw [hw1]; exact (by repeat (first | assumption | (refine Blk.new' _ _ _ ?_; first | with_unfolding_all rfl | (simp; done)) | apply Blk.drewN | apply Blk.drew | apply Blk.alloc | (refine Blk.far_ ?_ ?_ _; rotate_left; omega)))
    have hz1 : w.heap.size + 2 ≤ w1.heap.size := by rw [hw1]; simp
    clear hw1
    with_reducible refine (refAt_x _ _ _ _).mono ?_
    rintro e w3 ⟨A4, n4, m4, rfl, h4, hA4, h5, hb3⟩
    have hB3 := hB1.below hb3 hB1.lt
    obtain ⟨d0, d1, f0, f1⟩ := hB3.two
    have hbw3 := Bel.step hb1 hb3
    have HW := Lib.hid ((h4.setFar (w.heap.size + 1) 0 (.slice A4 n4 m4) (fun b e => ⟨by have := (hA4 b e).1; omega, (hA4 b e).2⟩)).setFar (w.heap.size + 1) 1 (.int .i64 1) (fun b e => ⟨by have := (hA4 b e).1; omega, by simpa [World.setCell] using (hA4 b e).2⟩))
    have hbw4 : Below w.heap.size w ((w3.setCell ⟨w.heap.size + 1, 0, none⟩ (.slice A4 n4 m4)).setCell ⟨w.heap.size + 1, 1, none⟩ (.int .i64 1)) := (hbw3.setCell (by simp only; omega) _).setCell (by simp only; omega) _
    clear h4 hA4 hb3
    go_wp2_with fail
    refine bodyPost_ret (v := .agg #[.slice A4 n4 m4, .int .i64 1]) (by simp [results, Tryz.results11, go_sem, d0, d1]) rfl ?_
    exact ⟨_, _, _, rfl, HW.out, h5, hbw4⟩
/-- CheckPart and part.Check of the same cells. -/
theorem part_bad (Q : Option Addr) (n L cq : Nat) (k c : Int) (ls : List (List Int)) (hb : PBad n ls k c) (hL : ls.length = L) (hn : n ≤ 4096) (w : World) (h : RdT w Q L ls) :
    (Calls Tryz.prog 34 #[.int .i64 n, .agg #[.slice Q L cq], .slice none 0 0] w fun e w' => ∃ v, e = .returned v ∧ Chain w' v [((⟨#[112, 97, 114, 116]⟩ : ByteArray), k)] c ∧ Below w.heap.size w w') ∧
    Calls Tryz.prog 11 #[.int .i64 n, .agg #[.slice Q L cq], .slice none 0 0] w fun e w' => ∃ A4 n4 m4, e = .returned (.agg #[.slice A4 n4 m4, .int .i64 c]) ∧ RdW w' A4 n4 [((⟨#[112, 97, 114, 116]⟩ : ByteArray), k)] ∧ n4 ≤ 1000000 ∧ Below w.heap.size w w' := by
  rcases hb with hb | hb | ⟨h1, h6, i, l, hl, rfl, rfl, hc, hg⟩
  · rw [hL] at hb
    exact ⟨partCheck_size Q n L cq k c w hn (.inl hb), checkPart_size Q n L cq k c w hn (.inl hb)⟩
  · rw [hL] at hb
    exact ⟨partCheck_size Q n L cq k c w hn (.inr hb), checkPart_size Q n L cq k c w hn (.inr hb)⟩
  · have hi : i < L := by rw [← hL]; exact (List.getElem?_eq_some_iff.1 hl).1
    have hcc : ∀ l', ls[i]? = some l' → lvlCode n (prevOf ls i) l' = lvlCode n (prevOf ls i) l ∧ lvlCode n (prevOf ls i) l ≠ 0 := fun l' hl' => by rw [hl] at hl'; cases hl'; exact ⟨rfl, hc⟩
    refine ⟨(partCheck_x Q n L cq ls w h hn (by omega) (by omega) i (by omega) hg _ hcc).mono ?_, (checkPart_x Q n L cq ls w h hn (by omega) (by omega) i (by omega) hg _ hcc).mono ?_⟩
    · rintro e w' ⟨h | ⟨_, v, h1, h2⟩, hb⟩
      · omega
      · exact ⟨v, h1, h2, hb⟩
    · rintro e w' ⟨h | ⟨_, A4, n4, m4, h1, h2, h3⟩, hb⟩
      · omega
      · exact ⟨A4, n4, m4, h1, h2, h3, hb⟩
theorem checkPart_yes (Q : Option Addr) (n L cq : Nat) (ls : List (List Int)) (hP : PartOk n ls) (hn : n ≤ 4096) (w : World) (h : RdT w Q L ls) :
    Calls Tryz.prog 11 #[.int .i64 n, .agg #[.slice Q L cq], .slice none 0 0] w fun e w' => e = .returned (.agg #[.slice none 0 0, .int .i64 0]) ∧ Below w.heap.size w w' := by
  have hL : ls.length = L := h.1
  have h1 := hP.l1
  have h6 := hP.l6
  refine (checkPart_x Q n L cq ls w h hn (by omega) (by omega) L (Nat.le_refl _) (by rw [← hL]; exact hP.good) 1 (fun l hl => ?_)).mono ?_
  · have := (List.getElem?_eq_some_iff.1 hl).1
    omega
  · rintro e w' ⟨⟨_, h⟩ | ⟨h, _⟩, hb⟩
    · exact ⟨h, hb⟩
    · omega
end Go.Proofs.YtgkeolddpielpaaGreatDoor
