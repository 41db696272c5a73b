/- Parts of the proof: Wi, Ch4. -/
import Derived.Test.YtgkeolddpielpaaGreatDoorM16
/- The document's Within: told exactly. -/
namespace Go.Proofs.YtgkeolddpielpaaGreatDoor
open Go.RowKit

attribute [local go_sem ↓] Go.wp_at_zero Go.wp_at_succ

/-- parts of a Wrong as cells -/
def wcells : List (ByteArray × Int) → List Value
  | [] => []
  | p :: t => .string p.1 :: .int .i64 p.2 :: wcells t
theorem wcells_len : ∀ l : List (ByteArray × Int), (wcells l).length = l.length * 2
  | [] => rfl
  | _ :: t => by simp [wcells, wcells_len t]; omega
theorem wcells_get : ∀ {l : List (ByteArray × Int)} {i : Nat} {p : ByteArray × Int}, l[i]? = some p → (wcells l)[i * 2]? = some (.string p.1) ∧ (wcells l)[i * 2 + 1]? = some (.int .i64 p.2)
  | [], i, p, h => by simp at h
  | q :: t, 0, p, h => by simp at h; subst h; simp [wcells]
  | q :: t, i + 1, p, h => by
    have := wcells_get (l := t) (i := i) (p := p) (by simpa using h)
    rw [show (i + 1) * 2 = i * 2 + 1 + 1 by omega, show i * 2 + 1 + 1 + 1 = (i * 2 + 1) + 1 + 1 by omega]
    simpa [wcells] using this
theorem wcells_one (l : List (ByteArray × Int)) : ∀ u ∈ wcells l, u.oneCell' = true := by
  induction l with
  | nil => intro u hu; cases hu
  | cons p t ih =>
    intro u hu
    simp only [wcells, List.mem_cons] at hu
    rcases hu with rfl | rfl | hu
    · rfl
    · rfl
    · exact ih u hu
theorem wcells_at : ∀ {l : List (ByteArray × Int)} {j : Nat} {u : Value}, (wcells l)[j]? = some u → ∃ p, l[j / 2]? = some p ∧ ((j % 2 = 0 ∧ u = .string p.1) ∨ (j % 2 = 1 ∧ u = .int .i64 p.2))
  | [], j, u, h => by simp [wcells] at h
  | q :: t, 0, u, h => by simp [wcells] at h; exact ⟨q, by simp, .inl ⟨rfl, h.symm⟩⟩
  | q :: t, 1, u, h => by simp [wcells] at h; exact ⟨q, by simp, .inr ⟨rfl, h.symm⟩⟩
  | q :: t, j + 2, u, h => by
    obtain ⟨p, h1, h2⟩ := wcells_at (l := t) (j := j) (u := u) (by simpa [wcells] using h)
    refine ⟨p, ?_, ?_⟩
    · rw [show (j + 2) / 2 = j / 2 + 1 by omega]; simpa using h1
    · rw [show (j + 2) % 2 = j % 2 by omega]; exact h2
theorem RdW.rds {w : World} {n : Nat} {A : Option Addr} {l : List (ByteArray × Int)} (h : RdW w A n l) : Rds w 2 A n (wcells l) :=
  ⟨by rw [wcells_len, h.1], fun j u hu => by
    obtain ⟨p, hp, hu'⟩ := wcells_at hu
    obtain ⟨b, o, e, h1, h2⟩ := h.2 _ p hp
    refine ⟨b, o, e, ?_⟩
    rcases hu' with ⟨hm, rfl⟩ | ⟨hm, rfl⟩
    · rw [show o + j = o + j / 2 * 2 by omega]; exact h1
    · rw [show o + j = o + j / 2 * 2 + 1 by omega]; exact h2⟩
theorem Rds.rdW {w : World} {n : Nat} {A : Option Addr} {l : List (ByteArray × Int)} (h : Rds w 2 A n (wcells l)) : RdW w A n l :=
  ⟨by have := h.1; rw [wcells_len] at this; omega, fun i p hp => by
    obtain ⟨h1, h2⟩ := wcells_get hp
    obtain ⟨b, o, e, c1⟩ := h.2 _ _ h1
    obtain ⟨b', o', e', c2⟩ := h.2 _ _ h2
    rw [e] at e'; cases e'
    exact ⟨b, o, e, c1, by rw [Nat.add_assoc]; exact c2⟩⟩

set_option maxHeartbeats 1000000 in
theorem refWithin_x (s : ByteArray) (at_ : Int) (A : Option Addr) (k c : Nat) (x : Int) (ps : List (ByteArray × Int)) (w : World) (hx : x ≠ 0) (hr : RdW w A k ps) (hk : k ≤ 1000000) :
    Calls Tryz.prog 83 #[.string s, .int .i64 at_, .agg #[.slice A k c, .int .i64 x]] w fun e w' => ∃ A' c', e = .returned (.agg #[.slice A' (1 + k) c', .int .i64 x]) ∧ RdW w' A' (1 + k) ((s, at_) :: ps) ∧ (∀ b, blkOf A' = some b → w.heap.size ≤ b ∧ b < w'.heap.size) ∧ Below w.heap.size w w' := by
  have HR := Lib.hid hr.rds
  have HO := Lib.hid (wcells_one ps)
  clear hr
  go_enter Tryz.func83, Tryz.ntmps83
  go_wp2_with fail
  (refine wp_named ?_; intro w1 hw1)
  have hb1 : Below w.heap.size w w1 := by rw [hw1]; exact (by repeat (first | exact Below.refl _ _ | assumption | apply Below.drew | apply below_drewN | apply Bel.alloc | (refine Bel.setCell_ ?_ ?_; rotate_left; omega) | (refine Bel.step ?_ (by assumption))))
  have hT1 : Blk w1 w.heap.size 44 #[.slice A k c, .int .i64 x] := by rw [hw1]; exact (by repeat (first | assumption | (refine Blk.new' _ _ _ ?_; first | with_unfolding_all rfl | (simp; done)) | apply Blk.drewN | apply Blk.drew | apply Blk.alloc | (refine Blk.far_ ?_ ?_ _; rotate_left; omega)))
  have hB1 : Blk w1 (w.heap.size + 1) 44 #[.slice none 0 0, .int .i64 0] := by rw [hw1]; exact (by repeat (first | assumption | (refine Blk.new' _ _ _ ?_; first | with_unfolding_all rfl | (simp; done)) | apply Blk.drewN | apply Blk.drew | apply Blk.alloc | (refine Blk.far_ ?_ ?_ _; rotate_left; omega)))
  have hz1 : w1.heap.size = w.heap.size + 1 + 1 := by rw [hw1]; simp
  clear hw1
  obtain ⟨t0, t1, _, _⟩ := hT1.two
  go_wp2_with fail
  have hb0 : Below (w.heap.size + 1) w1 w1.drew := (Below.refl _ _).drew
  have HSX := Lib.hid (show ∀ V, Below (w.heap.size + 1) w1 V → V.cell? ⟨w.heap.size, 0, none⟩ = some (.slice A k c) ∧ V.cell? ⟨w.heap.size, 1, none⟩ = some (.int .i64 x) from fun V hV => ⟨(hV.cell (Nat.lt_succ_self _)).trans t0, (hV.cell (Nat.lt_succ_self _)).trans t1⟩)
  refine wp_region_held_drew (S := fun V => Below (w.heap.size + 1) w1 V) (by kernel_rfl) hb0 (fun _ => ?_)
  refine take_ (i := 0) (d := some 11) (v := ?_) rfl rfl (by kernel_rfl) (by kernel_rfl) (by kernel_rfl) (fun _ _ _ h => h) (by rfl) ?_ (by first | rfl | trivial | assumption) ?_
  rotate_left
  · (intro V hSw; (try (have hF := HSX.out V hSw)); (try (cases hSw)); (try go_split_ands); go_simp; try with_reducible rfl)
  simp only [Act.put, List.setIfInBounds_toArray, List.set_cons_zero, List.set_cons_succ]
  refine take_ (i := 1) (d := some 12) (v := ?_) rfl rfl (by kernel_rfl) (by kernel_rfl) (by kernel_rfl) (fun _ _ _ h => h) (by rfl) ?_ (by first | rfl | trivial | assumption) ?_
  rotate_left
  · (intro V hSw; (try (have hF := HSX.out V hSw)); (try (cases hSw)); (try go_split_ands); go_simp; try with_reducible rfl)
  simp only [Act.put, List.setIfInBounds_toArray, List.set_cons_zero, List.set_cons_succ]
  refine take_ (i := 2) (d := some 13) (v := ?_) rfl rfl (by kernel_rfl) (by kernel_rfl) (by kernel_rfl) (fun _ _ _ h => h) (by rfl) ?_ (by first | rfl | trivial | assumption) ?_
  rotate_left
  · (intro V hSw; (try (have hF := HSX.out V hSw)); (try (cases hSw)); (try go_split_ands); go_simp; try with_reducible rfl)
  simp only [Act.put, List.setIfInBounds_toArray, List.set_cons_zero, List.set_cons_succ]
  refine take_ (i := 4) (d := some 15) (v := ?_) rfl rfl (by kernel_rfl) (by kernel_rfl) (by kernel_rfl) (fun _ _ _ h => h) (by rfl) ?_ (by first | rfl | trivial | assumption) ?_
  rotate_left
  · (intro V hSw; (try (have hF := HSX.out V hSw)); (try (cases hSw)); (try go_split_ands); go_simp; try with_reducible rfl)
  simp only [Act.put, List.setIfInBounds_toArray, List.set_cons_zero, List.set_cons_succ]
  refine take_ (i := 5) (d := some 16) (v := ?_) rfl rfl (by kernel_rfl) (by kernel_rfl) (by kernel_rfl) (fun _ _ _ h => h) (by rfl) ?_ (by first | rfl | trivial | assumption) ?_
  rotate_left
  · (intro V hSw; (try (have hF := HSX.out V hSw)); (try (cases hSw)); (try go_split_ands); go_simp; try with_reducible rfl)
  simp only [Act.put, List.setIfInBounds_toArray, List.set_cons_zero, List.set_cons_succ]
  refine take_ (i := 7) (d := some 18) (v := ?_) rfl rfl (by kernel_rfl) (by kernel_rfl) (by kernel_rfl) (fun _ _ _ h => h) (by rfl) ?_ (by first | rfl | trivial | assumption) ?_
  rotate_left
  · (intro V hSw; (try (have hF := HSX.out V hSw)); (try (cases hSw)); (try go_split_ands); go_simp; try with_reducible rfl)
  simp only [Act.put, List.setIfInBounds_toArray, List.set_cons_zero, List.set_cons_succ]
  refine take_ (i := 8) (d := some 19) (v := ?_) rfl rfl (by kernel_rfl) (by kernel_rfl) (by kernel_rfl) (fun _ _ _ h => h) (by rfl) ?_ (by first | rfl | trivial | assumption) ?_
  rotate_left
  · (intro V hSw; (try (have hF := HSX.out V hSw)); (try (cases hSw)); (try go_split_ands); go_simp; try with_reducible rfl)
  simp only [Act.put, List.setIfInBounds_toArray, List.set_cons_zero, List.set_cons_succ]
  refine wpAnyH_ready (rs := [3]) (by kernel_rfl) (by simp) ?_
  refine AllReadyH.cons (o := _) rfl (fun K hK => ?_) AllReadyH.nil
  go_simp
  obtain ⟨W, hW⟩ : ∃ W, W = (w1.alloc (.cells #[.string s, .int .i64 at_] 102)).drew := ⟨_, rfl⟩
  rw [← hW]
  have hownW : Own W (w.heap.size + 1 + 1) 102 2 (some ⟨w1.heap.size, 0, none⟩) 1 1 [.string s, .int .i64 at_] := by
    rw [hW]; exact Own.drew (Own.lit w1 #[.string s, .int .i64 at_] 1 (by omega) (by omega) rfl)
  rw [hz1] at hownW
  have hbW : Below (w.heap.size + 1) w1 W := by rw [hW]; exact ((Below.refl _ _).alloc (by omega) _).drew
  have hB2 : Blk W (w.heap.size + 1) 44 #[.slice none 0 0, .int .i64 0] := by rw [hW]; exact (by repeat (first | assumption | apply Blk.drewN | apply Blk.drew | apply Blk.alloc | (refine Blk.far_ ?_ ?_ _; rotate_left; omega)))
  have hrW : Rds W 2 A k (wcells ps) := HR.out.below (hb1.trans (hbW.mono (by omega)))
  have hzW : w.heap.size + 1 + 1 ≤ W.heap.size := by have := hbW.size; omega
  have hbwW : Below w.heap.size w W := hb1.trans (hbW.mono (by omega))
  clear hW
  refine hK.out _ _ hbW (fun _ => ?_)
  clear hK K
  refine wpAnyH_ready (rs := [6]) (by kernel_rfl) (by simp) ?_
  refine AllReadyH.cons (o := _) rfl (fun K hK => ?_) AllReadyH.nil
  with_reducible refine step_app' (some 17) rfl rfl (.tmp 14) (.tmp 16) 42 rfl 102 _ 2 24 infoPart Tryz.underlying42 rfl (by omega) rfl rfl hownW hrW HO.out (by omega) (by omega) hzW ?_
  intro A' c' w' hown' hg' _
  have hb5 : Below (w.heap.size + 1) w1 w' := Bel.grownOwn hbW hg' (hownW.mono (by omega)) (by omega)
  have hb6 : Below w.heap.size w w' := Bel.grownOwn hbwW hg' (hownW.mono (by omega)) (by omega)
  have hB' := hB2.grown hg' (hownW.ne (by omega))
  have HOW := Lib.hid ((hown'.far (grownBy_set w' (w.heap.size + 1) 0 (.slice A' (1 + k) c')) (.inr (hown'.ne (by omega)))).far (grownBy_set _ (w.heap.size + 1) 1 (.int .i64 x)) (.inr (hown'.ne (by omega))))
  refine hK.out _ _ hb5 (fun _ => ?_)
  clear hK K hownW hrW hg' hown'
  simp only [Act.put, List.setIfInBounds_toArray, List.set_cons_zero, List.set_cons_succ]
  obtain ⟨c0, c1, f0, f1⟩ := hB'.two
  refine take_ (i := 9) (d := some 20) (v := ?_) rfl rfl (by kernel_rfl) (by kernel_rfl) (by kernel_rfl) (fun _ _ _ h => h) (by rfl) ?_ (by first | rfl | trivial | assumption) ?_
  rotate_left
  · (intro V hSw; (try (have hF := HSX.out V hSw)); (try (cases hSw)); (try go_split_ands); go_simp; try with_reducible rfl)
  simp only [Act.put, List.setIfInBounds_toArray, List.set_cons_zero, List.set_cons_succ]
  refine wpAnyH_ready (rs := [10]) (by kernel_rfl) (by simp) ?_
  refine AllReadyH.cons (o := _) rfl (fun K hK => ?_) AllReadyH.nil
  go_simp
  refine hK.out _ _ ((hb5.setCell (by simp only; omega) _).setCell (by simp only; omega) _) (fun _ => ?_)
  clear hK K
  refine wpAnyH_done (by kernel_rfl) ?_ _
  go_wp2_with fail
  refine bodyPost_ret (v := .agg #[.slice A' (1 + k) c', .int .i64 x]) (by simp [results, Tryz.results83, go_sem, c0, c1]) rfl ?_
  exact ⟨A', c', rfl, Rds.rdW (l := (s, at_) :: ps) HOW.out.rds, fun b e => ⟨by have := (HOW.out.lt b e).1; omega, (HOW.out.lt b e).2⟩, (by repeat (first | exact Below.refl _ _ | assumption | apply Below.drew | apply below_drewN | apply Bel.alloc | (refine Bel.setCell_ ?_ ?_; rotate_left; omega) | (refine Bel.step ?_ (by assumption))))⟩
end Go.Proofs.YtgkeolddpielpaaGreatDoor

/- The document's There, WithTable. -/
namespace Go.Proofs.YtgkeolddpielpaaGreatDoor
open Go.RowKit

attribute [local go_sem ↓] Go.wp_at_zero Go.wp_at_succ

/-- Kept, and no smaller. -/
def KeptZ (G : Nat → Prop) (V W : World) : Prop := Kept G V W ∧ V.heap.size ≤ W.heap.size
theorem KeptZ.refl (G : Nat → Prop) (V : World) : KeptZ G V V := ⟨Kept.refl _ _, Nat.le_refl _⟩
theorem KeptZ.set {G : Nat → Prop} {V W : World} (h : KeptZ G V W) {g : Nat} (hg : ¬ G g) (i : Nat) (v : Value) : KeptZ G V (W.setCell ⟨g, i, none⟩ v) := ⟨h.1.trans (Kept.set W g i v hg) h.2, Nat.le_trans h.2 (by simp [World.setCell])⟩
theorem RdW.keepB {w w' : World} {A : Option Addr} {n : Nat} {l : List (ByteArray × Int)} (h : RdW w A n l) (hk : ∀ b, blkOf A = some b → w'.heap[b]? = w.heap[b]?) : RdW w' A n l :=
  ⟨h.1, fun i x hx => by
    obtain ⟨b, o, e, h1, h2⟩ := h.2 i x hx
    have hb := hk b (by rw [e]; rfl)
    exact ⟨b, o, e, cell_keep hb h1, cell_keep hb h2⟩⟩
theorem refAt_x (s : ByteArray) (k c : Int) (w : World) : Calls Tryz.prog 41 #[.string s, .int .i64 k, .int .i64 c] w fun e w' => ∃ A n m, e = .returned (.agg #[.slice A n m, .int .i64 c]) ∧ RdW w' A n [(s, k)] ∧ (∀ b, blkOf A = some b → w.heap.size ≤ b ∧ b < w'.heap.size) ∧ n ≤ 1000000 ∧ Below w.heap.size w w' := by
  go_enter Tryz.func41, Tryz.ntmps41
  go_wp2
  refine bodyPost_ret (v := .agg #[.slice (some ⟨w.heap.size + 1, 0, none⟩) 1 1, .int .i64 c]) (by simp [results, Tryz.results41, go_sem]) rfl ?_
  refine ⟨_, 1, 1, rfl, ⟨rfl, fun i x hx => ?_⟩, fun b e => ?_, by omega, (by repeat (first | exact Below.refl _ _ | assumption | apply Below.drew | apply below_drewN | apply Bel.alloc | (refine Bel.setCell_ ?_ ?_; rotate_left; omega) | (refine Bel.step ?_ (by assumption))))⟩
  · match i, hx with
    | 0, hx => cases hx; exact ⟨_, _, rfl, by simp, by simp⟩
    | i + 1, hx => simp at hx
  · have e : w.heap.size + 1 = b := Option.some.inj e
    subst e
    exact ⟨by omega, by simp⟩
theorem refThere_ok (A B C : Option Addr) (n m k c d e : Nat) (a : Int) (w : World) (h0 : 0 ≤ a) (h1 : a < m) :
    Calls Tryz.prog 77 #[.agg #[.slice A n c, .slice B m d, .slice C k e], .int .i64 a] w fun r w' => r = .returned (.bool true) ∧ Below w.heap.size w w' := by
  go_enter Tryz.func77, Tryz.ntmps77
  go_wp2
  go_ret
  exact ⟨ret_bool (by first | (simp; done) | (simp; omega)), (by repeat (first | exact Below.refl _ _ | assumption | apply Below.drew | apply below_drewN | apply Bel.alloc | (refine Bel.setCell_ ?_ ?_; rotate_left; omega) | (refine Bel.step ?_ (by assumption))))⟩
theorem refThere_no (A B C : Option Addr) (n m k c d e : Nat) (a : Int) (w : World) (h1 : ¬ (0 ≤ a ∧ a < m)) :
    Calls Tryz.prog 77 #[.agg #[.slice A n c, .slice B m d, .slice C k e], .int .i64 a] w fun r w' => r = .returned (.bool false) ∧ Below w.heap.size w w' := by
  by_cases h0 : 0 ≤ a
  · have h2 : ¬ a < m := by omega
    clear h1
    go_enter Tryz.func77, Tryz.ntmps77
    go_wp2
    go_ret
    exact ⟨ret_bool (by first | (simp; done) | (simp; omega)), (by repeat (first | exact Below.refl _ _ | assumption | apply Below.drew | apply below_drewN | apply Bel.alloc | (refine Bel.setCell_ ?_ ?_; rotate_left; omega) | (refine Bel.step ?_ (by assumption))))⟩
  · clear h1
    go_enter Tryz.func77, Tryz.ntmps77
    go_wp2
    go_ret
    exact ⟨ret_bool (by first | (simp; done) | (simp; omega)), (by repeat (first | exact Below.refl _ _ | assumption | apply Below.drew | apply below_drewN | apply Bel.alloc | (refine Bel.setCell_ ?_ ?_; rotate_left; omega) | (refine Bel.step ?_ (by assumption))))⟩

set_option maxHeartbeats 1000000 in
theorem refWith_ok (A : Option Addr) (n c p q i o : Nat) (cs : List Int) (u : Int) (w : World) (h : RdI w A n cs) (ht : TabOk ⟨p, q, cs⟩) (hi : i < p) (ho : o < q) (hu : wOk u = true) :
    Calls Tryz.prog 82 #[.agg #[.int .i64 p, .int .i64 q, .slice A n c], .int .i64 i, .int .i64 o, .int .i64 u] w fun e w' => ∃ A' c', e = .returned (.tuple #[.agg #[.int .i64 p, .int .i64 q, .slice A' n c'], .agg #[.slice none 0 0, .int .i64 0]]) ∧ Own w' w.heap.size 2 1 A' n c' (icells (cs.set (i * q + o) u)) ∧ Below w.heap.size w w' := by
  have hlen : (n : Int) = (p : Int) * (q : Int) := by have := ht.len; simp only at this; rw [h.1] at this; exact this
  have hkn := turn_at hlen hi ho
  have hm := mul_bd ht.i0 ht.i16 ht.o0 ht.o16
  simp only at hm
  have hn : n ≤ 256 := by omega
  have HR := Lib.hid (fun (V : World) (hV : Below w.heap.size w V) => (h.below hV).rdsI)
  have HW := Lib.hid (show ∀ V, Calls Tryz.prog 78 #[.int .i64 u] V fun e w' => e = .returned (.bool true) ∧ V = w' from fun V => by
    have := refWeight_any u V
    rw [hu] at this
    exact this)
  have hq16 : q ≤ 16 := by have := ht.o16; simp only at this; omega
  have hp16 : p ≤ 16 := by have := ht.i16; simp only at this; omega
  obtain ⟨k0, hk0⟩ : ∃ k0, k0 = i * q := ⟨_, rfl⟩
  obtain ⟨k, hk⟩ : ∃ k, k = i * q + o := ⟨_, rfl⟩
  rw [← hk] at hkn
  have m1 : (i : Int) * (q : Int) = (k0 : Int) := by rw [hk0]; simp
  have m2 : (k0 : Int) + (o : Int) = (k : Int) := by omega
  have wk0 : IntKind.i64.wrap (k0 : Int) = (k0 : Int) := IntWalk.i64_in _ (by omega)
  have wk : IntKind.i64.wrap (k : Int) = (k : Int) := IntWalk.i64_in _ (by omega)
  have i1 : ¬ ((i : Int) < 0) := by omega
  have i2 : ¬ ((p : Int) ≤ (i : Int)) := by omega
  have i3 : ¬ ((o : Int) < 0) := by omega
  have i4 : ¬ ((q : Int) ≤ (o : Int)) := by omega
  have i5 : (0 : Int) ≤ (k : Int) := by omega
  have i6 : (k : Int) < (n : Int) := by omega
  rw [← hk]
  have HKN := Lib.hid hkn
  clear h ht hu hlen hm hk0 hk hkn hi ho hq16 hp16
  go_enter Tryz.func82, Tryz.ntmps82
  go_wp2_with fail
  (refine calls_named ?_; intro w1 hw1)
  have hb1 : Below w.heap.size w w1 := by rw [hw1]; exact (by repeat (first | exact Below.refl _ _ | assumption | apply Below.drew | apply below_drewN | apply Bel.alloc | (refine Bel.setCell_ ?_ ?_; rotate_left; omega) | (refine Bel.step ?_ (by assumption))))
  have hT1 : Blk w1 w.heap.size 117 #[.int .i64 p, .int .i64 q, .slice A n c] := by rw [hw1]; exact (by repeat (first | assumption | (refine Blk.new' _ _ _ ?_; first | with_unfolding_all rfl | (simp; done)) | apply Blk.drewN | apply Blk.drew | apply Blk.alloc | (refine Blk.far_ ?_ ?_ _; rotate_left; omega)))
  have hR1 : Blk w1 (w.heap.size + 1) 117 #[.int .i64 0, .int .i64 0, .slice none 0 0] := by rw [hw1]; exact (by repeat (first | assumption | (refine Blk.new' _ _ _ ?_; first | with_unfolding_all rfl | (simp; done)) | apply Blk.drewN | apply Blk.drew | apply Blk.alloc | (refine Blk.far_ ?_ ?_ _; rotate_left; omega)))
  have hX1 : Blk w1 (w.heap.size + 1 + 1) 44 #[.slice none 0 0, .int .i64 0] := by rw [hw1]; exact (by repeat (first | assumption | (refine Blk.new' _ _ _ ?_; first | with_unfolding_all rfl | (simp; done)) | apply Blk.drewN | apply Blk.drew | apply Blk.alloc | (refine Blk.far_ ?_ ?_ _; rotate_left; omega)))
  have hz1 : w.heap.size + 3 ≤ w1.heap.size := by rw [hw1]; simp
  clear hw1
  with_reducible refine (HW.out _).mono ?_
  rintro r w' ⟨rfl, rfl⟩
  obtain ⟨t0, t1, t2⟩ := hT1.three
  have zT := hT1.lt
  have hown0 : Own (w1.alloc (.cells #[] 2)) w1.heap.size 2 1 (some ⟨w1.heap.size, 0, none⟩) 0 0 [] := Own.lit w1 #[] 0 (Nat.le_refl _) (by omega) rfl
  have hba : Below w1.heap.size w1 (w1.alloc (.cells #[] 2)) := (Below.refl _ _).alloc (Nat.le_refl _) _
  have hra := HR.out _ (Bel.step hb1 hba)
  go_wp2_with (at_builtin; with_reducible refine wpList_app rfl (.tmp 39) (.tmp 41) 115 rfl 2 _ 1 8 infoI64 Tryz.underlying115 rfl (by omega) (B := w1.heap.size) rfl rfl hown0 hra (icells_one _) (by omega) (by omega) (by simp) ?_)
  intro A' c' w2 hown hg _
  have hb2 : Below w1.heap.size w1 w2 := Bel.grownOwn hba hg hown0 (by simp)
  try simp only [Nat.zero_add, List.nil_append] at hown
  have hown := hown.mono hz1
  clear hown0 hba hra hg t0 t1 t2 zT
  have hb2' := Bel.step hb1 hb2
  have hT2 := hT1.below hb2 hT1.lt
  have hR2 := hR1.below hb2 hR1.lt
  have hX2 := hX1.below hb2 hX1.lt
  clear hT1 hR1 hX1 hb1 hb2
  obtain ⟨gb, cur, rfl, hg0, hgb, _, hcz, hcu⟩ := hown.block (by have := HKN.out; omega)
  obtain ⟨t0, t1, t2⟩ := hT2.three
  have ne1 : ¬ gb = w.heap.size := by omega
  have ne2 : ¬ w.heap.size = gb := by omega
  obtain ⟨v0, hv0⟩ : ∃ v0, cur[k]? = some v0 := ⟨_, Array.getElem?_eq_getElem (by have := HKN.out; omega)⟩
  have ck : w2.cell? ⟨gb, k, none⟩ = some v0 := by rw [hgb.cell]; exact hv0
  have fk := hgb.frozen k
  obtain ⟨r0, r1, r2⟩ := hR2.three
  have fr0 := hR2.frozen 0
  have fr1 := hR2.frozen 1
  have fr2 := hR2.frozen 2
  obtain ⟨x0, x1, fx0, fx1⟩ := hX2.two
  have HO := Lib.hid (hown.setAt (k := k) (.int .i64 u))
  clear hown hgb hcz hcu hv0
  go_wp2_with fail
  refine bodyPost_ret (v := .tuple #[.agg #[.int .i64 p, .int .i64 q, .slice (some ⟨gb, 0, none⟩) n c'], .agg #[.slice none 0 0, .int .i64 0]]) (by simp [results, Tryz.results82, go_sem, r0, r1, r2, x0, x1]) rfl ?_
  refine ⟨_, _, rfl, ?_, (((((hb2'.setCell (by simp only; omega) _).setCell (by simp only; omega) _).setCell (by simp only; omega) _).setCell (by simp only; omega) _).setCell (by simp only; omega) _).setCell (by simp only; omega) _⟩
  have h1 := HO.out
  rw [Nat.zero_add, icells_setAt] at h1
  exact Own.mono (ownsRow_setCell_below (ownsRow_setCell_below (ownsRow_setCell_below (ownsRow_setCell_below (ownsRow_setCell_below h1 (a := ⟨w.heap.size + 1, 0, none⟩) (by simp only; omega) _) (a := ⟨w.heap.size + 1, 1, none⟩) (by simp only; omega) _) (a := ⟨w.heap.size + 1, 2, none⟩) (by simp only; omega) _) (a := ⟨w.heap.size + 1 + 1, 0, none⟩) (by simp only; omega) _) (a := ⟨w.heap.size + 1 + 1, 1, none⟩) (by simp only; omega) _) (by omega)
set_option maxHeartbeats 1000000 in
theorem refWith_no (A : Option Addr) (n c : Nat) (p q i o u x y : Int) (w : World) (h : withNo p q i o u = some (x, y)) :
    Calls Tryz.prog 82 #[.agg #[.int .i64 p, .int .i64 q, .slice A n c], .int .i64 i, .int .i64 o, .int .i64 u] w fun e w' => ∃ A' n' c', e = .returned (.tuple #[.agg #[.int .i64 0, .int .i64 0, .slice none 0 0], .agg #[.slice A' n' c', .int .i64 y]]) ∧ RdW w' A' n' [((⟨#[116, 117, 114, 110]⟩ : ByteArray), x)] ∧ n' ≤ 1000000 ∧ Below w.heap.size w w' := by
  unfold withNo at h
  by_cases i1 : i < 0
  · rw [if_pos (.inl i1)] at h
    cases h
    go_enter Tryz.func82, Tryz.ntmps82
    go_wp2_with fail
    (refine calls_named ?_; intro w1 hw1)
    have hb1 : Below w.heap.size w w1 := by rw [hw1]; exact (by repeat (first | exact Below.refl _ _ | assumption | apply Below.drew | apply below_drewN | apply Bel.alloc | (refine Bel.setCell_ ?_ ?_; rotate_left; omega) | (refine Bel.step ?_ (by assumption))))
    have hR1 : Blk w1 (w.heap.size + 1) 117 #[.int .i64 0, .int .i64 0, .slice none 0 0] := by rw [hw1]; exact (by repeat (first | assumption | (refine Blk.new' _ _ _ ?_; first | with_unfolding_all rfl | (simp; done)) | apply Blk.drewN | apply Blk.drew | apply Blk.alloc | (refine Blk.far_ ?_ ?_ _; rotate_left; omega)))
    have hX1 : Blk w1 (w.heap.size + 1 + 1) 44 #[.slice none 0 0, .int .i64 0] := by rw [hw1]; exact (by repeat (first | assumption | (refine Blk.new' _ _ _ ?_; first | with_unfolding_all rfl | (simp; done)) | apply Blk.drewN | apply Blk.drew | apply Blk.alloc | (refine Blk.far_ ?_ ?_ _; rotate_left; omega)))
    have hz1 : w.heap.size + 3 ≤ w1.heap.size := by rw [hw1]; simp
    clear hw1
    with_reducible refine (refAt_x _ _ _ _).mono ?_
    rintro r w2 ⟨A4, n4, m4, rfl, h4, hA4, h5, hb⟩
    have hb2 := Bel.step hb1 hb
    have hR2 := hR1.below hb hR1.lt
    have hX2 := hX1.below hb hX1.lt
    clear hb hR1 hX1 hb1
    obtain ⟨r0, r1, r2⟩ := hR2.three
    have fr0 := hR2.frozen 0
    have fr1 := hR2.frozen 1
    have fr2 := hR2.frozen 2
    obtain ⟨x0, x1, fx0, fx1⟩ := hX2.two
    have HRW := Lib.hid (show RdW (((((w2.setCell ⟨w.heap.size + 1, 0, none⟩ (.int .i64 0)).setCell ⟨w.heap.size + 1, 1, none⟩ (.int .i64 0)).setCell ⟨w.heap.size + 1, 2, none⟩ (.slice none 0 0)).setCell ⟨w.heap.size + 1 + 1, 0, none⟩ (.slice A4 n4 m4)).setCell ⟨w.heap.size + 1 + 1, 1, none⟩ (.int .i64 5)) A4 n4 _ from
      RdW.keepB h4 (fun b hb => (((((KeptZ.refl (fun x => w1.heap.size ≤ x) w2).set (by omega) _ _).set (by omega) _ _).set (by omega) _ _).set (by omega) _ _).set (by omega) _ _ |>.1 b (hA4 b hb).1 (hA4 b hb).2))
    clear h4
    go_wp2_with fail
    refine bodyPost_ret (v := .tuple #[.agg #[.int .i64 0, .int .i64 0, .slice none 0 0], .agg #[.slice A4 n4 m4, .int .i64 5]]) (by simp [results, Tryz.results82, go_sem, r0, r1, r2, x0, x1]) rfl ?_
    exact ⟨_, _, _, rfl, HRW.out, h5, ((((hb2.setCell (by simp only; omega) _).setCell (by simp only; omega) _).setCell (by simp only; omega) _).setCell (by simp only; omega) _).setCell (by simp only; omega) _⟩
  by_cases i2 : p ≤ i
  · rw [if_pos (.inr i2)] at h
    cases h
    go_enter Tryz.func82, Tryz.ntmps82
    go_wp2_with fail
    (refine calls_named ?_; intro w1 hw1)
    have hb1 : Below w.heap.size w w1 := by rw [hw1]; exact (by repeat (first | exact Below.refl _ _ | assumption | apply Below.drew | apply below_drewN | apply Bel.alloc | (refine Bel.setCell_ ?_ ?_; rotate_left; omega) | (refine Bel.step ?_ (by assumption))))
    have hR1 : Blk w1 (w.heap.size + 1) 117 #[.int .i64 0, .int .i64 0, .slice none 0 0] := by rw [hw1]; exact (by repeat (first | assumption | (refine Blk.new' _ _ _ ?_; first | with_unfolding_all rfl | (simp; done)) | apply Blk.drewN | apply Blk.drew | apply Blk.alloc | (refine Blk.far_ ?_ ?_ _; rotate_left; omega)))
    have hX1 : Blk w1 (w.heap.size + 1 + 1) 44 #[.slice none 0 0, .int .i64 0] := by rw [hw1]; exact (by repeat (first | assumption | (refine Blk.new' _ _ _ ?_; first | with_unfolding_all rfl | (simp; done)) | apply Blk.drewN | apply Blk.drew | apply Blk.alloc | (refine Blk.far_ ?_ ?_ _; rotate_left; omega)))
    have hz1 : w.heap.size + 3 ≤ w1.heap.size := by rw [hw1]; simp
    clear hw1
    with_reducible refine (refAt_x _ _ _ _).mono ?_
    rintro r w2 ⟨A4, n4, m4, rfl, h4, hA4, h5, hb⟩
    have hb2 := Bel.step hb1 hb
    have hR2 := hR1.below hb hR1.lt
    have hX2 := hX1.below hb hX1.lt
    clear hb hR1 hX1 hb1
    obtain ⟨r0, r1, r2⟩ := hR2.three
    have fr0 := hR2.frozen 0
    have fr1 := hR2.frozen 1
    have fr2 := hR2.frozen 2
    obtain ⟨x0, x1, fx0, fx1⟩ := hX2.two
    have HRW := Lib.hid (show RdW (((((w2.setCell ⟨w.heap.size + 1, 0, none⟩ (.int .i64 0)).setCell ⟨w.heap.size + 1, 1, none⟩ (.int .i64 0)).setCell ⟨w.heap.size + 1, 2, none⟩ (.slice none 0 0)).setCell ⟨w.heap.size + 1 + 1, 0, none⟩ (.slice A4 n4 m4)).setCell ⟨w.heap.size + 1 + 1, 1, none⟩ (.int .i64 5)) A4 n4 _ from
      RdW.keepB h4 (fun b hb => (((((KeptZ.refl (fun x => w1.heap.size ≤ x) w2).set (by omega) _ _).set (by omega) _ _).set (by omega) _ _).set (by omega) _ _).set (by omega) _ _ |>.1 b (hA4 b hb).1 (hA4 b hb).2))
    clear h4
    go_wp2_with fail
    refine bodyPost_ret (v := .tuple #[.agg #[.int .i64 0, .int .i64 0, .slice none 0 0], .agg #[.slice A4 n4 m4, .int .i64 5]]) (by simp [results, Tryz.results82, go_sem, r0, r1, r2, x0, x1]) rfl ?_
    exact ⟨_, _, _, rfl, HRW.out, h5, ((((hb2.setCell (by simp only; omega) _).setCell (by simp only; omega) _).setCell (by simp only; omega) _).setCell (by simp only; omega) _).setCell (by simp only; omega) _⟩
  rw [if_neg (by omega)] at h
  by_cases o1 : o < 0
  · rw [if_pos (.inl o1)] at h
    cases h
    go_enter Tryz.func82, Tryz.ntmps82
    go_wp2_with fail
    (refine calls_named ?_; intro w1 hw1)
    have hb1 : Below w.heap.size w w1 := by rw [hw1]; exact (by repeat (first | exact Below.refl _ _ | assumption | apply Below.drew | apply below_drewN | apply Bel.alloc | (refine Bel.setCell_ ?_ ?_; rotate_left; omega) | (refine Bel.step ?_ (by assumption))))
    have hR1 : Blk w1 (w.heap.size + 1) 117 #[.int .i64 0, .int .i64 0, .slice none 0 0] := by rw [hw1]; exact (by repeat (first | assumption | (refine Blk.new' _ _ _ ?_; first | with_unfolding_all rfl | (simp; done)) | apply Blk.drewN | apply Blk.drew | apply Blk.alloc | (refine Blk.far_ ?_ ?_ _; rotate_left; omega)))
    have hX1 : Blk w1 (w.heap.size + 1 + 1) 44 #[.slice none 0 0, .int .i64 0] := by rw [hw1]; exact (by repeat (first | assumption | (refine Blk.new' _ _ _ ?_; first | with_unfolding_all rfl | (simp; done)) | apply Blk.drewN | apply Blk.drew | apply Blk.alloc | (refine Blk.far_ ?_ ?_ _; rotate_left; omega)))
    have hz1 : w.heap.size + 3 ≤ w1.heap.size := by rw [hw1]; simp
    clear hw1
    with_reducible refine (refAt_x _ _ _ _).mono ?_
    rintro r w2 ⟨A4, n4, m4, rfl, h4, hA4, h5, hb⟩
    have hb2 := Bel.step hb1 hb
    have hR2 := hR1.below hb hR1.lt
    have hX2 := hX1.below hb hX1.lt
    clear hb hR1 hX1 hb1
    obtain ⟨r0, r1, r2⟩ := hR2.three
    have fr0 := hR2.frozen 0
    have fr1 := hR2.frozen 1
    have fr2 := hR2.frozen 2
    obtain ⟨x0, x1, fx0, fx1⟩ := hX2.two
    have HRW := Lib.hid (show RdW (((((w2.setCell ⟨w.heap.size + 1, 0, none⟩ (.int .i64 0)).setCell ⟨w.heap.size + 1, 1, none⟩ (.int .i64 0)).setCell ⟨w.heap.size + 1, 2, none⟩ (.slice none 0 0)).setCell ⟨w.heap.size + 1 + 1, 0, none⟩ (.slice A4 n4 m4)).setCell ⟨w.heap.size + 1 + 1, 1, none⟩ (.int .i64 5)) A4 n4 _ from
      RdW.keepB h4 (fun b hb => (((((KeptZ.refl (fun x => w1.heap.size ≤ x) w2).set (by omega) _ _).set (by omega) _ _).set (by omega) _ _).set (by omega) _ _).set (by omega) _ _ |>.1 b (hA4 b hb).1 (hA4 b hb).2))
    clear h4
    go_wp2_with fail
    refine bodyPost_ret (v := .tuple #[.agg #[.int .i64 0, .int .i64 0, .slice none 0 0], .agg #[.slice A4 n4 m4, .int .i64 5]]) (by simp [results, Tryz.results82, go_sem, r0, r1, r2, x0, x1]) rfl ?_
    exact ⟨_, _, _, rfl, HRW.out, h5, ((((hb2.setCell (by simp only; omega) _).setCell (by simp only; omega) _).setCell (by simp only; omega) _).setCell (by simp only; omega) _).setCell (by simp only; omega) _⟩
  by_cases o2 : q ≤ o
  · rw [if_pos (.inr o2)] at h
    cases h
    go_enter Tryz.func82, Tryz.ntmps82
    go_wp2_with fail
    (refine calls_named ?_; intro w1 hw1)
    have hb1 : Below w.heap.size w w1 := by rw [hw1]; exact (by repeat (first | exact Below.refl _ _ | assumption | apply Below.drew | apply below_drewN | apply Bel.alloc | (refine Bel.setCell_ ?_ ?_; rotate_left; omega) | (refine Bel.step ?_ (by assumption))))
    have hR1 : Blk w1 (w.heap.size + 1) 117 #[.int .i64 0, .int .i64 0, .slice none 0 0] := by rw [hw1]; exact (by repeat (first | assumption | (refine Blk.new' _ _ _ ?_; first | with_unfolding_all rfl | (simp; done)) | apply Blk.drewN | apply Blk.drew | apply Blk.alloc | (refine Blk.far_ ?_ ?_ _; rotate_left; omega)))
    have hX1 : Blk w1 (w.heap.size + 1 + 1) 44 #[.slice none 0 0, .int .i64 0] := by rw [hw1]; exact (by repeat (first | assumption | (refine Blk.new' _ _ _ ?_; first | with_unfolding_all rfl | (simp; done)) | apply Blk.drewN | apply Blk.drew | apply Blk.alloc | (refine Blk.far_ ?_ ?_ _; rotate_left; omega)))
    have hz1 : w.heap.size + 3 ≤ w1.heap.size := by rw [hw1]; simp
    clear hw1
    with_reducible refine (refAt_x _ _ _ _).mono ?_
    rintro r w2 ⟨A4, n4, m4, rfl, h4, hA4, h5, hb⟩
    have hb2 := Bel.step hb1 hb
    have hR2 := hR1.below hb hR1.lt
    have hX2 := hX1.below hb hX1.lt
    clear hb hR1 hX1 hb1
    obtain ⟨r0, r1, r2⟩ := hR2.three
    have fr0 := hR2.frozen 0
    have fr1 := hR2.frozen 1
    have fr2 := hR2.frozen 2
    obtain ⟨x0, x1, fx0, fx1⟩ := hX2.two
    have HRW := Lib.hid (show RdW (((((w2.setCell ⟨w.heap.size + 1, 0, none⟩ (.int .i64 0)).setCell ⟨w.heap.size + 1, 1, none⟩ (.int .i64 0)).setCell ⟨w.heap.size + 1, 2, none⟩ (.slice none 0 0)).setCell ⟨w.heap.size + 1 + 1, 0, none⟩ (.slice A4 n4 m4)).setCell ⟨w.heap.size + 1 + 1, 1, none⟩ (.int .i64 5)) A4 n4 _ from
      RdW.keepB h4 (fun b hb => (((((KeptZ.refl (fun x => w1.heap.size ≤ x) w2).set (by omega) _ _).set (by omega) _ _).set (by omega) _ _).set (by omega) _ _).set (by omega) _ _ |>.1 b (hA4 b hb).1 (hA4 b hb).2))
    clear h4
    go_wp2_with fail
    refine bodyPost_ret (v := .tuple #[.agg #[.int .i64 0, .int .i64 0, .slice none 0 0], .agg #[.slice A4 n4 m4, .int .i64 5]]) (by simp [results, Tryz.results82, go_sem, r0, r1, r2, x0, x1]) rfl ?_
    exact ⟨_, _, _, rfl, HRW.out, h5, ((((hb2.setCell (by simp only; omega) _).setCell (by simp only; omega) _).setCell (by simp only; omega) _).setCell (by simp only; omega) _).setCell (by simp only; omega) _⟩
  rw [if_neg (by omega)] at h
  cases hu : wOk u
  · rw [if_pos hu] at h
    cases h
    have HW := Lib.hid (show ∀ V, Calls Tryz.prog 78 #[.int .i64 u] V fun e w' => e = .returned (.bool false) ∧ V = w' from fun V => by
      have := refWeight_any u V
      rw [hu] at this
      exact this)
    clear hu
    go_enter Tryz.func82, Tryz.ntmps82
    go_wp2_with fail
    with_reducible refine (HW.out _).mono ?_
    rintro r w' ⟨rfl, rfl⟩
    go_wp2_with fail
    (refine calls_named ?_; intro w1 hw1)
    have hb1 : Below w.heap.size w w1 := by rw [hw1]; exact (by repeat (first | exact Below.refl _ _ | assumption | apply Below.drew | apply below_drewN | apply Bel.alloc | (refine Bel.setCell_ ?_ ?_; rotate_left; omega) | (refine Bel.step ?_ (by assumption))))
    have hR1 : Blk w1 (w.heap.size + 1) 117 #[.int .i64 0, .int .i64 0, .slice none 0 0] := by rw [hw1]; exact (by repeat (first | assumption | (refine Blk.new' _ _ _ ?_; first | with_unfolding_all rfl | (simp; done)) | apply Blk.drewN | apply Blk.drew | apply Blk.alloc | (refine Blk.far_ ?_ ?_ _; rotate_left; omega)))
    have hX1 : Blk w1 (w.heap.size + 1 + 1) 44 #[.slice none 0 0, .int .i64 0] := by rw [hw1]; exact (by repeat (first | assumption | (refine Blk.new' _ _ _ ?_; first | with_unfolding_all rfl | (simp; done)) | apply Blk.drewN | apply Blk.drew | apply Blk.alloc | (refine Blk.far_ ?_ ?_ _; rotate_left; omega)))
    have hz1 : w.heap.size + 3 ≤ w1.heap.size := by rw [hw1]; simp
    clear hw1
    with_reducible refine (refAt_x _ _ _ _).mono ?_
    rintro r w2 ⟨A4, n4, m4, rfl, h4, hA4, h5, hb⟩
    have hb2 := Bel.step hb1 hb
    have hR2 := hR1.below hb hR1.lt
    have hX2 := hX1.below hb hX1.lt
    clear hb hR1 hX1 hb1
    obtain ⟨r0, r1, r2⟩ := hR2.three
    have fr0 := hR2.frozen 0
    have fr1 := hR2.frozen 1
    have fr2 := hR2.frozen 2
    obtain ⟨x0, x1, fx0, fx1⟩ := hX2.two
    have HRW := Lib.hid (show RdW (((((w2.setCell ⟨w.heap.size + 1, 0, none⟩ (.int .i64 0)).setCell ⟨w.heap.size + 1, 1, none⟩ (.int .i64 0)).setCell ⟨w.heap.size + 1, 2, none⟩ (.slice none 0 0)).setCell ⟨w.heap.size + 1 + 1, 0, none⟩ (.slice A4 n4 m4)).setCell ⟨w.heap.size + 1 + 1, 1, none⟩ (.int .i64 8)) A4 n4 _ from
      RdW.keepB h4 (fun b hb => (((((KeptZ.refl (fun x => w1.heap.size ≤ x) w2).set (by omega) _ _).set (by omega) _ _).set (by omega) _ _).set (by omega) _ _).set (by omega) _ _ |>.1 b (hA4 b hb).1 (hA4 b hb).2))
    clear h4
    go_wp2_with fail
    refine bodyPost_ret (v := .tuple #[.agg #[.int .i64 0, .int .i64 0, .slice none 0 0], .agg #[.slice A4 n4 m4, .int .i64 8]]) (by simp [results, Tryz.results82, go_sem, r0, r1, r2, x0, x1]) rfl ?_
    exact ⟨_, _, _, rfl, HRW.out, h5, ((((hb2.setCell (by simp only; omega) _).setCell (by simp only; omega) _).setCell (by simp only; omega) _).setCell (by simp only; omega) _).setCell (by simp only; omega) _⟩
  · rw [if_neg (by rw [hu]; simp)] at h
    cases h
end Go.Proofs.YtgkeolddpielpaaGreatDoor
