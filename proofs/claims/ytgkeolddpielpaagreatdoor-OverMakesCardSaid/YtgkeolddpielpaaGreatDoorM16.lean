/- Parts of the proof: Nt9R, Cp. -/
import Derived.Test.YtgkeolddpielpaaGreatDoorM15
/- The document's tables in a row of the call's own. -/
namespace Go.Proofs.YtgkeolddpielpaaGreatDoor
open Go.RowKit

/-- The document's tables in a row of the call's own; their costs lie elsewhere. -/
def YwR (W : World) (B : Nat) (A : Option Addr) (n c : Nat) (xs : List Value) (ls : List TabD) : Prop :=
  Own W B 117 3 A n c xs ∧ ls.length = n ∧ ∀ j t, ls[j]? = some t → ∃ A2 n2 c2, xs[j * 3]? = some (.int .i64 t.ins) ∧ xs[j * 3 + 1]? = some (.int .i64 t.outs) ∧ xs[j * 3 + 2]? = some (.slice A2 n2 c2) ∧ RdI W A2 n2 t.costs ∧ (∀ g, blkOf A2 = some g → B ≤ g ∧ g < W.heap.size ∧ blkOf A ≠ some g) ∧ n2 ≤ c2 ∧ c2 ≤ 9223372036854775807
theorem YwR.nil (W : World) (B : Nat) : YwR W B none 0 0 [] [] := ⟨Own.nil _ _ _ _, rfl, fun j l h => by simp at h⟩
theorem YwR.rdY {W : World} {B n c : Nat} {A : Option Addr} {xs : List Value} {ls : List TabD} (h : YwR W B A n c xs ls) : RdY W A n ls :=
  ⟨h.2.1, fun i t ht => by
    obtain ⟨A2, n2, c2, h1, h2, h3, h4, _, h5, h6⟩ := h.2.2 i t ht
    obtain ⟨b, o, e, k1⟩ := h.1.rds.2 _ _ h1
    obtain ⟨b', o', e', k2⟩ := h.1.rds.2 _ _ h2
    rw [e] at e'; cases e'
    obtain ⟨b', o', e', k3⟩ := h.1.rds.2 _ _ h3
    rw [e] at e'; cases e'
    exact ⟨b, o, e, k1, by rw [Nat.add_assoc]; exact k2, A2, n2, c2, by rw [Nat.add_assoc]; exact k3, h4, h5, h6⟩⟩
theorem YwR.push {W w' : World} {B n c c' m d : Nat} {A A' R : Option Addr} {xs : List Value} {ls : List TabD} {t : TabD} (h : YwR W B A n c xs ls)
    (hown : Own w' B 117 3 A' (n + 1) c' (xs ++ [.int .i64 t.ins, .int .i64 t.outs, .slice R m d])) (hg : W.grownBy w' (blkOf A)) (hat : blkOf A' = blkOf A ∨ blkOf A' = some W.heap.size)
    (hr : RdI W R m t.costs) (hne : ∀ g, blkOf R = some g → B ≤ g ∧ g < W.heap.size ∧ blkOf A ≠ some g) (h4 : m ≤ d) (h5 : d ≤ 9223372036854775807) : YwR w' B A' (n + 1) c' (xs ++ [.int .i64 t.ins, .int .i64 t.outs, .slice R m d]) (ls ++ [t]) := by
  have hxl : xs.length = ls.length * 3 := by rw [h.1.1, h.2.1]
  have new : ∀ Y : Option Addr, (∀ g, blkOf Y = some g → B ≤ g ∧ g < W.heap.size ∧ blkOf A ≠ some g) → ∀ g, blkOf Y = some g → B ≤ g ∧ g < w'.heap.size ∧ blkOf A' ≠ some g := fun Y hY g e => by
    obtain ⟨k0, k1, k2⟩ := hY g e
    refine ⟨k0, Nat.lt_of_lt_of_le k1 hg.size, fun e2 => ?_⟩
    rcases hat with hat | hat
    · exact k2 (by rw [← hat]; exact e2)
    · rw [hat] at e2
      injection e2 with e2
      omega
  refine ⟨hown, by simp [h.2.1], fun j t' hl => ?_⟩
  rcases Nat.lt_trichotomy j ls.length with hj | hj | hj
  · rw [List.getElem?_append_left hj] at hl
    obtain ⟨A2, n2, c2, p1, p2, p3, k2, k3, k4, k5⟩ := h.2.2 j t' hl
    exact ⟨A2, n2, c2, by rw [List.getElem?_append_left (by omega)]; exact p1, by rw [List.getElem?_append_left (by omega)]; exact p2, by rw [List.getElem?_append_left (by omega)]; exact p3, k2.grownN hg (fun g e => (k3 g e).2.2), new A2 k3, k4, k5⟩
  · subst hj
    rw [List.getElem?_append_right (Nat.le_refl _), Nat.sub_self] at hl
    cases hl
    refine ⟨R, m, d, ?_, ?_, ?_, hr.grownN hg (fun g e => (hne g e).2.2), new R hne, h4, h5⟩
    · rw [← hxl, List.getElem?_append_right (Nat.le_refl _), Nat.sub_self]; rfl
    · rw [← hxl, List.getElem?_append_right (by omega), Nat.add_sub_cancel_left]; rfl
    · rw [← hxl, List.getElem?_append_right (by omega), Nat.add_sub_cancel_left]; rfl
  · rw [List.getElem?_eq_none (by simp; omega)] at hl
    cases hl
theorem YwR.below {W W' : World} {B n c : Nat} {A : Option Addr} {xs : List Value} {ls : List TabD} (h : YwR W B A n c xs ls) (hb : Below W.heap.size W W') : YwR W' B A n c xs ls :=
  ⟨h.1.below hb, h.2.1, fun i l hl => by
    obtain ⟨A', n', c', p1, p2, p3, h2, h3, h4, h5⟩ := h.2.2 i l hl
    exact ⟨A', n', c', p1, p2, p3, h2.below hb, fun g hg => ⟨(h3 g hg).1, Nat.lt_of_lt_of_le (h3 g hg).2.1 hb.size, (h3 g hg).2.2⟩, h4, h5⟩⟩
theorem YwR.far {W W' : World} {B n c : Nat} {A : Option Addr} {xs : List Value} {ls : List TabD} (h : YwR W B A n c xs ls) {g : Nat} (hg : W.grownBy W' (some g)) (hB : g < B) : YwR W' B A n c xs ls :=
  ⟨h.1.far hg (.inr (fun e => by have := (h.1.lt g e).1; omega)), h.2.1, fun i l hl => by
    obtain ⟨A', n', c', p1, p2, p3, h2, h3, h4, h5⟩ := h.2.2 i l hl
    refine ⟨A', n', c', p1, p2, p3, h2.grownN hg (fun k hk e => ?_), fun k hk => ⟨(h3 k hk).1, Nat.lt_of_lt_of_le (h3 k hk).2.1 hg.size, (h3 k hk).2.2⟩, h4, h5⟩
    cases e
    have := (h3 g hk).1
    omega⟩
end Go.Proofs.YtgkeolddpielpaaGreatDoor

/- The document's CopyNet. -/
namespace Go.Proofs.YtgkeolddpielpaaGreatDoor
open Go.RowKit

attribute [local go_sem ↓] Go.wp_at_zero Go.wp_at_succ

theorem infoRV : (Tryz.prog.info? 119).map (fun i => (i.zero, i.size, i.bytes)) = some (some (.agg #[.int .i64 0, .int .i64 0, .int .i64 0]), 3, 24) := by kernel_rfl
theorem infoRA : (Tryz.prog.info? 121).map (fun i => (i.zero, i.size, i.bytes)) = some (some (.agg #[.int .i64 0, .int .i64 0, .int .i64 0]), 3, 24) := by kernel_rfl
theorem infoRT : (Tryz.prog.info? 117).map (fun i => (i.zero, i.size, i.bytes)) = some (some (.agg #[.int .i64 0, .int .i64 0, .slice none 0 0]), 3, 40) := by kernel_rfl
/-- What a copy is while it is made: vertices V, arcs A, perhaps its block. -/
structure CpS (w1 W : World) (V : Option Addr) (nv cv : Nat) (xv : List Value) (A : Option Addr) (na ca : Nat) (xa : List Value) (N : Option Nat) : Prop where
  bel : Below w1.heap.size w1 W
  v : Own W w1.heap.size 119 3 V nv cv xv
  a : Own W w1.heap.size 121 3 A na ca xa
  dj : ∀ g, blkOf V = some g → blkOf A ≠ some g
  nw : ∀ g, N = some g → Blk W g 26 #[.slice none 0 0, .slice none 0 0, .slice none 0 0] ∧ w1.heap.size ≤ g ∧ blkOf V ≠ some g ∧ blkOf A ≠ some g
section
variable {w1 W w' : World} {V A V' A' : Option Addr} {nv cv na ca nv' cv' na' ca' : Nat} {xv xa xv' xa' : List Value} {N : Option Nat}
theorem CpS.start (w1 : World) : CpS w1 w1.drew none 0 0 [] none 0 0 [] none := ⟨(Below.refl _ _).drew, Own.nil _ _ _ _, Own.nil _ _ _ _, fun g h => by (cases h), fun g h => by (cases h)⟩
theorem CpS.newV (h : CpS w1 W none 0 0 [] A na ca xa N) : CpS w1 (W.alloc (.cells #[] 119)) (some ⟨W.heap.size, 0, none⟩) 0 0 [] A na ca xa N where
  bel := h.bel.alloc h.bel.size _
  v := Own.lit W #[] 0 h.bel.size (by omega) rfl
  a := h.a.alloc _
  dj := fun g e e' => by have e : W.heap.size = g := Option.some.inj e; have := (h.a.lt _ e').2; omega
  nw := fun g e => by
    obtain ⟨h1, h2, h3, h4⟩ := h.nw g e
    exact ⟨h1.alloc _, h2, fun e' => by have e' : W.heap.size = g := Option.some.inj e'; have := h1.lt; omega, h4⟩
theorem CpS.newA (h : CpS w1 W V nv cv xv none 0 0 [] N) : CpS w1 (W.alloc (.cells #[] 121)) V nv cv xv (some ⟨W.heap.size, 0, none⟩) 0 0 [] N where
  bel := h.bel.alloc h.bel.size _
  v := h.v.alloc _
  a := Own.lit W #[] 0 h.bel.size (by omega) rfl
  dj := fun g e e' => by have e' : W.heap.size = g := Option.some.inj e'; have := (h.v.lt _ e).2; omega
  nw := fun g e => by
    obtain ⟨h1, h2, h3, h4⟩ := h.nw g e
    exact ⟨h1.alloc _, h2, h3, fun e' => by have e' : W.heap.size = g := Option.some.inj e'; have := h1.lt; omega⟩
theorem CpS.newN (h : CpS w1 W V nv cv xv A na ca xa none) : CpS w1 (W.alloc (.cells #[.slice none 0 0, .slice none 0 0, .slice none 0 0] 26)) V nv cv xv A na ca xa (some W.heap.size) where
  bel := h.bel.alloc h.bel.size _
  v := h.v.alloc _
  a := h.a.alloc _
  dj := h.dj
  nw := fun g e => by
    cases e
    exact ⟨Blk.new _ _ _, h.bel.size, fun e' => by have := (h.v.lt _ e').2; omega, fun e' => by have := (h.a.lt _ e').2; omega⟩
theorem CpS.growV (h : CpS w1 W V nv cv xv A na ca xa N) (ho : Own w' w1.heap.size 119 3 V' nv' cv' xv') (hg : W.grownBy w' (blkOf V)) (hat : blkOf V' = blkOf V ∨ blkOf V' = some W.heap.size) : CpS w1 w' V' nv' cv' xv' A na ca xa N where
  bel := Bel.grownOwn h.bel hg h.v h.bel.size
  v := ho
  a := h.a.far hg (by
    cases e : blkOf A with
    | none => exact .inl rfl
    | some g => exact .inr (fun e' => h.dj g e'.symm e))
  dj := fun g e e' => by
    rcases hat with hat | hat
    · exact h.dj g (by rw [← hat]; exact e) e'
    · rw [hat] at e; cases e; have := (h.a.lt _ e').2; omega
  nw := fun g e => by
    obtain ⟨h1, h2, h3, h4⟩ := h.nw g e
    refine ⟨h1.grown hg h3, h2, fun e' => ?_, h4⟩
    rcases hat with hat | hat
    · exact h3 (by rw [← hat]; exact e')
    · rw [hat] at e'; cases e'; have := h1.lt; omega
theorem CpS.growA (h : CpS w1 W V nv cv xv A na ca xa N) (ho : Own w' w1.heap.size 121 3 A' na' ca' xa') (hg : W.grownBy w' (blkOf A)) (hat : blkOf A' = blkOf A ∨ blkOf A' = some W.heap.size) : CpS w1 w' V nv cv xv A' na' ca' xa' N where
  bel := Bel.grownOwn h.bel hg h.a h.bel.size
  v := h.v.far hg (by
    cases e : blkOf V with
    | none => exact .inl rfl
    | some g => exact .inr (fun e' => h.dj g e e'.symm))
  a := ho
  dj := fun g e e' => by
    rcases hat with hat | hat
    · exact h.dj g e (by rw [← hat]; exact e')
    · rw [hat] at e'; cases e'; have := (h.v.lt _ e).2; omega
  nw := fun g e => by
    obtain ⟨h1, h2, h3, h4⟩ := h.nw g e
    refine ⟨h1.grown hg h4, h2, h3, fun e' => ?_⟩
    rcases hat with hat | hat
    · exact h4 (by rw [← hat]; exact e')
    · rw [hat] at e'; cases e'; have := h1.lt; omega
end
/-- What a table's copy is while it is made: costs R. -/
structure CyS (Wa W : World) (R : Option Addr) (nr cr : Nat) (xr : List Value) (T1 : Option Addr) (yt : List Value) : Prop where
  bel : Below Wa.heap.size Wa W
  r : Own W Wa.heap.size 2 1 R nr cr xr
  t1 : yt = [] ∨ Rds W 3 T1 1 yt
section
variable {Wa W w' : World} {R T1 R' : Option Addr} {nr cr nr' cr' : Nat} {xr xr' yt : List Value}
theorem CyS.start (w1 : World) : CyS w1 w1.drew none 0 0 [] none [] := ⟨(Below.refl _ _).drew, Own.nil _ _ _ _, .inl rfl⟩
theorem CyS.newR (h : CyS Wa W none 0 0 [] none []) : CyS Wa (W.alloc (.cells #[] 2)) (some ⟨W.heap.size, 0, none⟩) 0 0 [] none [] := ⟨h.bel.alloc h.bel.size _, Own.lit W #[] 0 h.bel.size (by omega) rfl, .inl rfl⟩
theorem CyS.growR (h : CyS Wa W R nr cr xr none []) (ho : Own w' Wa.heap.size 2 1 R' nr' cr' xr') (hg : W.grownBy w' (blkOf R)) : CyS Wa w' R' nr' cr' xr' none [] := ⟨Bel.grownOwn h.bel hg h.r h.bel.size, ho, .inl rfl⟩
theorem CyS.newT (h : CyS Wa W R nr cr xr none []) (a b c : Value) : CyS Wa (W.alloc (.cells #[a, b, c] 117)) R nr cr xr (some ⟨W.heap.size, 0, none⟩) [a, b, c] := ⟨h.bel.alloc h.bel.size _, h.r.alloc _, .inr ((Blk.new W 117 #[a, b, c]).rds rfl)⟩
end
def CyG (Wa : World) (C3 : Option Addr) (j e3 n' : Nat) (t : TabD) (v28 _v33 v36 v37 v38 : Value) (w' : World) : Prop :=
  ∃ (A2 : Option Addr) (c2 g : Nat), v28 = .slice C3 j e3 ∧ v36 = .slice A2 n' c2 ∧ v37 = .agg #[.int .i64 t.ins, .int .i64 t.outs, .slice A2 n' c2] ∧ v38 = .slice (some ⟨g, 0, none⟩) 1 1 ∧ CyS Wa w' A2 n' c2 (icells t.costs) (some ⟨g, 0, none⟩) [.int .i64 t.ins, .int .i64 t.outs, .slice A2 n' c2]
theorem CyG.of {Wa W : World} {C3 A2 : Option Addr} {j e3 n' c2 g : Nat} {t : TabD} {a : Value} (h : CyS Wa W A2 n' c2 (icells t.costs) (some ⟨g, 0, none⟩) [.int .i64 t.ins, .int .i64 t.outs, .slice A2 n' c2]) :
    CyG Wa C3 j e3 n' t (.slice C3 j e3) a (.slice A2 n' c2) (.agg #[.int .i64 t.ins, .int .i64 t.outs, .slice A2 n' c2]) (.slice (some ⟨g, 0, none⟩) 1 1) W := ⟨A2, c2, g, rfl, rfl, rfl, rfl, h⟩
theorem wpAnyH_five {P : Program} {ops : Array Oper} {Q : Exit → Act → World → Prop} {md : Region.Mode} {S : World → Prop} {G : Value → Value → Value → Value → Value → World → Prop} {L listed : Array Bool} {f0 fuel : Nat} {a : Act} {w : World} (d1 d2 d3 d4 d5 : Option Tmp) (hf : fuel = f0 + 5)
    (hA : ∀ C : Act → World → Prop, Shut (∀ v1 v2 v3 v4 v5 w', G v1 v2 v3 v4 v5 w' → C (((((a.put d1 v1).put d2 v2).put d3 v3).put d4 v4).put d5 v5) w') → wpC P md ops Q S L C 5 listed a w)
    (hB : ∀ v1 v2 v3 v4 v5 w', G v1 v2 v3 v4 v5 w' → wpAnyH P md ops Q S f0 L (((((a.put d1 v1).put d2 v2).put d3 v3).put d4 v4).put d5 v5) w') : wpAnyH P md ops Q S fuel listed a w := by
  subst hf
  exact wpC_run (C := fun a' w' => wpAnyH P md ops Q S f0 L a' w') (fun _ _ h => h) 5 listed a w (hA _ hB)
/-- Where all orders meet. -/
def CpG (w1 : World) (n m : Nat) (N : NetD) (_v6 v9 _v10 v13 v14 v3 : Value) (w' : World) : Prop :=
  ∃ (V A : Option Addr) (c1 c2 g : Nat), v9 = .slice V n c1 ∧ v13 = .slice A m c2 ∧ v14 = .agg #[.slice V n c1, .slice A m c2, .slice none 0 0] ∧ v3 = .pointer (some ⟨g, 0, none⟩) ∧ CpS w1 w' V n c1 (tcells N.vs) A m c2 (tcells N.ar) (some g)
theorem CpG.of {w1 W : World} {n m c1 c2 g : Nat} {N : NetD} {V A : Option Addr} {a b : Value} (h : CpS w1 W V n c1 (tcells N.vs) A m c2 (tcells N.ar) (some g)) :
    CpG w1 n m N a (.slice V n c1) b (.slice A m c2) (.agg #[.slice V n c1, .slice A m c2, .slice none 0 0]) (.pointer (some ⟨g, 0, none⟩)) W := ⟨V, A, c1, c2, g, rfl, rfl, rfl, rfl, h⟩
theorem wpAnyH_six {P : Program} {ops : Array Oper} {Q : Exit → Act → World → Prop} {md : Region.Mode} {S : World → Prop} {G : Value → Value → Value → Value → Value → Value → World → Prop} {L listed : Array Bool} {f0 fuel : Nat} {a : Act} {w : World} (d1 d2 d3 d4 d5 d6 : Option Tmp) (hf : fuel = f0 + 6)
    (hA : ∀ C : Act → World → Prop, Shut (∀ v1 v2 v3 v4 v5 v6 w', G v1 v2 v3 v4 v5 v6 w' → C ((((((a.put d1 v1).put d2 v2).put d3 v3).put d4 v4).put d5 v5).put d6 v6) w') → wpC P md ops Q S L C 6 listed a w)
    (hB : ∀ v1 v2 v3 v4 v5 v6 w', G v1 v2 v3 v4 v5 v6 w' → wpAnyH P md ops Q S f0 L ((((((a.put d1 v1).put d2 v2).put d3 v3).put d4 v4).put d5 v5).put d6 v6) w') : wpAnyH P md ops Q S fuel listed a w := by
  subst hf
  exact wpC_run (C := fun a' w' => wpAnyH P md ops Q S f0 L a' w') (fun _ _ h => h) 6 listed a w (hA _ hB)


set_option maxHeartbeats 4000000 in
set_option maxRecDepth 20000 in
theorem copyNet_any (A B C : Option Addr) (n m k c d e : Nat) (N : NetD) (w : World) (h : RdNet w A B C n m k N) (hn : n ≤ 1000000) (hm : m ≤ 1000000) (hk : k ≤ 1000000) (hc : ∀ t ∈ N.ts, t.costs.length ≤ 1000000) :
    Calls Tryz.prog 79 #[.agg #[.slice A n c, .slice B m d, .slice C k e]] w fun r w' => ∃ A' B' C' c' d' e' K xs, r = .returned (.agg #[.slice A' n c', .slice B' m d', .slice C' k e']) ∧ w.heap.size ≤ K ∧
      Own w' w.heap.size 119 3 A' n c' (tcells N.vs) ∧ Own w' w.heap.size 121 3 B' m d' (tcells N.ar) ∧ YwR w' K C' k e' xs N.ts ∧
      (∀ g, blkOf A' = some g → blkOf B' ≠ some g) ∧ (∀ g, blkOf A' = some g → g < K) ∧ (∀ g, blkOf B' = some g → g < K) ∧ Below w.heap.size w w' := by
  have HV0 := Lib.hid h.1
  have HA0 := Lib.hid h.2.1
  have HY := Lib.hid h.2.2
  have HC := Lib.hid hc
  clear h hc
  go_enter Tryz.func79, Tryz.ntmps79
  go_wp2_with fail
  (refine wp_named ?_; intro w1 hw1)
  have hb1 : Below w.heap.size w w1 := by rw [hw1]; exact (by repeat (first | exact Below.refl _ _ | assumption | apply Below.drew | apply below_drewN | apply Bel.alloc | (refine Bel.setCell_ ?_ ?_; rotate_left; omega) | (refine Bel.step ?_ (by assumption))))
  have hJ : Blk w1 w.heap.size 26 #[.slice A n c, .slice B m d, .slice C k e] := by rw [hw1]; exact (by repeat (first | assumption | (refine Blk.new' _ _ _ ?_; first | with_unfolding_all rfl | (simp; done)) | apply Blk.drewN | apply Blk.drew | apply Blk.alloc | (refine Blk.far_ ?_ ?_ _; rotate_left; omega)))
  have hR : Blk w1 (w.heap.size + 1) 26 #[.slice none 0 0, .slice none 0 0, .slice none 0 0] := by rw [hw1]; exact (by repeat (first | assumption | (refine Blk.new' _ _ _ ?_; first | with_unfolding_all rfl | (simp; done)) | apply Blk.drewN | apply Blk.drew | apply Blk.alloc | (refine Blk.far_ ?_ ?_ _; rotate_left; omega)))
  have hz1 : w1.heap.size = w.heap.size + 2 := by rw [hw1]; simp
  clear hw1
  obtain ⟨j0, j1, j2⟩ := hJ.three
  have HSX := Lib.hid (show ∀ X, Below w1.heap.size w1 X → X.cell? ⟨w.heap.size, 0, none⟩ = some (.slice A n c) ∧ X.cell? ⟨w.heap.size, 1, none⟩ = some (.slice B m d) from fun X hX => ⟨Below.cellOf hX (Nat.le_refl _) j0, Below.cellOf hX (Nat.le_refl _) j1⟩)
  have HV := Lib.hid (show ∀ X, Below w1.heap.size w1 X → Rds X 3 A n (tcells N.vs) from fun X hX => ((HV0.out.below hb1).below hX).rds)
  have HA := Lib.hid (show ∀ X, Below w1.heap.size w1 X → Rds X 3 B m (tcells N.ar) from fun X hX => ((HA0.out.below hb1).below hX).rds)
  clear j0 j1 j2
  go_wp2_with fail
  refine wp_region_held_drew (S := fun X => Below w1.heap.size w1 X) (by kernel_rfl) (Below.refl _ _).drew (fun _ => ?_)
  refine take_ (i := 1) (d := some 7) (v := ?_) rfl rfl (by kernel_rfl) (by kernel_rfl) (by kernel_rfl) (fun _ _ _ h => h) (by rfl) ?_ (by first | rfl | trivial | assumption) ?_
  rotate_left
  · (intro V hSw; (try (have hF := HSX.out V hSw)); (try (cases hSw)); (try go_split_ands); go_simp; try with_reducible rfl)
  simp only [Act.put, List.setIfInBounds_toArray, List.set_cons_zero, List.set_cons_succ]
  refine take_ (i := 2) (d := some 8) (v := ?_) rfl rfl (by kernel_rfl) (by kernel_rfl) (by kernel_rfl) (fun _ _ _ h => h) (by rfl) ?_ (by first | rfl | trivial | assumption) ?_
  rotate_left
  · (intro V hSw; (try (have hF := HSX.out V hSw)); (try (cases hSw)); (try go_split_ands); go_simp; try with_reducible rfl)
  simp only [Act.put, List.setIfInBounds_toArray, List.set_cons_zero, List.set_cons_succ]
  refine take_ (i := 5) (d := some 11) (v := ?_) rfl rfl (by kernel_rfl) (by kernel_rfl) (by kernel_rfl) (fun _ _ _ h => h) (by rfl) ?_ (by first | rfl | trivial | assumption) ?_
  rotate_left
  · (intro V hSw; (try (have hF := HSX.out V hSw)); (try (cases hSw)); (try go_split_ands); go_simp; try with_reducible rfl)
  simp only [Act.put, List.setIfInBounds_toArray, List.set_cons_zero, List.set_cons_succ]
  refine take_ (i := 6) (d := some 12) (v := ?_) rfl rfl (by kernel_rfl) (by kernel_rfl) (by kernel_rfl) (fun _ _ _ h => h) (by rfl) ?_ (by first | rfl | trivial | assumption) ?_
  rotate_left
  · (intro V hSw; (try (have hF := HSX.out V hSw)); (try (cases hSw)); (try go_split_ands); go_simp; try with_reducible rfl)
  simp only [Act.put, List.setIfInBounds_toArray, List.set_cons_zero, List.set_cons_succ]
  have h0 := CpS.start w1
  obtain ⟨W0, q⟩ : ∃ X, X = w1.drew := ⟨_, rfl⟩
  rw [← q] at h0 ⊢
  clear q
  refine wpAnyH_six (G := CpG w1 n m N) (L := #[true, true, true, true, true, true, true, true, true, true, false]) (f0 := 1) (some 6) (some 9) (some 10) (some 13) (some 14) (some 3) rfl (fun C0 hC => ?_) ?_
  · skip
    refine wpC_ready (rs := [0, 4, 9]) (by kernel_rfl) (by simp) ?_
    refine AllC.cons (o := _) rfl (fun K hK => ?_) (AllC.cons (o := _) rfl (fun K hK => ?_) (AllC.cons (o := _) rfl (fun K hK => ?_) (AllC.nil)))
    · go_simp
      refine hK.out _ _ h0.newV.bel (fun _ => ?_)
      have h1 := h0.newV
      obtain ⟨W1, q⟩ : ∃ X, X = W0.alloc (.cells #[] 119) := ⟨_, rfl⟩
      obtain ⟨g0, q2⟩ : ∃ g, g = W0.heap.size := ⟨_, rfl⟩
      rw [← q] at h1 ⊢
      try rw [← q2] at h1 ⊢
      clear hK K q q2 h0
      try simp only [Act.put, List.setIfInBounds_toArray, List.set_cons_zero, List.set_cons_succ]
      refine wpC_ready (rs := [3, 4, 9]) (by kernel_rfl) (by simp) ?_
      refine AllC.cons (o := _) rfl (fun K hK => ?_) (AllC.cons (o := _) rfl (fun K hK => ?_) (AllC.cons (o := _) rfl (fun K hK => ?_) (AllC.nil)))
      · with_reducible refine step_app' (some 9) rfl rfl (.tmp 6) (.tmp 8) 22 rfl 119 _ 3 24 infoRV Tryz.underlying22 rfl (by omega) rfl rfl h1.v (HV.out W1 h1.bel) (tcells_one _) (by omega) (by omega) h1.bel.size ?_
        intro X c W2 ho hg hat
        rw [Nat.zero_add, List.nil_append] at ho
        have h2 := h1.growV ho hg hat
        refine hK.out _ _ h2.bel (fun _ => ?_)
        clear hK K ho hg hat h1
        simp only [Act.put, List.setIfInBounds_toArray, List.set_cons_zero, List.set_cons_succ, Nat.zero_add]
        refine wpC_ready (rs := [4, 9]) (by kernel_rfl) (by simp) ?_
        refine AllC.cons (o := _) rfl (fun K hK => ?_) (AllC.cons (o := _) rfl (fun K hK => ?_) (AllC.nil))
        · go_simp
          refine hK.out _ _ h2.newA.bel (fun _ => ?_)
          have h3 := h2.newA
          obtain ⟨W3, q⟩ : ∃ X, X = W2.alloc (.cells #[] 121) := ⟨_, rfl⟩
          obtain ⟨g4, q2⟩ : ∃ g, g = W2.heap.size := ⟨_, rfl⟩
          rw [← q] at h3 ⊢
          try rw [← q2] at h3 ⊢
          clear hK K q q2 h2
          try simp only [Act.put, List.setIfInBounds_toArray, List.set_cons_zero, List.set_cons_succ]
          refine wpC_ready (rs := [7, 9]) (by kernel_rfl) (by simp) ?_
          refine AllC.cons (o := _) rfl (fun K hK => ?_) (AllC.cons (o := _) rfl (fun K hK => ?_) (AllC.nil))
          · with_reducible refine step_app' (some 13) rfl rfl (.tmp 10) (.tmp 12) 23 rfl 121 _ 3 24 infoRA Tryz.underlying23 rfl (by omega) rfl rfl h3.a (HA.out W3 h3.bel) (tcells_one _) (by omega) (by omega) h3.bel.size ?_
            intro X c W4 ho hg hat
            rw [Nat.zero_add, List.nil_append] at ho
            have h4 := h3.growA ho hg hat
            refine hK.out _ _ h4.bel (fun _ => ?_)
            clear hK K ho hg hat h3
            simp only [Act.put, List.setIfInBounds_toArray, List.set_cons_zero, List.set_cons_succ, Nat.zero_add]
            refine wpC_ready (rs := [8, 9]) (by kernel_rfl) (by simp) ?_
            refine AllC.cons (o := _) rfl (fun K hK => ?_) (AllC.cons (o := _) rfl (fun K hK => ?_) (AllC.nil))
            · go_simp
              refine hK.out _ _ h4.bel (fun _ => ?_)
              have h5 := h4
              obtain ⟨W5, rfl⟩ : ∃ X, X = W4 := ⟨_, rfl⟩
              clear hK K h4
              try simp only [Act.put, List.setIfInBounds_toArray, List.set_cons_zero, List.set_cons_succ]
              refine wpC_ready (rs := [9]) (by kernel_rfl) (by simp) ?_
              refine AllC.cons (o := _) rfl (fun K hK => ?_) (AllC.nil)
              go_simp
              refine hK.out _ _ h5.newN.bel (fun _ => ?_)
              have h6 := h5.newN
              obtain ⟨W6, q⟩ : ∃ X, X = W5.alloc (.cells #[.slice none 0 0, .slice none 0 0, .slice none 0 0] 26) := ⟨_, rfl⟩
              obtain ⟨g9, q2⟩ : ∃ g, g = W5.heap.size := ⟨_, rfl⟩
              rw [← q] at h6 ⊢
              try rw [← q2] at h6 ⊢
              clear hK K q q2 h5
              try simp only [Act.put, List.setIfInBounds_toArray, List.set_cons_zero, List.set_cons_succ]
              exact ⟨by kernel_rfl, hC.out (.slice (some ⟨g0, 0, none⟩) 0 0) _ (.slice (some ⟨g4, 0, none⟩) 0 0) _ _ _ _ (CpG.of h6)⟩
            · go_simp
              refine hK.out _ _ h4.newN.bel (fun _ => ?_)
              have h5 := h4.newN
              obtain ⟨W5, q⟩ : ∃ X, X = W4.alloc (.cells #[.slice none 0 0, .slice none 0 0, .slice none 0 0] 26) := ⟨_, rfl⟩
              obtain ⟨g9, q2⟩ : ∃ g, g = W4.heap.size := ⟨_, rfl⟩
              rw [← q] at h5 ⊢
              try rw [← q2] at h5 ⊢
              clear hK K q q2 h4
              try simp only [Act.put, List.setIfInBounds_toArray, List.set_cons_zero, List.set_cons_succ]
              refine wpC_ready (rs := [8]) (by kernel_rfl) (by simp) ?_
              refine AllC.cons (o := _) rfl (fun K hK => ?_) (AllC.nil)
              go_simp
              refine hK.out _ _ h5.bel (fun _ => ?_)
              have h6 := h5
              obtain ⟨W6, rfl⟩ : ∃ X, X = W5 := ⟨_, rfl⟩
              clear hK K h5
              try simp only [Act.put, List.setIfInBounds_toArray, List.set_cons_zero, List.set_cons_succ]
              exact ⟨by kernel_rfl, hC.out (.slice (some ⟨g0, 0, none⟩) 0 0) _ (.slice (some ⟨g4, 0, none⟩) 0 0) _ _ _ _ (CpG.of h6)⟩
          · go_simp
            refine hK.out _ _ h3.newN.bel (fun _ => ?_)
            have h4 := h3.newN
            obtain ⟨W4, q⟩ : ∃ X, X = W3.alloc (.cells #[.slice none 0 0, .slice none 0 0, .slice none 0 0] 26) := ⟨_, rfl⟩
            obtain ⟨g9, q2⟩ : ∃ g, g = W3.heap.size := ⟨_, rfl⟩
            rw [← q] at h4 ⊢
            try rw [← q2] at h4 ⊢
            clear hK K q q2 h3
            try simp only [Act.put, List.setIfInBounds_toArray, List.set_cons_zero, List.set_cons_succ]
            refine wpC_ready (rs := [7]) (by kernel_rfl) (by simp) ?_
            refine AllC.cons (o := _) rfl (fun K hK => ?_) (AllC.nil)
            with_reducible refine step_app' (some 13) rfl rfl (.tmp 10) (.tmp 12) 23 rfl 121 _ 3 24 infoRA Tryz.underlying23 rfl (by omega) rfl rfl h4.a (HA.out W4 h4.bel) (tcells_one _) (by omega) (by omega) h4.bel.size ?_
            intro X c W5 ho hg hat
            rw [Nat.zero_add, List.nil_append] at ho
            have h5 := h4.growA ho hg hat
            refine hK.out _ _ h5.bel (fun _ => ?_)
            clear hK K ho hg hat h4
            simp only [Act.put, List.setIfInBounds_toArray, List.set_cons_zero, List.set_cons_succ, Nat.zero_add]
            refine wpC_ready (rs := [8]) (by kernel_rfl) (by simp) ?_
            refine AllC.cons (o := _) rfl (fun K hK => ?_) (AllC.nil)
            go_simp
            refine hK.out _ _ h5.bel (fun _ => ?_)
            have h6 := h5
            obtain ⟨W6, rfl⟩ : ∃ X, X = W5 := ⟨_, rfl⟩
            clear hK K h5
            try simp only [Act.put, List.setIfInBounds_toArray, List.set_cons_zero, List.set_cons_succ]
            exact ⟨by kernel_rfl, hC.out (.slice (some ⟨g0, 0, none⟩) 0 0) _ (.slice (some ⟨g4, 0, none⟩) 0 0) _ _ _ _ (CpG.of h6)⟩
        · go_simp
          refine hK.out _ _ h2.newN.bel (fun _ => ?_)
          have h3 := h2.newN
          obtain ⟨W3, q⟩ : ∃ X, X = W2.alloc (.cells #[.slice none 0 0, .slice none 0 0, .slice none 0 0] 26) := ⟨_, rfl⟩
          obtain ⟨g9, q2⟩ : ∃ g, g = W2.heap.size := ⟨_, rfl⟩
          rw [← q] at h3 ⊢
          try rw [← q2] at h3 ⊢
          clear hK K q q2 h2
          try simp only [Act.put, List.setIfInBounds_toArray, List.set_cons_zero, List.set_cons_succ]
          refine wpC_ready (rs := [4]) (by kernel_rfl) (by simp) ?_
          refine AllC.cons (o := _) rfl (fun K hK => ?_) (AllC.nil)
          go_simp
          refine hK.out _ _ h3.newA.bel (fun _ => ?_)
          have h4 := h3.newA
          obtain ⟨W4, q⟩ : ∃ X, X = W3.alloc (.cells #[] 121) := ⟨_, rfl⟩
          obtain ⟨g4, q2⟩ : ∃ g, g = W3.heap.size := ⟨_, rfl⟩
          rw [← q] at h4 ⊢
          try rw [← q2] at h4 ⊢
          clear hK K q q2 h3
          try simp only [Act.put, List.setIfInBounds_toArray, List.set_cons_zero, List.set_cons_succ]
          refine wpC_ready (rs := [7]) (by kernel_rfl) (by simp) ?_
          refine AllC.cons (o := _) rfl (fun K hK => ?_) (AllC.nil)
          with_reducible refine step_app' (some 13) rfl rfl (.tmp 10) (.tmp 12) 23 rfl 121 _ 3 24 infoRA Tryz.underlying23 rfl (by omega) rfl rfl h4.a (HA.out W4 h4.bel) (tcells_one _) (by omega) (by omega) h4.bel.size ?_
          intro X c W5 ho hg hat
          rw [Nat.zero_add, List.nil_append] at ho
          have h5 := h4.growA ho hg hat
          refine hK.out _ _ h5.bel (fun _ => ?_)
          clear hK K ho hg hat h4
          simp only [Act.put, List.setIfInBounds_toArray, List.set_cons_zero, List.set_cons_succ, Nat.zero_add]
          refine wpC_ready (rs := [8]) (by kernel_rfl) (by simp) ?_
          refine AllC.cons (o := _) rfl (fun K hK => ?_) (AllC.nil)
          go_simp
          refine hK.out _ _ h5.bel (fun _ => ?_)
          have h6 := h5
          obtain ⟨W6, rfl⟩ : ∃ X, X = W5 := ⟨_, rfl⟩
          clear hK K h5
          try simp only [Act.put, List.setIfInBounds_toArray, List.set_cons_zero, List.set_cons_succ]
          exact ⟨by kernel_rfl, hC.out (.slice (some ⟨g0, 0, none⟩) 0 0) _ (.slice (some ⟨g4, 0, none⟩) 0 0) _ _ _ _ (CpG.of h6)⟩
      · go_simp
        refine hK.out _ _ h1.newA.bel (fun _ => ?_)
        have h2 := h1.newA
        obtain ⟨W2, q⟩ : ∃ X, X = W1.alloc (.cells #[] 121) := ⟨_, rfl⟩
        obtain ⟨g4, q2⟩ : ∃ g, g = W1.heap.size := ⟨_, rfl⟩
        rw [← q] at h2 ⊢
        try rw [← q2] at h2 ⊢
        clear hK K q q2 h1
        try simp only [Act.put, List.setIfInBounds_toArray, List.set_cons_zero, List.set_cons_succ]
        refine wpC_ready (rs := [3, 9]) (by kernel_rfl) (by simp) ?_
        refine AllC.cons (o := _) rfl (fun K hK => ?_) (AllC.cons (o := _) rfl (fun K hK => ?_) (AllC.nil))
        · with_reducible refine step_app' (some 9) rfl rfl (.tmp 6) (.tmp 8) 22 rfl 119 _ 3 24 infoRV Tryz.underlying22 rfl (by omega) rfl rfl h2.v (HV.out W2 h2.bel) (tcells_one _) (by omega) (by omega) h2.bel.size ?_
          intro X c W3 ho hg hat
          rw [Nat.zero_add, List.nil_append] at ho
          have h3 := h2.growV ho hg hat
          refine hK.out _ _ h3.bel (fun _ => ?_)
          clear hK K ho hg hat h2
          simp only [Act.put, List.setIfInBounds_toArray, List.set_cons_zero, List.set_cons_succ, Nat.zero_add]
          refine wpC_ready (rs := [7, 9]) (by kernel_rfl) (by simp) ?_
          refine AllC.cons (o := _) rfl (fun K hK => ?_) (AllC.cons (o := _) rfl (fun K hK => ?_) (AllC.nil))
          · with_reducible refine step_app' (some 13) rfl rfl (.tmp 10) (.tmp 12) 23 rfl 121 _ 3 24 infoRA Tryz.underlying23 rfl (by omega) rfl rfl h3.a (HA.out W3 h3.bel) (tcells_one _) (by omega) (by omega) h3.bel.size ?_
            intro X c W4 ho hg hat
            rw [Nat.zero_add, List.nil_append] at ho
            have h4 := h3.growA ho hg hat
            refine hK.out _ _ h4.bel (fun _ => ?_)
            clear hK K ho hg hat h3
            simp only [Act.put, List.setIfInBounds_toArray, List.set_cons_zero, List.set_cons_succ, Nat.zero_add]
            refine wpC_ready (rs := [8, 9]) (by kernel_rfl) (by simp) ?_
            refine AllC.cons (o := _) rfl (fun K hK => ?_) (AllC.cons (o := _) rfl (fun K hK => ?_) (AllC.nil))
            · go_simp
              refine hK.out _ _ h4.bel (fun _ => ?_)
              have h5 := h4
              obtain ⟨W5, rfl⟩ : ∃ X, X = W4 := ⟨_, rfl⟩
              clear hK K h4
              try simp only [Act.put, List.setIfInBounds_toArray, List.set_cons_zero, List.set_cons_succ]
              refine wpC_ready (rs := [9]) (by kernel_rfl) (by simp) ?_
              refine AllC.cons (o := _) rfl (fun K hK => ?_) (AllC.nil)
              go_simp
              refine hK.out _ _ h5.newN.bel (fun _ => ?_)
              have h6 := h5.newN
              obtain ⟨W6, q⟩ : ∃ X, X = W5.alloc (.cells #[.slice none 0 0, .slice none 0 0, .slice none 0 0] 26) := ⟨_, rfl⟩
              obtain ⟨g9, q2⟩ : ∃ g, g = W5.heap.size := ⟨_, rfl⟩
              rw [← q] at h6 ⊢
              try rw [← q2] at h6 ⊢
              clear hK K q q2 h5
              try simp only [Act.put, List.setIfInBounds_toArray, List.set_cons_zero, List.set_cons_succ]
              exact ⟨by kernel_rfl, hC.out (.slice (some ⟨g0, 0, none⟩) 0 0) _ (.slice (some ⟨g4, 0, none⟩) 0 0) _ _ _ _ (CpG.of h6)⟩
            · go_simp
              refine hK.out _ _ h4.newN.bel (fun _ => ?_)
              have h5 := h4.newN
              obtain ⟨W5, q⟩ : ∃ X, X = W4.alloc (.cells #[.slice none 0 0, .slice none 0 0, .slice none 0 0] 26) := ⟨_, rfl⟩
              obtain ⟨g9, q2⟩ : ∃ g, g = W4.heap.size := ⟨_, rfl⟩
              rw [← q] at h5 ⊢
              try rw [← q2] at h5 ⊢
              clear hK K q q2 h4
              try simp only [Act.put, List.setIfInBounds_toArray, List.set_cons_zero, List.set_cons_succ]
              refine wpC_ready (rs := [8]) (by kernel_rfl) (by simp) ?_
              refine AllC.cons (o := _) rfl (fun K hK => ?_) (AllC.nil)
              go_simp
              refine hK.out _ _ h5.bel (fun _ => ?_)
              have h6 := h5
              obtain ⟨W6, rfl⟩ : ∃ X, X = W5 := ⟨_, rfl⟩
              clear hK K h5
              try simp only [Act.put, List.setIfInBounds_toArray, List.set_cons_zero, List.set_cons_succ]
              exact ⟨by kernel_rfl, hC.out (.slice (some ⟨g0, 0, none⟩) 0 0) _ (.slice (some ⟨g4, 0, none⟩) 0 0) _ _ _ _ (CpG.of h6)⟩
          · go_simp
            refine hK.out _ _ h3.newN.bel (fun _ => ?_)
            have h4 := h3.newN
            obtain ⟨W4, q⟩ : ∃ X, X = W3.alloc (.cells #[.slice none 0 0, .slice none 0 0, .slice none 0 0] 26) := ⟨_, rfl⟩
            obtain ⟨g9, q2⟩ : ∃ g, g = W3.heap.size := ⟨_, rfl⟩
            rw [← q] at h4 ⊢
            try rw [← q2] at h4 ⊢
            clear hK K q q2 h3
            try simp only [Act.put, List.setIfInBounds_toArray, List.set_cons_zero, List.set_cons_succ]
            refine wpC_ready (rs := [7]) (by kernel_rfl) (by simp) ?_
            refine AllC.cons (o := _) rfl (fun K hK => ?_) (AllC.nil)
            with_reducible refine step_app' (some 13) rfl rfl (.tmp 10) (.tmp 12) 23 rfl 121 _ 3 24 infoRA Tryz.underlying23 rfl (by omega) rfl rfl h4.a (HA.out W4 h4.bel) (tcells_one _) (by omega) (by omega) h4.bel.size ?_
            intro X c W5 ho hg hat
            rw [Nat.zero_add, List.nil_append] at ho
            have h5 := h4.growA ho hg hat
            refine hK.out _ _ h5.bel (fun _ => ?_)
            clear hK K ho hg hat h4
            simp only [Act.put, List.setIfInBounds_toArray, List.set_cons_zero, List.set_cons_succ, Nat.zero_add]
            refine wpC_ready (rs := [8]) (by kernel_rfl) (by simp) ?_
            refine AllC.cons (o := _) rfl (fun K hK => ?_) (AllC.nil)
            go_simp
            refine hK.out _ _ h5.bel (fun _ => ?_)
            have h6 := h5
            obtain ⟨W6, rfl⟩ : ∃ X, X = W5 := ⟨_, rfl⟩
            clear hK K h5
            try simp only [Act.put, List.setIfInBounds_toArray, List.set_cons_zero, List.set_cons_succ]
            exact ⟨by kernel_rfl, hC.out (.slice (some ⟨g0, 0, none⟩) 0 0) _ (.slice (some ⟨g4, 0, none⟩) 0 0) _ _ _ _ (CpG.of h6)⟩
        · go_simp
          refine hK.out _ _ h2.newN.bel (fun _ => ?_)
          have h3 := h2.newN
          obtain ⟨W3, q⟩ : ∃ X, X = W2.alloc (.cells #[.slice none 0 0, .slice none 0 0, .slice none 0 0] 26) := ⟨_, rfl⟩
          obtain ⟨g9, q2⟩ : ∃ g, g = W2.heap.size := ⟨_, rfl⟩
          rw [← q] at h3 ⊢
          try rw [← q2] at h3 ⊢
          clear hK K q q2 h2
          try simp only [Act.put, List.setIfInBounds_toArray, List.set_cons_zero, List.set_cons_succ]
          refine wpC_ready (rs := [3]) (by kernel_rfl) (by simp) ?_
          refine AllC.cons (o := _) rfl (fun K hK => ?_) (AllC.nil)
          with_reducible refine step_app' (some 9) rfl rfl (.tmp 6) (.tmp 8) 22 rfl 119 _ 3 24 infoRV Tryz.underlying22 rfl (by omega) rfl rfl h3.v (HV.out W3 h3.bel) (tcells_one _) (by omega) (by omega) h3.bel.size ?_
          intro X c W4 ho hg hat
          rw [Nat.zero_add, List.nil_append] at ho
          have h4 := h3.growV ho hg hat
          refine hK.out _ _ h4.bel (fun _ => ?_)
          clear hK K ho hg hat h3
          simp only [Act.put, List.setIfInBounds_toArray, List.set_cons_zero, List.set_cons_succ, Nat.zero_add]
          refine wpC_ready (rs := [7]) (by kernel_rfl) (by simp) ?_
          refine AllC.cons (o := _) rfl (fun K hK => ?_) (AllC.nil)
          with_reducible refine step_app' (some 13) rfl rfl (.tmp 10) (.tmp 12) 23 rfl 121 _ 3 24 infoRA Tryz.underlying23 rfl (by omega) rfl rfl h4.a (HA.out W4 h4.bel) (tcells_one _) (by omega) (by omega) h4.bel.size ?_
          intro X c W5 ho hg hat
          rw [Nat.zero_add, List.nil_append] at ho
          have h5 := h4.growA ho hg hat
          refine hK.out _ _ h5.bel (fun _ => ?_)
          clear hK K ho hg hat h4
          simp only [Act.put, List.setIfInBounds_toArray, List.set_cons_zero, List.set_cons_succ, Nat.zero_add]
          refine wpC_ready (rs := [8]) (by kernel_rfl) (by simp) ?_
          refine AllC.cons (o := _) rfl (fun K hK => ?_) (AllC.nil)
          go_simp
          refine hK.out _ _ h5.bel (fun _ => ?_)
          have h6 := h5
          obtain ⟨W6, rfl⟩ : ∃ X, X = W5 := ⟨_, rfl⟩
          clear hK K h5
          try simp only [Act.put, List.setIfInBounds_toArray, List.set_cons_zero, List.set_cons_succ]
          exact ⟨by kernel_rfl, hC.out (.slice (some ⟨g0, 0, none⟩) 0 0) _ (.slice (some ⟨g4, 0, none⟩) 0 0) _ _ _ _ (CpG.of h6)⟩
      · go_simp
        refine hK.out _ _ h1.newN.bel (fun _ => ?_)
        have h2 := h1.newN
        obtain ⟨W2, q⟩ : ∃ X, X = W1.alloc (.cells #[.slice none 0 0, .slice none 0 0, .slice none 0 0] 26) := ⟨_, rfl⟩
        obtain ⟨g9, q2⟩ : ∃ g, g = W1.heap.size := ⟨_, rfl⟩
        rw [← q] at h2 ⊢
        try rw [← q2] at h2 ⊢
        clear hK K q q2 h1
        try simp only [Act.put, List.setIfInBounds_toArray, List.set_cons_zero, List.set_cons_succ]
        refine wpC_ready (rs := [3, 4]) (by kernel_rfl) (by simp) ?_
        refine AllC.cons (o := _) rfl (fun K hK => ?_) (AllC.cons (o := _) rfl (fun K hK => ?_) (AllC.nil))
        · with_reducible refine step_app' (some 9) rfl rfl (.tmp 6) (.tmp 8) 22 rfl 119 _ 3 24 infoRV Tryz.underlying22 rfl (by omega) rfl rfl h2.v (HV.out W2 h2.bel) (tcells_one _) (by omega) (by omega) h2.bel.size ?_
          intro X c W3 ho hg hat
          rw [Nat.zero_add, List.nil_append] at ho
          have h3 := h2.growV ho hg hat
          refine hK.out _ _ h3.bel (fun _ => ?_)
          clear hK K ho hg hat h2
          simp only [Act.put, List.setIfInBounds_toArray, List.set_cons_zero, List.set_cons_succ, Nat.zero_add]
          refine wpC_ready (rs := [4]) (by kernel_rfl) (by simp) ?_
          refine AllC.cons (o := _) rfl (fun K hK => ?_) (AllC.nil)
          go_simp
          refine hK.out _ _ h3.newA.bel (fun _ => ?_)
          have h4 := h3.newA
          obtain ⟨W4, q⟩ : ∃ X, X = W3.alloc (.cells #[] 121) := ⟨_, rfl⟩
          obtain ⟨g4, q2⟩ : ∃ g, g = W3.heap.size := ⟨_, rfl⟩
          rw [← q] at h4 ⊢
          try rw [← q2] at h4 ⊢
          clear hK K q q2 h3
          try simp only [Act.put, List.setIfInBounds_toArray, List.set_cons_zero, List.set_cons_succ]
          refine wpC_ready (rs := [7]) (by kernel_rfl) (by simp) ?_
          refine AllC.cons (o := _) rfl (fun K hK => ?_) (AllC.nil)
          with_reducible refine step_app' (some 13) rfl rfl (.tmp 10) (.tmp 12) 23 rfl 121 _ 3 24 infoRA Tryz.underlying23 rfl (by omega) rfl rfl h4.a (HA.out W4 h4.bel) (tcells_one _) (by omega) (by omega) h4.bel.size ?_
          intro X c W5 ho hg hat
          rw [Nat.zero_add, List.nil_append] at ho
          have h5 := h4.growA ho hg hat
          refine hK.out _ _ h5.bel (fun _ => ?_)
          clear hK K ho hg hat h4
          simp only [Act.put, List.setIfInBounds_toArray, List.set_cons_zero, List.set_cons_succ, Nat.zero_add]
          refine wpC_ready (rs := [8]) (by kernel_rfl) (by simp) ?_
          refine AllC.cons (o := _) rfl (fun K hK => ?_) (AllC.nil)
          go_simp
          refine hK.out _ _ h5.bel (fun _ => ?_)
          have h6 := h5
          obtain ⟨W6, rfl⟩ : ∃ X, X = W5 := ⟨_, rfl⟩
          clear hK K h5
          try simp only [Act.put, List.setIfInBounds_toArray, List.set_cons_zero, List.set_cons_succ]
          exact ⟨by kernel_rfl, hC.out (.slice (some ⟨g0, 0, none⟩) 0 0) _ (.slice (some ⟨g4, 0, none⟩) 0 0) _ _ _ _ (CpG.of h6)⟩
        · go_simp
          refine hK.out _ _ h2.newA.bel (fun _ => ?_)
          have h3 := h2.newA
          obtain ⟨W3, q⟩ : ∃ X, X = W2.alloc (.cells #[] 121) := ⟨_, rfl⟩
          obtain ⟨g4, q2⟩ : ∃ g, g = W2.heap.size := ⟨_, rfl⟩
          rw [← q] at h3 ⊢
          try rw [← q2] at h3 ⊢
          clear hK K q q2 h2
          try simp only [Act.put, List.setIfInBounds_toArray, List.set_cons_zero, List.set_cons_succ]
          refine wpC_ready (rs := [3]) (by kernel_rfl) (by simp) ?_
          refine AllC.cons (o := _) rfl (fun K hK => ?_) (AllC.nil)
          with_reducible refine step_app' (some 9) rfl rfl (.tmp 6) (.tmp 8) 22 rfl 119 _ 3 24 infoRV Tryz.underlying22 rfl (by omega) rfl rfl h3.v (HV.out W3 h3.bel) (tcells_one _) (by omega) (by omega) h3.bel.size ?_
          intro X c W4 ho hg hat
          rw [Nat.zero_add, List.nil_append] at ho
          have h4 := h3.growV ho hg hat
          refine hK.out _ _ h4.bel (fun _ => ?_)
          clear hK K ho hg hat h3
          simp only [Act.put, List.setIfInBounds_toArray, List.set_cons_zero, List.set_cons_succ, Nat.zero_add]
          refine wpC_ready (rs := [7]) (by kernel_rfl) (by simp) ?_
          refine AllC.cons (o := _) rfl (fun K hK => ?_) (AllC.nil)
          with_reducible refine step_app' (some 13) rfl rfl (.tmp 10) (.tmp 12) 23 rfl 121 _ 3 24 infoRA Tryz.underlying23 rfl (by omega) rfl rfl h4.a (HA.out W4 h4.bel) (tcells_one _) (by omega) (by omega) h4.bel.size ?_
          intro X c W5 ho hg hat
          rw [Nat.zero_add, List.nil_append] at ho
          have h5 := h4.growA ho hg hat
          refine hK.out _ _ h5.bel (fun _ => ?_)
          clear hK K ho hg hat h4
          simp only [Act.put, List.setIfInBounds_toArray, List.set_cons_zero, List.set_cons_succ, Nat.zero_add]
          refine wpC_ready (rs := [8]) (by kernel_rfl) (by simp) ?_
          refine AllC.cons (o := _) rfl (fun K hK => ?_) (AllC.nil)
          go_simp
          refine hK.out _ _ h5.bel (fun _ => ?_)
          have h6 := h5
          obtain ⟨W6, rfl⟩ : ∃ X, X = W5 := ⟨_, rfl⟩
          clear hK K h5
          try simp only [Act.put, List.setIfInBounds_toArray, List.set_cons_zero, List.set_cons_succ]
          exact ⟨by kernel_rfl, hC.out (.slice (some ⟨g0, 0, none⟩) 0 0) _ (.slice (some ⟨g4, 0, none⟩) 0 0) _ _ _ _ (CpG.of h6)⟩
    · go_simp
      refine hK.out _ _ h0.newA.bel (fun _ => ?_)
      have h1 := h0.newA
      obtain ⟨W1, q⟩ : ∃ X, X = W0.alloc (.cells #[] 121) := ⟨_, rfl⟩
      obtain ⟨g4, q2⟩ : ∃ g, g = W0.heap.size := ⟨_, rfl⟩
      rw [← q] at h1 ⊢
      try rw [← q2] at h1 ⊢
      clear hK K q q2 h0
      try simp only [Act.put, List.setIfInBounds_toArray, List.set_cons_zero, List.set_cons_succ]
      refine wpC_ready (rs := [0, 9]) (by kernel_rfl) (by simp) ?_
      refine AllC.cons (o := _) rfl (fun K hK => ?_) (AllC.cons (o := _) rfl (fun K hK => ?_) (AllC.nil))
      · go_simp
        refine hK.out _ _ h1.newV.bel (fun _ => ?_)
        have h2 := h1.newV
        obtain ⟨W2, q⟩ : ∃ X, X = W1.alloc (.cells #[] 119) := ⟨_, rfl⟩
        obtain ⟨g0, q2⟩ : ∃ g, g = W1.heap.size := ⟨_, rfl⟩
        rw [← q] at h2 ⊢
        try rw [← q2] at h2 ⊢
        clear hK K q q2 h1
        try simp only [Act.put, List.setIfInBounds_toArray, List.set_cons_zero, List.set_cons_succ]
        refine wpC_ready (rs := [3, 9]) (by kernel_rfl) (by simp) ?_
        refine AllC.cons (o := _) rfl (fun K hK => ?_) (AllC.cons (o := _) rfl (fun K hK => ?_) (AllC.nil))
        · with_reducible refine step_app' (some 9) rfl rfl (.tmp 6) (.tmp 8) 22 rfl 119 _ 3 24 infoRV Tryz.underlying22 rfl (by omega) rfl rfl h2.v (HV.out W2 h2.bel) (tcells_one _) (by omega) (by omega) h2.bel.size ?_
          intro X c W3 ho hg hat
          rw [Nat.zero_add, List.nil_append] at ho
          have h3 := h2.growV ho hg hat
          refine hK.out _ _ h3.bel (fun _ => ?_)
          clear hK K ho hg hat h2
          simp only [Act.put, List.setIfInBounds_toArray, List.set_cons_zero, List.set_cons_succ, Nat.zero_add]
          refine wpC_ready (rs := [7, 9]) (by kernel_rfl) (by simp) ?_
          refine AllC.cons (o := _) rfl (fun K hK => ?_) (AllC.cons (o := _) rfl (fun K hK => ?_) (AllC.nil))
          · with_reducible refine step_app' (some 13) rfl rfl (.tmp 10) (.tmp 12) 23 rfl 121 _ 3 24 infoRA Tryz.underlying23 rfl (by omega) rfl rfl h3.a (HA.out W3 h3.bel) (tcells_one _) (by omega) (by omega) h3.bel.size ?_
            intro X c W4 ho hg hat
            rw [Nat.zero_add, List.nil_append] at ho
            have h4 := h3.growA ho hg hat
            refine hK.out _ _ h4.bel (fun _ => ?_)
            clear hK K ho hg hat h3
            simp only [Act.put, List.setIfInBounds_toArray, List.set_cons_zero, List.set_cons_succ, Nat.zero_add]
            refine wpC_ready (rs := [8, 9]) (by kernel_rfl) (by simp) ?_
            refine AllC.cons (o := _) rfl (fun K hK => ?_) (AllC.cons (o := _) rfl (fun K hK => ?_) (AllC.nil))
            · go_simp
              refine hK.out _ _ h4.bel (fun _ => ?_)
              have h5 := h4
              obtain ⟨W5, rfl⟩ : ∃ X, X = W4 := ⟨_, rfl⟩
              clear hK K h4
              try simp only [Act.put, List.setIfInBounds_toArray, List.set_cons_zero, List.set_cons_succ]
              refine wpC_ready (rs := [9]) (by kernel_rfl) (by simp) ?_
              refine AllC.cons (o := _) rfl (fun K hK => ?_) (AllC.nil)
              go_simp
              refine hK.out _ _ h5.newN.bel (fun _ => ?_)
              have h6 := h5.newN
              obtain ⟨W6, q⟩ : ∃ X, X = W5.alloc (.cells #[.slice none 0 0, .slice none 0 0, .slice none 0 0] 26) := ⟨_, rfl⟩
              obtain ⟨g9, q2⟩ : ∃ g, g = W5.heap.size := ⟨_, rfl⟩
              rw [← q] at h6 ⊢
              try rw [← q2] at h6 ⊢
              clear hK K q q2 h5
              try simp only [Act.put, List.setIfInBounds_toArray, List.set_cons_zero, List.set_cons_succ]
              exact ⟨by kernel_rfl, hC.out (.slice (some ⟨g0, 0, none⟩) 0 0) _ (.slice (some ⟨g4, 0, none⟩) 0 0) _ _ _ _ (CpG.of h6)⟩
            · go_simp
              refine hK.out _ _ h4.newN.bel (fun _ => ?_)
              have h5 := h4.newN
              obtain ⟨W5, q⟩ : ∃ X, X = W4.alloc (.cells #[.slice none 0 0, .slice none 0 0, .slice none 0 0] 26) := ⟨_, rfl⟩
              obtain ⟨g9, q2⟩ : ∃ g, g = W4.heap.size := ⟨_, rfl⟩
              rw [← q] at h5 ⊢
              try rw [← q2] at h5 ⊢
              clear hK K q q2 h4
              try simp only [Act.put, List.setIfInBounds_toArray, List.set_cons_zero, List.set_cons_succ]
              refine wpC_ready (rs := [8]) (by kernel_rfl) (by simp) ?_
              refine AllC.cons (o := _) rfl (fun K hK => ?_) (AllC.nil)
              go_simp
              refine hK.out _ _ h5.bel (fun _ => ?_)
              have h6 := h5
              obtain ⟨W6, rfl⟩ : ∃ X, X = W5 := ⟨_, rfl⟩
              clear hK K h5
              try simp only [Act.put, List.setIfInBounds_toArray, List.set_cons_zero, List.set_cons_succ]
              exact ⟨by kernel_rfl, hC.out (.slice (some ⟨g0, 0, none⟩) 0 0) _ (.slice (some ⟨g4, 0, none⟩) 0 0) _ _ _ _ (CpG.of h6)⟩
          · go_simp
            refine hK.out _ _ h3.newN.bel (fun _ => ?_)
            have h4 := h3.newN
            obtain ⟨W4, q⟩ : ∃ X, X = W3.alloc (.cells #[.slice none 0 0, .slice none 0 0, .slice none 0 0] 26) := ⟨_, rfl⟩
            obtain ⟨g9, q2⟩ : ∃ g, g = W3.heap.size := ⟨_, rfl⟩
            rw [← q] at h4 ⊢
            try rw [← q2] at h4 ⊢
            clear hK K q q2 h3
            try simp only [Act.put, List.setIfInBounds_toArray, List.set_cons_zero, List.set_cons_succ]
            refine wpC_ready (rs := [7]) (by kernel_rfl) (by simp) ?_
            refine AllC.cons (o := _) rfl (fun K hK => ?_) (AllC.nil)
            with_reducible refine step_app' (some 13) rfl rfl (.tmp 10) (.tmp 12) 23 rfl 121 _ 3 24 infoRA Tryz.underlying23 rfl (by omega) rfl rfl h4.a (HA.out W4 h4.bel) (tcells_one _) (by omega) (by omega) h4.bel.size ?_
            intro X c W5 ho hg hat
            rw [Nat.zero_add, List.nil_append] at ho
            have h5 := h4.growA ho hg hat
            refine hK.out _ _ h5.bel (fun _ => ?_)
            clear hK K ho hg hat h4
            simp only [Act.put, List.setIfInBounds_toArray, List.set_cons_zero, List.set_cons_succ, Nat.zero_add]
            refine wpC_ready (rs := [8]) (by kernel_rfl) (by simp) ?_
            refine AllC.cons (o := _) rfl (fun K hK => ?_) (AllC.nil)
            go_simp
            refine hK.out _ _ h5.bel (fun _ => ?_)
            have h6 := h5
            obtain ⟨W6, rfl⟩ : ∃ X, X = W5 := ⟨_, rfl⟩
            clear hK K h5
            try simp only [Act.put, List.setIfInBounds_toArray, List.set_cons_zero, List.set_cons_succ]
            exact ⟨by kernel_rfl, hC.out (.slice (some ⟨g0, 0, none⟩) 0 0) _ (.slice (some ⟨g4, 0, none⟩) 0 0) _ _ _ _ (CpG.of h6)⟩
        · go_simp
          refine hK.out _ _ h2.newN.bel (fun _ => ?_)
          have h3 := h2.newN
          obtain ⟨W3, q⟩ : ∃ X, X = W2.alloc (.cells #[.slice none 0 0, .slice none 0 0, .slice none 0 0] 26) := ⟨_, rfl⟩
          obtain ⟨g9, q2⟩ : ∃ g, g = W2.heap.size := ⟨_, rfl⟩
          rw [← q] at h3 ⊢
          try rw [← q2] at h3 ⊢
          clear hK K q q2 h2
          try simp only [Act.put, List.setIfInBounds_toArray, List.set_cons_zero, List.set_cons_succ]
          refine wpC_ready (rs := [3]) (by kernel_rfl) (by simp) ?_
          refine AllC.cons (o := _) rfl (fun K hK => ?_) (AllC.nil)
          with_reducible refine step_app' (some 9) rfl rfl (.tmp 6) (.tmp 8) 22 rfl 119 _ 3 24 infoRV Tryz.underlying22 rfl (by omega) rfl rfl h3.v (HV.out W3 h3.bel) (tcells_one _) (by omega) (by omega) h3.bel.size ?_
          intro X c W4 ho hg hat
          rw [Nat.zero_add, List.nil_append] at ho
          have h4 := h3.growV ho hg hat
          refine hK.out _ _ h4.bel (fun _ => ?_)
          clear hK K ho hg hat h3
          simp only [Act.put, List.setIfInBounds_toArray, List.set_cons_zero, List.set_cons_succ, Nat.zero_add]
          refine wpC_ready (rs := [7]) (by kernel_rfl) (by simp) ?_
          refine AllC.cons (o := _) rfl (fun K hK => ?_) (AllC.nil)
          with_reducible refine step_app' (some 13) rfl rfl (.tmp 10) (.tmp 12) 23 rfl 121 _ 3 24 infoRA Tryz.underlying23 rfl (by omega) rfl rfl h4.a (HA.out W4 h4.bel) (tcells_one _) (by omega) (by omega) h4.bel.size ?_
          intro X c W5 ho hg hat
          rw [Nat.zero_add, List.nil_append] at ho
          have h5 := h4.growA ho hg hat
          refine hK.out _ _ h5.bel (fun _ => ?_)
          clear hK K ho hg hat h4
          simp only [Act.put, List.setIfInBounds_toArray, List.set_cons_zero, List.set_cons_succ, Nat.zero_add]
          refine wpC_ready (rs := [8]) (by kernel_rfl) (by simp) ?_
          refine AllC.cons (o := _) rfl (fun K hK => ?_) (AllC.nil)
          go_simp
          refine hK.out _ _ h5.bel (fun _ => ?_)
          have h6 := h5
          obtain ⟨W6, rfl⟩ : ∃ X, X = W5 := ⟨_, rfl⟩
          clear hK K h5
          try simp only [Act.put, List.setIfInBounds_toArray, List.set_cons_zero, List.set_cons_succ]
          exact ⟨by kernel_rfl, hC.out (.slice (some ⟨g0, 0, none⟩) 0 0) _ (.slice (some ⟨g4, 0, none⟩) 0 0) _ _ _ _ (CpG.of h6)⟩
      · go_simp
        refine hK.out _ _ h1.newN.bel (fun _ => ?_)
        have h2 := h1.newN
        obtain ⟨W2, q⟩ : ∃ X, X = W1.alloc (.cells #[.slice none 0 0, .slice none 0 0, .slice none 0 0] 26) := ⟨_, rfl⟩
        obtain ⟨g9, q2⟩ : ∃ g, g = W1.heap.size := ⟨_, rfl⟩
        rw [← q] at h2 ⊢
        try rw [← q2] at h2 ⊢
        clear hK K q q2 h1
        try simp only [Act.put, List.setIfInBounds_toArray, List.set_cons_zero, List.set_cons_succ]
        refine wpC_ready (rs := [0]) (by kernel_rfl) (by simp) ?_
        refine AllC.cons (o := _) rfl (fun K hK => ?_) (AllC.nil)
        go_simp
        refine hK.out _ _ h2.newV.bel (fun _ => ?_)
        have h3 := h2.newV
        obtain ⟨W3, q⟩ : ∃ X, X = W2.alloc (.cells #[] 119) := ⟨_, rfl⟩
        obtain ⟨g0, q2⟩ : ∃ g, g = W2.heap.size := ⟨_, rfl⟩
        rw [← q] at h3 ⊢
        try rw [← q2] at h3 ⊢
        clear hK K q q2 h2
        try simp only [Act.put, List.setIfInBounds_toArray, List.set_cons_zero, List.set_cons_succ]
        refine wpC_ready (rs := [3]) (by kernel_rfl) (by simp) ?_
        refine AllC.cons (o := _) rfl (fun K hK => ?_) (AllC.nil)
        with_reducible refine step_app' (some 9) rfl rfl (.tmp 6) (.tmp 8) 22 rfl 119 _ 3 24 infoRV Tryz.underlying22 rfl (by omega) rfl rfl h3.v (HV.out W3 h3.bel) (tcells_one _) (by omega) (by omega) h3.bel.size ?_
        intro X c W4 ho hg hat
        rw [Nat.zero_add, List.nil_append] at ho
        have h4 := h3.growV ho hg hat
        refine hK.out _ _ h4.bel (fun _ => ?_)
        clear hK K ho hg hat h3
        simp only [Act.put, List.setIfInBounds_toArray, List.set_cons_zero, List.set_cons_succ, Nat.zero_add]
        refine wpC_ready (rs := [7]) (by kernel_rfl) (by simp) ?_
        refine AllC.cons (o := _) rfl (fun K hK => ?_) (AllC.nil)
        with_reducible refine step_app' (some 13) rfl rfl (.tmp 10) (.tmp 12) 23 rfl 121 _ 3 24 infoRA Tryz.underlying23 rfl (by omega) rfl rfl h4.a (HA.out W4 h4.bel) (tcells_one _) (by omega) (by omega) h4.bel.size ?_
        intro X c W5 ho hg hat
        rw [Nat.zero_add, List.nil_append] at ho
        have h5 := h4.growA ho hg hat
        refine hK.out _ _ h5.bel (fun _ => ?_)
        clear hK K ho hg hat h4
        simp only [Act.put, List.setIfInBounds_toArray, List.set_cons_zero, List.set_cons_succ, Nat.zero_add]
        refine wpC_ready (rs := [8]) (by kernel_rfl) (by simp) ?_
        refine AllC.cons (o := _) rfl (fun K hK => ?_) (AllC.nil)
        go_simp
        refine hK.out _ _ h5.bel (fun _ => ?_)
        have h6 := h5
        obtain ⟨W6, rfl⟩ : ∃ X, X = W5 := ⟨_, rfl⟩
        clear hK K h5
        try simp only [Act.put, List.setIfInBounds_toArray, List.set_cons_zero, List.set_cons_succ]
        exact ⟨by kernel_rfl, hC.out (.slice (some ⟨g0, 0, none⟩) 0 0) _ (.slice (some ⟨g4, 0, none⟩) 0 0) _ _ _ _ (CpG.of h6)⟩
    · go_simp
      refine hK.out _ _ h0.newN.bel (fun _ => ?_)
      have h1 := h0.newN
      obtain ⟨W1, q⟩ : ∃ X, X = W0.alloc (.cells #[.slice none 0 0, .slice none 0 0, .slice none 0 0] 26) := ⟨_, rfl⟩
      obtain ⟨g9, q2⟩ : ∃ g, g = W0.heap.size := ⟨_, rfl⟩
      rw [← q] at h1 ⊢
      try rw [← q2] at h1 ⊢
      clear hK K q q2 h0
      try simp only [Act.put, List.setIfInBounds_toArray, List.set_cons_zero, List.set_cons_succ]
      refine wpC_ready (rs := [0, 4]) (by kernel_rfl) (by simp) ?_
      refine AllC.cons (o := _) rfl (fun K hK => ?_) (AllC.cons (o := _) rfl (fun K hK => ?_) (AllC.nil))
      · go_simp
        refine hK.out _ _ h1.newV.bel (fun _ => ?_)
        have h2 := h1.newV
        obtain ⟨W2, q⟩ : ∃ X, X = W1.alloc (.cells #[] 119) := ⟨_, rfl⟩
        obtain ⟨g0, q2⟩ : ∃ g, g = W1.heap.size := ⟨_, rfl⟩
        rw [← q] at h2 ⊢
        try rw [← q2] at h2 ⊢
        clear hK K q q2 h1
        try simp only [Act.put, List.setIfInBounds_toArray, List.set_cons_zero, List.set_cons_succ]
        refine wpC_ready (rs := [3, 4]) (by kernel_rfl) (by simp) ?_
        refine AllC.cons (o := _) rfl (fun K hK => ?_) (AllC.cons (o := _) rfl (fun K hK => ?_) (AllC.nil))
        · with_reducible refine step_app' (some 9) rfl rfl (.tmp 6) (.tmp 8) 22 rfl 119 _ 3 24 infoRV Tryz.underlying22 rfl (by omega) rfl rfl h2.v (HV.out W2 h2.bel) (tcells_one _) (by omega) (by omega) h2.bel.size ?_
          intro X c W3 ho hg hat
          rw [Nat.zero_add, List.nil_append] at ho
          have h3 := h2.growV ho hg hat
          refine hK.out _ _ h3.bel (fun _ => ?_)
          clear hK K ho hg hat h2
          simp only [Act.put, List.setIfInBounds_toArray, List.set_cons_zero, List.set_cons_succ, Nat.zero_add]
          refine wpC_ready (rs := [4]) (by kernel_rfl) (by simp) ?_
          refine AllC.cons (o := _) rfl (fun K hK => ?_) (AllC.nil)
          go_simp
          refine hK.out _ _ h3.newA.bel (fun _ => ?_)
          have h4 := h3.newA
          obtain ⟨W4, q⟩ : ∃ X, X = W3.alloc (.cells #[] 121) := ⟨_, rfl⟩
          obtain ⟨g4, q2⟩ : ∃ g, g = W3.heap.size := ⟨_, rfl⟩
          rw [← q] at h4 ⊢
          try rw [← q2] at h4 ⊢
          clear hK K q q2 h3
          try simp only [Act.put, List.setIfInBounds_toArray, List.set_cons_zero, List.set_cons_succ]
          refine wpC_ready (rs := [7]) (by kernel_rfl) (by simp) ?_
          refine AllC.cons (o := _) rfl (fun K hK => ?_) (AllC.nil)
          with_reducible refine step_app' (some 13) rfl rfl (.tmp 10) (.tmp 12) 23 rfl 121 _ 3 24 infoRA Tryz.underlying23 rfl (by omega) rfl rfl h4.a (HA.out W4 h4.bel) (tcells_one _) (by omega) (by omega) h4.bel.size ?_
          intro X c W5 ho hg hat
          rw [Nat.zero_add, List.nil_append] at ho
          have h5 := h4.growA ho hg hat
          refine hK.out _ _ h5.bel (fun _ => ?_)
          clear hK K ho hg hat h4
          simp only [Act.put, List.setIfInBounds_toArray, List.set_cons_zero, List.set_cons_succ, Nat.zero_add]
          refine wpC_ready (rs := [8]) (by kernel_rfl) (by simp) ?_
          refine AllC.cons (o := _) rfl (fun K hK => ?_) (AllC.nil)
          go_simp
          refine hK.out _ _ h5.bel (fun _ => ?_)
          have h6 := h5
          obtain ⟨W6, rfl⟩ : ∃ X, X = W5 := ⟨_, rfl⟩
          clear hK K h5
          try simp only [Act.put, List.setIfInBounds_toArray, List.set_cons_zero, List.set_cons_succ]
          exact ⟨by kernel_rfl, hC.out (.slice (some ⟨g0, 0, none⟩) 0 0) _ (.slice (some ⟨g4, 0, none⟩) 0 0) _ _ _ _ (CpG.of h6)⟩
        · go_simp
          refine hK.out _ _ h2.newA.bel (fun _ => ?_)
          have h3 := h2.newA
          obtain ⟨W3, q⟩ : ∃ X, X = W2.alloc (.cells #[] 121) := ⟨_, rfl⟩
          obtain ⟨g4, q2⟩ : ∃ g, g = W2.heap.size := ⟨_, rfl⟩
          rw [← q] at h3 ⊢
          try rw [← q2] at h3 ⊢
          clear hK K q q2 h2
          try simp only [Act.put, List.setIfInBounds_toArray, List.set_cons_zero, List.set_cons_succ]
          refine wpC_ready (rs := [3]) (by kernel_rfl) (by simp) ?_
          refine AllC.cons (o := _) rfl (fun K hK => ?_) (AllC.nil)
          with_reducible refine step_app' (some 9) rfl rfl (.tmp 6) (.tmp 8) 22 rfl 119 _ 3 24 infoRV Tryz.underlying22 rfl (by omega) rfl rfl h3.v (HV.out W3 h3.bel) (tcells_one _) (by omega) (by omega) h3.bel.size ?_
          intro X c W4 ho hg hat
          rw [Nat.zero_add, List.nil_append] at ho
          have h4 := h3.growV ho hg hat
          refine hK.out _ _ h4.bel (fun _ => ?_)
          clear hK K ho hg hat h3
          simp only [Act.put, List.setIfInBounds_toArray, List.set_cons_zero, List.set_cons_succ, Nat.zero_add]
          refine wpC_ready (rs := [7]) (by kernel_rfl) (by simp) ?_
          refine AllC.cons (o := _) rfl (fun K hK => ?_) (AllC.nil)
          with_reducible refine step_app' (some 13) rfl rfl (.tmp 10) (.tmp 12) 23 rfl 121 _ 3 24 infoRA Tryz.underlying23 rfl (by omega) rfl rfl h4.a (HA.out W4 h4.bel) (tcells_one _) (by omega) (by omega) h4.bel.size ?_
          intro X c W5 ho hg hat
          rw [Nat.zero_add, List.nil_append] at ho
          have h5 := h4.growA ho hg hat
          refine hK.out _ _ h5.bel (fun _ => ?_)
          clear hK K ho hg hat h4
          simp only [Act.put, List.setIfInBounds_toArray, List.set_cons_zero, List.set_cons_succ, Nat.zero_add]
          refine wpC_ready (rs := [8]) (by kernel_rfl) (by simp) ?_
          refine AllC.cons (o := _) rfl (fun K hK => ?_) (AllC.nil)
          go_simp
          refine hK.out _ _ h5.bel (fun _ => ?_)
          have h6 := h5
          obtain ⟨W6, rfl⟩ : ∃ X, X = W5 := ⟨_, rfl⟩
          clear hK K h5
          try simp only [Act.put, List.setIfInBounds_toArray, List.set_cons_zero, List.set_cons_succ]
          exact ⟨by kernel_rfl, hC.out (.slice (some ⟨g0, 0, none⟩) 0 0) _ (.slice (some ⟨g4, 0, none⟩) 0 0) _ _ _ _ (CpG.of h6)⟩
      · go_simp
        refine hK.out _ _ h1.newA.bel (fun _ => ?_)
        have h2 := h1.newA
        obtain ⟨W2, q⟩ : ∃ X, X = W1.alloc (.cells #[] 121) := ⟨_, rfl⟩
        obtain ⟨g4, q2⟩ : ∃ g, g = W1.heap.size := ⟨_, rfl⟩
        rw [← q] at h2 ⊢
        try rw [← q2] at h2 ⊢
        clear hK K q q2 h1
        try simp only [Act.put, List.setIfInBounds_toArray, List.set_cons_zero, List.set_cons_succ]
        refine wpC_ready (rs := [0]) (by kernel_rfl) (by simp) ?_
        refine AllC.cons (o := _) rfl (fun K hK => ?_) (AllC.nil)
        go_simp
        refine hK.out _ _ h2.newV.bel (fun _ => ?_)
        have h3 := h2.newV
        obtain ⟨W3, q⟩ : ∃ X, X = W2.alloc (.cells #[] 119) := ⟨_, rfl⟩
        obtain ⟨g0, q2⟩ : ∃ g, g = W2.heap.size := ⟨_, rfl⟩
        rw [← q] at h3 ⊢
        try rw [← q2] at h3 ⊢
        clear hK K q q2 h2
        try simp only [Act.put, List.setIfInBounds_toArray, List.set_cons_zero, List.set_cons_succ]
        refine wpC_ready (rs := [3]) (by kernel_rfl) (by simp) ?_
        refine AllC.cons (o := _) rfl (fun K hK => ?_) (AllC.nil)
        with_reducible refine step_app' (some 9) rfl rfl (.tmp 6) (.tmp 8) 22 rfl 119 _ 3 24 infoRV Tryz.underlying22 rfl (by omega) rfl rfl h3.v (HV.out W3 h3.bel) (tcells_one _) (by omega) (by omega) h3.bel.size ?_
        intro X c W4 ho hg hat
        rw [Nat.zero_add, List.nil_append] at ho
        have h4 := h3.growV ho hg hat
        refine hK.out _ _ h4.bel (fun _ => ?_)
        clear hK K ho hg hat h3
        simp only [Act.put, List.setIfInBounds_toArray, List.set_cons_zero, List.set_cons_succ, Nat.zero_add]
        refine wpC_ready (rs := [7]) (by kernel_rfl) (by simp) ?_
        refine AllC.cons (o := _) rfl (fun K hK => ?_) (AllC.nil)
        with_reducible refine step_app' (some 13) rfl rfl (.tmp 10) (.tmp 12) 23 rfl 121 _ 3 24 infoRA Tryz.underlying23 rfl (by omega) rfl rfl h4.a (HA.out W4 h4.bel) (tcells_one _) (by omega) (by omega) h4.bel.size ?_
        intro X c W5 ho hg hat
        rw [Nat.zero_add, List.nil_append] at ho
        have h5 := h4.growA ho hg hat
        refine hK.out _ _ h5.bel (fun _ => ?_)
        clear hK K ho hg hat h4
        simp only [Act.put, List.setIfInBounds_toArray, List.set_cons_zero, List.set_cons_succ, Nat.zero_add]
        refine wpC_ready (rs := [8]) (by kernel_rfl) (by simp) ?_
        refine AllC.cons (o := _) rfl (fun K hK => ?_) (AllC.nil)
        go_simp
        refine hK.out _ _ h5.bel (fun _ => ?_)
        have h6 := h5
        obtain ⟨W6, rfl⟩ : ∃ X, X = W5 := ⟨_, rfl⟩
        clear hK K h5
        try simp only [Act.put, List.setIfInBounds_toArray, List.set_cons_zero, List.set_cons_succ]
        exact ⟨by kernel_rfl, hC.out (.slice (some ⟨g0, 0, none⟩) 0 0) _ (.slice (some ⟨g4, 0, none⟩) 0 0) _ _ _ _ (CpG.of h6)⟩
  · rintro v6 v9 v10 v13 v14 v3 W ⟨V, A5, c1, c2, g, rfl, rfl, rfl, rfl, hS⟩
    simp only [Act.put, List.setIfInBounds_toArray, List.set_cons_zero, List.set_cons_succ]
    obtain ⟨hN9, hg9, hgV, hgA⟩ := hS.nw g rfl
    obtain ⟨k0, k1, k2⟩ := hN9.three
    have f0 := hN9.frozen 0
    have f1 := hN9.frozen 1
    have f2 := hN9.frozen 2
    have hbW : Below w.heap.size w W := Bel.step hb1 hS.bel
    refine wpAnyH_ready (rs := [10]) (by kernel_rfl) (by simp) ?_
    refine AllReadyH.cons (o := _) rfl (fun K hK => ?_) AllReadyH.nil
    go_simp
    refine hK.out _ _ (((hS.bel.setCell hg9 _).setCell hg9 _).setCell hg9 _) (fun _ => ?_)
    clear hK K
    refine wpAnyH_done (by kernel_rfl) ?_ _
    obtain ⟨w3, hw3⟩ : ∃ X, X = ((W.setCell ⟨g, 0, none⟩ (.slice V n c1)).setCell ⟨g, 1, none⟩ (.slice A5 m c2)).setCell ⟨g, 2, none⟩ (.slice none 0 0) := ⟨_, rfl⟩
    rw [← hw3]
    have hb3 : Below w1.heap.size w1 w3 := by rw [hw3]; exact ((hS.bel.setCell hg9 _).setCell hg9 _).setCell hg9 _
    have hN3 : Blk w3 g 26 #[.slice V n c1, .slice A5 m c2, .slice none 0 0] := by rw [hw3]; exact ((hN9.set_ 0 _).set_ 1 _).set_ 2 _
    have far3 : ∀ {e : TypeId} {s n' c' : Nat} {X : Option Addr} {xs : List Value}, Own W w1.heap.size e s X n' c' xs → blkOf X ≠ some g → Own w3 w1.heap.size e s X n' c' xs := fun h hne => by
      rw [hw3]
      exact ((h.far (grownBy_set _ g 0 _) (.inr hne)).far (grownBy_set _ g 1 _) (.inr hne)).far (grownBy_set _ g 2 _) (.inr hne)
    have hV3 := far3 hS.v hgV
    have hA3 := far3 hS.a hgA
    have HDJ := Lib.hid hS.dj
    clear hw3 far3 hS hN9 k0 k1 k2 f0 f1 f2 hbW
    have hJ3 := hJ.below hb3 hJ.lt
    have hR3 := hR.below hb3 hR.lt
    have hB3 := Bel.step hb1 hb3
    have hgl := hN3.lt
    have hzw : w.heap.size + 2 ≤ w3.heap.size := by have := hb3.size; omega
    have HVL := Lib.hid (fun b hb => (hV3.lt b hb).2)
    have HAL := Lib.hid (fun b hb => (hA3.lt b hb).2)
    have hgw : w.heap.size + 2 ≤ g := by omega
    clear hb3 hJ hR hb1 HSX HV HA hg9
    go_wp2_with fail
    go_loopw [4] (fun q X => w3.heap.size ≤ X.heap.size ∧ Below w.heap.size w X ∧ Blk X w.heap.size 26 #[.slice A n c, .slice B m d, .slice C k e] ∧ Blk X (w.heap.size + 1) 26 #[.slice none 0 0, .slice none 0 0, .slice none 0 0] ∧ Own X w1.heap.size 119 3 V n c1 (tcells N.vs) ∧ Own X w1.heap.size 121 3 A5 m c2 (tcells N.ar) ∧ ∃ (j : Nat) (C3 : Option Addr) (e3 : Nat) (xs : List Value), j ≤ k ∧ q = .int .i64 j ∧ Blk X g 26 #[.slice V n c1, .slice A5 m c2, .slice C3 j e3] ∧ YwR X w3.heap.size C3 j e3 xs (N.ts.take j)) (fun q _ => k - (intOf q).toNat)
    case atStart => exact ⟨Nat.le_refl _, hB3, hJ3, hR3, hV3, hA3, 0, none, 0, [], Nat.zero_le _, rfl, hN3, by simpa using YwR.nil _ _⟩
    case round =>
      clear hB3 hJ3 hR3 hV3 hA3 hN3
      obtain ⟨hszr, hbl, hJ, hR, hVo, hAo, j, C3, e3, xs, hj, rfl, hK0, hown⟩ := hrel
      obtain ⟨j0, j1, j2⟩ := hJ.three
      by_cases hlt : j < k
      · obtain ⟨sb, so, t, rfl, ht, cx, cy, A', n', c', cz, hr, hc1', hc2'⟩ := (HY.out.below hbl).at_ hlt
        have HNX := Lib.hid (show N.ts.take (j + 1) = N.ts.take j ++ [t] by
          rw [List.take_succ_eq_append_getElem (List.getElem?_eq_some_iff.1 ht).1, (List.getElem?_eq_some_iff.1 ht).2])
        have hn' : n' ≤ 1000000 := by have := HC.out t (List.mem_of_getElem? ht); rw [hr.1] at this; exact this
        have HRT := Lib.hid (show ∀ X, Below wr.heap.size wr X → Rds X 1 A' n' (icells t.costs) from fun X hX => (hr.below hX).rdsI)
        have i3 : (0 : Int) ≤ (j : Int) := by omega
        have i4 : (j : Int) < (k : Int) := by omega
        clear ht hr j0 j1
        go_wp2_with fail
        obtain ⟨gt, hgt⟩ : ∃ x, x = wr.heap.size := ⟨_, rfl⟩
        obtain ⟨Wa, hWa⟩ : ∃ x, x = wr.alloc (.cells #[.int .i64 t.ins, .int .i64 t.outs, .slice A' n' c'] 117) := ⟨_, rfl⟩
        rw [← hWa]
        try rw [← hgt]
        skip
        have hgl2 : g < wr.heap.size := by omega
        have hTa : Blk Wa gt 117 #[.int .i64 t.ins, .int .i64 t.outs, .slice A' n' c'] := by rw [hWa, hgt]; exact Blk.new _ _ _
        have hba : Below wr.heap.size wr Wa := by rw [hWa]; exact Bel.alloc (Below.refl _ _)
        clear hWa cx cy cz j2
        have hJa := hJ.below hba hJ.lt
        have hRa := hR.below hba hR.lt
        have hVa := hVo.below hba
        have hAa := hAo.below hba
        have hKa := hK0.below hba hK0.lt
        have hYa := hown.below hba
        have hbla := Bel.step hbl hba
        have hCgt : blkOf C3 ≠ some gt := fun e => by have := (hown.1.lt gt e).2; omega
        have hsza : w3.heap.size ≤ Wa.heap.size := by have := hba.size; omega
        have HRA := Lib.hid (show ∀ X, Below Wa.heap.size Wa X → Rds X 1 A' n' (icells t.costs) from fun X hX => HRT.out X (Bel.step hba hX))
        have hgtg : gt ≠ g := by omega
        clear hJ hR hVo hAo hK0 hown hbl HRT hszr hgt
        have hKc := hKa.three.2.2
        have HSX := Lib.hid (show ∀ X, Blk X gt 117 #[.int .i64 t.ins, .int .i64 t.outs, .slice A' n' c'] → X.cell? ⟨gt, 0, none⟩ = some (.int .i64 t.ins) ∧ X.cell? ⟨gt, 1, none⟩ = some (.int .i64 t.outs) ∧ X.cell? ⟨gt, 2, none⟩ = some (.slice A' n' c') from fun X hX => hX.three)
        refine wp_region_held_drew (S := fun X => Blk X gt 117 #[.int .i64 t.ins, .int .i64 t.outs, .slice A' n' c']) (by kernel_rfl) hTa.drew (fun _ => ?_)
        refine take_ (i := 0) (d := some 27) (v := ?_) rfl rfl (by kernel_rfl) (by kernel_rfl) (by kernel_rfl) (fun _ _ _ h => h) (by rfl) ?_ (by first | rfl | trivial | assumption) ?_
        rotate_left
        · (intro V hSw; (try (have hF := HSX.out V hSw)); (try (cases hSw)); (try go_split_ands); go_simp; try with_reducible rfl)
        simp only [Act.put, List.setIfInBounds_toArray, List.set_cons_zero, List.set_cons_succ]
        refine take_ (i := 2) (d := some 29) (v := ?_) rfl rfl (by kernel_rfl) (by kernel_rfl) (by kernel_rfl) (fun _ _ _ h => h) (by rfl) ?_ (by first | rfl | trivial | assumption) ?_
        rotate_left
        · (intro V hSw; (try (have hF := HSX.out V hSw)); (try (cases hSw)); (try go_split_ands); go_simp; try with_reducible rfl)
        simp only [Act.put, List.setIfInBounds_toArray, List.set_cons_zero, List.set_cons_succ]
        refine take_ (i := 3) (d := some 30) (v := ?_) rfl rfl (by kernel_rfl) (by kernel_rfl) (by kernel_rfl) (fun _ _ _ h => h) (by rfl) ?_ (by first | rfl | trivial | assumption) ?_
        rotate_left
        · (intro V hSw; (try (have hF := HSX.out V hSw)); (try (cases hSw)); (try go_split_ands); go_simp; try with_reducible rfl)
        simp only [Act.put, List.setIfInBounds_toArray, List.set_cons_zero, List.set_cons_succ]
        refine take_ (i := 4) (d := some 31) (v := ?_) rfl rfl (by kernel_rfl) (by kernel_rfl) (by kernel_rfl) (fun _ _ _ h => h) (by rfl) ?_ (by first | rfl | trivial | assumption) ?_
        rotate_left
        · (intro V hSw; (try (have hF := HSX.out V hSw)); (try (cases hSw)); (try go_split_ands); go_simp; try with_reducible rfl)
        simp only [Act.put, List.setIfInBounds_toArray, List.set_cons_zero, List.set_cons_succ]
        refine take_ (i := 5) (d := some 32) (v := ?_) rfl rfl (by kernel_rfl) (by kernel_rfl) (by kernel_rfl) (fun _ _ _ h => h) (by rfl) ?_ (by first | rfl | trivial | assumption) ?_
        rotate_left
        · (intro V hSw; (try (have hF := HSX.out V hSw)); (try (cases hSw)); (try go_split_ands); go_simp; try with_reducible rfl)
        simp only [Act.put, List.setIfInBounds_toArray, List.set_cons_zero, List.set_cons_succ]
        refine take_ (i := 7) (d := some 34) (v := ?_) rfl rfl (by kernel_rfl) (by kernel_rfl) (by kernel_rfl) (fun _ _ _ h => h) (by rfl) ?_ (by first | rfl | trivial | assumption) ?_
        rotate_left
        · (intro V hSw; (try (have hF := HSX.out V hSw)); (try (cases hSw)); (try go_split_ands); go_simp; try with_reducible rfl)
        simp only [Act.put, List.setIfInBounds_toArray, List.set_cons_zero, List.set_cons_succ]
        refine take_ (i := 8) (d := some 35) (v := ?_) rfl rfl (by kernel_rfl) (by kernel_rfl) (by kernel_rfl) (fun _ _ _ h => h) (by rfl) ?_ (by first | rfl | trivial | assumption) ?_
        rotate_left
        · (intro V hSw; (try (have hF := HSX.out V hSw)); (try (cases hSw)); (try go_split_ands); go_simp; try with_reducible rfl)
        simp only [Act.put, List.setIfInBounds_toArray, List.set_cons_zero, List.set_cons_succ]
        have u0 := CyS.start Wa
        obtain ⟨U0, q⟩ : ∃ X, X = Wa.drew := ⟨_, rfl⟩
        rw [← q] at u0 ⊢
        clear q
        refine wpAnyH_five (G := CyG Wa C3 j e3 n' t) (L := #[true, true, true, true, true, true, true, true, true, true, true, true, false, false, false]) (f0 := 3) (some 28) (some 33) (some 36) (some 37) (some 38) rfl (fun C0 hC => ?_) ?_
        · skip
          refine wpC_ready (rs := [1, 6]) (by kernel_rfl) (by simp) ?_
          refine AllC.cons (o := _) rfl (fun K hK => ?_) (AllC.cons (o := _) rfl (fun K hK => ?_) (AllC.nil))
          · have kk := Below.cellOf u0.bel (Nat.le_refl _) hKc
            go_simp
            clear kk
            refine hK.out _ _ (hTa.below u0.bel hTa.lt) (fun _ => ?_)
            have u1 := u0
            obtain ⟨U1, rfl⟩ : ∃ X, X = U0 := ⟨_, rfl⟩
            clear hK K u0
            try simp only [Act.put, List.setIfInBounds_toArray, List.set_cons_zero, List.set_cons_succ]
            refine wpC_ready (rs := [6]) (by kernel_rfl) (by simp) ?_
            refine AllC.cons (o := _) rfl (fun K hK => ?_) (AllC.nil)
            go_simp
            have u2 := u1.newR
            refine hK.out _ _ (hTa.below u2.bel hTa.lt) (fun _ => ?_)
            obtain ⟨U2, q⟩ : ∃ X, X = U1.alloc (.cells #[] 2) := ⟨_, rfl⟩
            obtain ⟨g6, q2⟩ : ∃ g, g = U1.heap.size := ⟨_, rfl⟩
            rw [← q] at u2 ⊢
            try rw [← q2] at u2 ⊢
            clear hK K q q2 u1
            try simp only [Act.put, List.setIfInBounds_toArray, List.set_cons_zero, List.set_cons_succ]
            refine wpC_ready (rs := [9]) (by kernel_rfl) (by simp) ?_
            refine AllC.cons (o := _) rfl (fun K hK => ?_) (AllC.nil)
            with_reducible refine step_app' (some 36) rfl rfl (.tmp 33) (.tmp 35) 115 rfl 2 _ 1 8 infoI64 Tryz.underlying115 rfl (by omega) rfl rfl u2.r (HRA.out U2 u2.bel) (icells_one _) (by omega) (by omega) u2.bel.size ?_
            intro R2 rc U3 ho hg _
            rw [Nat.zero_add, List.nil_append] at ho
            have u3 := u2.growR ho hg
            refine hK.out _ _ (hTa.below u3.bel hTa.lt) (fun _ => ?_)
            clear hK K ho hg u2
            simp only [Act.put, List.setIfInBounds_toArray, List.set_cons_zero, List.set_cons_succ, Nat.zero_add]
            refine wpC_ready (rs := [10]) (by kernel_rfl) (by simp) ?_
            refine AllC.cons (o := _) rfl (fun K hK => ?_) (AllC.nil)
            go_simp
            refine hK.out _ _ (hTa.below u3.bel hTa.lt) (fun _ => ?_)
            have u4 := u3
            obtain ⟨U4, rfl⟩ : ∃ X, X = U3 := ⟨_, rfl⟩
            clear hK K u3
            try simp only [Act.put, List.setIfInBounds_toArray, List.set_cons_zero, List.set_cons_succ]
            refine wpC_ready (rs := [11]) (by kernel_rfl) (by simp) ?_
            refine AllC.cons (o := _) rfl (fun K hK => ?_) (AllC.nil)
            go_simp
            have u5 := u4.newT (.int .i64 t.ins) (.int .i64 t.outs) (.slice R2 n' rc)
            refine hK.out _ _ (hTa.below u5.bel hTa.lt) (fun _ => ?_)
            obtain ⟨U5, q⟩ : ∃ X, X = U4.alloc (.cells #[.int .i64 t.ins, .int .i64 t.outs, .slice R2 n' rc] 117) := ⟨_, rfl⟩
            obtain ⟨g11, q2⟩ : ∃ g, g = U4.heap.size := ⟨_, rfl⟩
            rw [← q] at u5 ⊢
            try rw [← q2] at u5 ⊢
            clear hK K q q2 u4
            try simp only [Act.put, List.setIfInBounds_toArray, List.set_cons_zero, List.set_cons_succ]
            exact ⟨by kernel_rfl, hC.out _ (.slice (some ⟨g6, 0, none⟩) 0 0) _ _ _ _ (CyG.of u5)⟩
          · go_simp
            have u1 := u0.newR
            refine hK.out _ _ (hTa.below u1.bel hTa.lt) (fun _ => ?_)
            obtain ⟨U1, q⟩ : ∃ X, X = U0.alloc (.cells #[] 2) := ⟨_, rfl⟩
            obtain ⟨g6, q2⟩ : ∃ g, g = U0.heap.size := ⟨_, rfl⟩
            rw [← q] at u1 ⊢
            try rw [← q2] at u1 ⊢
            clear hK K q q2 u0
            try simp only [Act.put, List.setIfInBounds_toArray, List.set_cons_zero, List.set_cons_succ]
            refine wpC_ready (rs := [1, 9]) (by kernel_rfl) (by simp) ?_
            refine AllC.cons (o := _) rfl (fun K hK => ?_) (AllC.cons (o := _) rfl (fun K hK => ?_) (AllC.nil))
            · have kk := Below.cellOf u1.bel (Nat.le_refl _) hKc
              go_simp
              clear kk
              refine hK.out _ _ (hTa.below u1.bel hTa.lt) (fun _ => ?_)
              have u2 := u1
              obtain ⟨U2, rfl⟩ : ∃ X, X = U1 := ⟨_, rfl⟩
              clear hK K u1
              try simp only [Act.put, List.setIfInBounds_toArray, List.set_cons_zero, List.set_cons_succ]
              refine wpC_ready (rs := [9]) (by kernel_rfl) (by simp) ?_
              refine AllC.cons (o := _) rfl (fun K hK => ?_) (AllC.nil)
              with_reducible refine step_app' (some 36) rfl rfl (.tmp 33) (.tmp 35) 115 rfl 2 _ 1 8 infoI64 Tryz.underlying115 rfl (by omega) rfl rfl u2.r (HRA.out U2 u2.bel) (icells_one _) (by omega) (by omega) u2.bel.size ?_
              intro R2 rc U3 ho hg _
              rw [Nat.zero_add, List.nil_append] at ho
              have u3 := u2.growR ho hg
              refine hK.out _ _ (hTa.below u3.bel hTa.lt) (fun _ => ?_)
              clear hK K ho hg u2
              simp only [Act.put, List.setIfInBounds_toArray, List.set_cons_zero, List.set_cons_succ, Nat.zero_add]
              refine wpC_ready (rs := [10]) (by kernel_rfl) (by simp) ?_
              refine AllC.cons (o := _) rfl (fun K hK => ?_) (AllC.nil)
              go_simp
              refine hK.out _ _ (hTa.below u3.bel hTa.lt) (fun _ => ?_)
              have u4 := u3
              obtain ⟨U4, rfl⟩ : ∃ X, X = U3 := ⟨_, rfl⟩
              clear hK K u3
              try simp only [Act.put, List.setIfInBounds_toArray, List.set_cons_zero, List.set_cons_succ]
              refine wpC_ready (rs := [11]) (by kernel_rfl) (by simp) ?_
              refine AllC.cons (o := _) rfl (fun K hK => ?_) (AllC.nil)
              go_simp
              have u5 := u4.newT (.int .i64 t.ins) (.int .i64 t.outs) (.slice R2 n' rc)
              refine hK.out _ _ (hTa.below u5.bel hTa.lt) (fun _ => ?_)
              obtain ⟨U5, q⟩ : ∃ X, X = U4.alloc (.cells #[.int .i64 t.ins, .int .i64 t.outs, .slice R2 n' rc] 117) := ⟨_, rfl⟩
              obtain ⟨g11, q2⟩ : ∃ g, g = U4.heap.size := ⟨_, rfl⟩
              rw [← q] at u5 ⊢
              try rw [← q2] at u5 ⊢
              clear hK K q q2 u4
              try simp only [Act.put, List.setIfInBounds_toArray, List.set_cons_zero, List.set_cons_succ]
              exact ⟨by kernel_rfl, hC.out _ (.slice (some ⟨g6, 0, none⟩) 0 0) _ _ _ _ (CyG.of u5)⟩
            · with_reducible refine step_app' (some 36) rfl rfl (.tmp 33) (.tmp 35) 115 rfl 2 _ 1 8 infoI64 Tryz.underlying115 rfl (by omega) rfl rfl u1.r (HRA.out U1 u1.bel) (icells_one _) (by omega) (by omega) u1.bel.size ?_
              intro R2 rc U2 ho hg _
              rw [Nat.zero_add, List.nil_append] at ho
              have u2 := u1.growR ho hg
              refine hK.out _ _ (hTa.below u2.bel hTa.lt) (fun _ => ?_)
              clear hK K ho hg u1
              simp only [Act.put, List.setIfInBounds_toArray, List.set_cons_zero, List.set_cons_succ, Nat.zero_add]
              refine wpC_ready (rs := [1, 10]) (by kernel_rfl) (by simp) ?_
              refine AllC.cons (o := _) rfl (fun K hK => ?_) (AllC.cons (o := _) rfl (fun K hK => ?_) (AllC.nil))
              · have kk := Below.cellOf u2.bel (Nat.le_refl _) hKc
                go_simp
                clear kk
                refine hK.out _ _ (hTa.below u2.bel hTa.lt) (fun _ => ?_)
                have u3 := u2
                obtain ⟨U3, rfl⟩ : ∃ X, X = U2 := ⟨_, rfl⟩
                clear hK K u2
                try simp only [Act.put, List.setIfInBounds_toArray, List.set_cons_zero, List.set_cons_succ]
                refine wpC_ready (rs := [10]) (by kernel_rfl) (by simp) ?_
                refine AllC.cons (o := _) rfl (fun K hK => ?_) (AllC.nil)
                go_simp
                refine hK.out _ _ (hTa.below u3.bel hTa.lt) (fun _ => ?_)
                have u4 := u3
                obtain ⟨U4, rfl⟩ : ∃ X, X = U3 := ⟨_, rfl⟩
                clear hK K u3
                try simp only [Act.put, List.setIfInBounds_toArray, List.set_cons_zero, List.set_cons_succ]
                refine wpC_ready (rs := [11]) (by kernel_rfl) (by simp) ?_
                refine AllC.cons (o := _) rfl (fun K hK => ?_) (AllC.nil)
                go_simp
                have u5 := u4.newT (.int .i64 t.ins) (.int .i64 t.outs) (.slice R2 n' rc)
                refine hK.out _ _ (hTa.below u5.bel hTa.lt) (fun _ => ?_)
                obtain ⟨U5, q⟩ : ∃ X, X = U4.alloc (.cells #[.int .i64 t.ins, .int .i64 t.outs, .slice R2 n' rc] 117) := ⟨_, rfl⟩
                obtain ⟨g11, q2⟩ : ∃ g, g = U4.heap.size := ⟨_, rfl⟩
                rw [← q] at u5 ⊢
                try rw [← q2] at u5 ⊢
                clear hK K q q2 u4
                try simp only [Act.put, List.setIfInBounds_toArray, List.set_cons_zero, List.set_cons_succ]
                exact ⟨by kernel_rfl, hC.out _ (.slice (some ⟨g6, 0, none⟩) 0 0) _ _ _ _ (CyG.of u5)⟩
              · go_simp
                refine hK.out _ _ (hTa.below u2.bel hTa.lt) (fun _ => ?_)
                have u3 := u2
                obtain ⟨U3, rfl⟩ : ∃ X, X = U2 := ⟨_, rfl⟩
                clear hK K u2
                try simp only [Act.put, List.setIfInBounds_toArray, List.set_cons_zero, List.set_cons_succ]
                refine wpC_ready (rs := [1, 11]) (by kernel_rfl) (by simp) ?_
                refine AllC.cons (o := _) rfl (fun K hK => ?_) (AllC.cons (o := _) rfl (fun K hK => ?_) (AllC.nil))
                · have kk := Below.cellOf u3.bel (Nat.le_refl _) hKc
                  go_simp
                  clear kk
                  refine hK.out _ _ (hTa.below u3.bel hTa.lt) (fun _ => ?_)
                  have u4 := u3
                  obtain ⟨U4, rfl⟩ : ∃ X, X = U3 := ⟨_, rfl⟩
                  clear hK K u3
                  try simp only [Act.put, List.setIfInBounds_toArray, List.set_cons_zero, List.set_cons_succ]
                  refine wpC_ready (rs := [11]) (by kernel_rfl) (by simp) ?_
                  refine AllC.cons (o := _) rfl (fun K hK => ?_) (AllC.nil)
                  go_simp
                  have u5 := u4.newT (.int .i64 t.ins) (.int .i64 t.outs) (.slice R2 n' rc)
                  refine hK.out _ _ (hTa.below u5.bel hTa.lt) (fun _ => ?_)
                  obtain ⟨U5, q⟩ : ∃ X, X = U4.alloc (.cells #[.int .i64 t.ins, .int .i64 t.outs, .slice R2 n' rc] 117) := ⟨_, rfl⟩
                  obtain ⟨g11, q2⟩ : ∃ g, g = U4.heap.size := ⟨_, rfl⟩
                  rw [← q] at u5 ⊢
                  try rw [← q2] at u5 ⊢
                  clear hK K q q2 u4
                  try simp only [Act.put, List.setIfInBounds_toArray, List.set_cons_zero, List.set_cons_succ]
                  exact ⟨by kernel_rfl, hC.out _ (.slice (some ⟨g6, 0, none⟩) 0 0) _ _ _ _ (CyG.of u5)⟩
                · go_simp
                  have u4 := u3.newT (.int .i64 t.ins) (.int .i64 t.outs) (.slice R2 n' rc)
                  refine hK.out _ _ (hTa.below u4.bel hTa.lt) (fun _ => ?_)
                  obtain ⟨U4, q⟩ : ∃ X, X = U3.alloc (.cells #[.int .i64 t.ins, .int .i64 t.outs, .slice R2 n' rc] 117) := ⟨_, rfl⟩
                  obtain ⟨g11, q2⟩ : ∃ g, g = U3.heap.size := ⟨_, rfl⟩
                  rw [← q] at u4 ⊢
                  try rw [← q2] at u4 ⊢
                  clear hK K q q2 u3
                  try simp only [Act.put, List.setIfInBounds_toArray, List.set_cons_zero, List.set_cons_succ]
                  refine wpC_ready (rs := [1]) (by kernel_rfl) (by simp) ?_
                  refine AllC.cons (o := _) rfl (fun K hK => ?_) (AllC.nil)
                  have kk := Below.cellOf u4.bel (Nat.le_refl _) hKc
                  go_simp
                  clear kk
                  refine hK.out _ _ (hTa.below u4.bel hTa.lt) (fun _ => ?_)
                  have u5 := u4
                  obtain ⟨U5, rfl⟩ : ∃ X, X = U4 := ⟨_, rfl⟩
                  clear hK K u4
                  try simp only [Act.put, List.setIfInBounds_toArray, List.set_cons_zero, List.set_cons_succ]
                  exact ⟨by kernel_rfl, hC.out _ (.slice (some ⟨g6, 0, none⟩) 0 0) _ _ _ _ (CyG.of u5)⟩
        · rintro v28 v33 v36 v37 v38 W9 ⟨A2, c2', g11, rfl, rfl, rfl, rfl, hS9⟩
          simp only [Act.put, List.setIfInBounds_toArray, List.set_cons_zero, List.set_cons_succ]
          have hb9 := hS9.bel
          have hyW := hYa.below hb9
          have hVW := hVa.below hb9
          have hAW := hAa.below hb9
          have hJW := hJa.below hb9 hJa.lt
          have hRW := hRa.below hb9 hRa.lt
          have hKW := hKa.below hb9 hKa.lt
          have hTW := hTa.below hb9 hTa.lt
          have hblW := Bel.step hbla hb9
          have hrdW : Rds W9 3 (some ⟨g11, 0, none⟩) 1 [.int .i64 t.ins, .int .i64 t.outs, .slice A2 n' c2'] := by
            rcases hS9.t1 with h | h
            · cases h
            · exact h
          have hcW := hS9.r.rds.rdI
          have hcapW := hS9.r.cap
          have hcapM := hS9.r.capMax
          have hclW : ∀ b, blkOf A2 = some b → w3.heap.size ≤ b ∧ b < W9.heap.size ∧ blkOf C3 ≠ some b := fun b hb => by
            have h1 := hS9.r.lt b hb
            refine ⟨by omega, h1.2, fun e => ?_⟩
            have h2 := (hYa.1.lt b e).2
            omega
          have hszW : w3.heap.size ≤ W9.heap.size := by have := hb9.size; omega
          have HYY := Lib.hid hyW
          have hownY := hyW.1
          have HONE := Lib.hid (show ∀ u ∈ [Value.int .i64 t.ins, .int .i64 t.outs, .slice A2 n' c2'], u.oneCell' = true from fun u hu => by
            simp at hu
            rcases hu with rfl | rfl | rfl <;> rfl)
          clear hyW hS9 hb9 hYa hVa hAa hJa hRa hKa hTa hbla
          refine wpAnyH_ready (rs := [12]) (by kernel_rfl) (by simp) ?_
          refine AllReadyH.cons (o := _) rfl (fun K hK => ?_) AllReadyH.nil
          with_reducible refine step_app' (some 39) rfl rfl (.tmp 28) (.tmp 38) 24 rfl 117 _ 3 40 infoRT Tryz.underlying24 rfl (by omega) rfl rfl hownY hrdW HONE.out (by omega) (by omega) hszW ?_
          intro Y' c' w' hown' hg hat
          have hb6 : Below w.heap.size w w' := Bel.grownOwn hblW hg (hownY.mono (by omega)) (by omega)
          have hJ' := hJW.grown hg (hownY.ne (by omega))
          have hR' := hRW.grown hg (hownY.ne (by omega))
          have hK' := hKW.grown hg (hownY.ne (by omega))
          have hT' := hTW.grown hg hCgt
          have hV' := hVW.far hg (Own.apart HVL.out hownY)
          have hA' := hAW.far hg (Own.apart HAL.out hownY)
          have hsz' : w3.heap.size ≤ w'.heap.size := Nat.le_trans hszW hg.size
          have HYN := Lib.hid (HYY.out.push hown' hg hat hcW hclW hcapW hcapM)
          clear hownY hrdW hblW hJW hRW hKW hTW hg hVW hAW hclW hcW hown' hat HYY hcapW hcapM hCgt
          refine hK.out _ _ hT' (fun _ => ?_)
          clear hK K
          simp only [Act.put, List.setIfInBounds_toArray, List.set_cons_zero, List.set_cons_succ]
          refine take_ (i := 13) (d := some 40) (v := ?_) rfl rfl (by kernel_rfl) (by kernel_rfl) (by kernel_rfl) (fun _ _ _ h => h) (by rfl) ?_ (by first | rfl | trivial | assumption) ?_
          rotate_left
          · (intro V hSw; (try (have hF := HSX.out V hSw)); (try (cases hSw)); (try go_split_ands); go_simp; try with_reducible rfl)
          simp only [Act.put, List.setIfInBounds_toArray, List.set_cons_zero, List.set_cons_succ]
          obtain ⟨k3a, k3b, k3c⟩ := hK'.three
          have kf' := hK'.frozen 2
          refine wpAnyH_ready (rs := [14]) (by kernel_rfl) (by simp) ?_
          refine AllReadyH.cons (o := _) rfl (fun K hK => ?_) AllReadyH.nil
          go_simp
          refine hK.out _ _ (hT'.far hgtg _) (fun _ => ?_)
          clear hK K
          refine wpAnyH_done (by kernel_rfl) ?_ _
          have HK2 := Lib.hid (hK'.set_ 2 (.slice Y' (j + 1) c'))
          have HV2 := Lib.hid (hV'.far (grownBy_set w' g 2 (.slice Y' (j + 1) c')) (.inr hgV))
          have HA2 := Lib.hid (hA'.far (grownBy_set w' g 2 (.slice Y' (j + 1) c')) (.inr hgA))
          have HY2 := Lib.hid (HYN.out.far (grownBy_set w' g 2 (.slice Y' (j + 1) c')) (by omega))
          have hb7 : Below w.heap.size w (w'.setCell ⟨g, 2, none⟩ (.slice Y' (j + 1) c')) := hb6.setCell (by simp only; omega) _
          have hJ7 : Blk (w'.setCell ⟨g, 2, none⟩ (.slice Y' (j + 1) c')) w.heap.size 26 #[.slice A n c, .slice B m d, .slice (some ⟨sb, so, none⟩) k e] := hJ'.far (by simp only; omega) _
          have hR7 := hR'.far (p := ⟨g, 2, none⟩) (by simp only; omega) (.slice Y' (j + 1) c')
          clear hV' hA' hK' k3a k3b k3c kf' hT' hJ' hR' hb6
          go_wp2_with fail
          go_roundw
          case rel => exact ⟨(by simp [World.setCell]; omega), hb7, hJ7, hR7, HV2.out, HA2.out, j + 1, Y', c', _, by omega, by go_num, HK2.out, by rw [HNX.out]; exact HY2.out⟩
          case measure => simp [intOf]; omega
      · obtain rfl : k = j := by omega
        rw [List.take_of_length_le (by rw [HY.out.1]; exact Nat.le_refl _)] at hown
        obtain ⟨q0, q1, q2⟩ := hK0.three
        have f0 := hR.frozen 0
        have f1 := hR.frozen 1
        have f2 := hR.frozen 2
        obtain ⟨r0, r1, r2⟩ := hR.three
        have hz1' : w.heap.size + 2 ≤ w1.heap.size := by omega
        have HV5 := Lib.hid ((((hVo.far (grownBy_set wr (w.heap.size + 1) 0 (.slice V n c1)) (.inr (hVo.ne (by omega)))).far (grownBy_set _ (w.heap.size + 1) 1 (.slice A5 m c2)) (.inr (hVo.ne (by omega)))).far (grownBy_set _ (w.heap.size + 1) 2 (.slice C3 k e3)) (.inr (hVo.ne (by omega)))).mono (show w.heap.size ≤ w1.heap.size by omega))
        have HA5 := Lib.hid ((((hAo.far (grownBy_set wr (w.heap.size + 1) 0 (.slice V n c1)) (.inr (hAo.ne (by omega)))).far (grownBy_set _ (w.heap.size + 1) 1 (.slice A5 m c2)) (.inr (hAo.ne (by omega)))).far (grownBy_set _ (w.heap.size + 1) 2 (.slice C3 k e3)) (.inr (hAo.ne (by omega)))).mono (show w.heap.size ≤ w1.heap.size by omega))
        have HY5 := Lib.hid (((hown.far (grownBy_set wr (w.heap.size + 1) 0 (.slice V n c1)) (by omega)).far (grownBy_set _ (w.heap.size + 1) 1 (.slice A5 m c2)) (by omega)).far (grownBy_set _ (w.heap.size + 1) 2 (.slice C3 k e3)) (by omega))
        have hb5 : Below w.heap.size w (((wr.setCell ⟨w.heap.size + 1, 0, none⟩ (.slice V n c1)).setCell ⟨w.heap.size + 1, 1, none⟩ (.slice A5 m c2)).setCell ⟨w.heap.size + 1, 2, none⟩ (.slice C3 k e3)) := ((hbl.setCell (by simp only; omega) _).setCell (by simp only; omega) _).setCell (by simp only; omega) _
        clear hVo hAo hown j0 j1 hR hbl
        go_wp2_with fail
        refine bodyPost_ret (v := .agg #[.slice V n c1, .slice A5 m c2, .slice C3 k e3]) (by simp [results, Tryz.results79, go_sem, r0, r1, r2]) rfl ?_
        exact ⟨V, A5, C3, c1, c2, e3, w3.heap.size, xs, rfl, by omega, HV5.out, HA5.out, HY5.out, HDJ.out, HVL.out, HAL.out, hb5⟩
end Go.Proofs.YtgkeolddpielpaaGreatDoor
