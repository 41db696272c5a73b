/- Parts of the proof: Do, Do2. -/
import Derived.Test.YtgkeolddpielpaaGreatDoorM18
/- law6.Do: a change of a graph, and of the document's net. -/
namespace Go.Proofs.YtgkeolddpielpaaGreatDoor
open Go.RowKit Go.Extern.Stop Go.Stop Go.Extern

attribute [local go_sem ↓] Go.wp_at_zero Go.wp_at_succ

/-- No error, or Faults with an Errno. -/
def ErrV (w : World) (v : Value) (ps : List (ByteArray × Int)) (c0 : Int) : Prop := (c0 = 0 ∧ v = .nilIface) ∨ (c0 ≠ 0 ∧ Chain w v ps c0)
theorem tells_both {v : Value} {A : Option Addr} {n c : Nat} {ps : List (ByteArray × Int)} {c0 : Int} {w : World} (h : ErrV w v ps c0) (hr : c0 ≠ 0 → RdW w A n ps) (hg : w.cell? ⟨0, 0, none⟩ = some errT) (hn : n ≤ 4000000000000000000) :
    Calls Tryz.prog 12 #[v, .agg #[.slice A n c, .int .i64 c0]] w fun e w' => e = .returned (.bool true) ∧ Below w.heap.size w w' := by
  rcases h with ⟨rfl, rfl⟩ | ⟨h0, hc⟩
  · exact tells_nil A n c w
  · exact tells_any v A n c ps c0 w hc (hr h0) h0 hg hn
/-- What a change tells of the document's net. -/
def RefP (w : World) (G0 : Nat → Prop) (n m k : Nat) (N' : NetD) (ps : List (ByteArray × Int)) (c0 : Int) (r : Ending) (w' : World) : Prop :=
  ∃ (A' B' C' : Option Addr) (c' d' e' : Nat) (A4 : Option Addr) (n4 m4 : Nat), r = .returned (.tuple #[.agg #[.slice A' n c', .slice B' m d', .slice C' k e'], .agg #[.slice A4 n4 m4, .int .i64 c0]]) ∧
    RdNet (msk w' (fun b => G0 b ∨ w.heap.size ≤ b)) A' B' C' n m k N' ∧ (c0 ≠ 0 → RdW w' A4 n4 ps) ∧ n4 ≤ 1000001 ∧ Below w.heap.size w w'
/-- What a change does to a graph. -/
def GraP (w : World) (F : Nat → Prop) (g : Nat) (N' : NetD) (ps : List (ByteArray × Int)) (c0 : Int) (r : Ending) (w' : World) : Prop :=
  ∃ (v : Value) (F' : Nat → Prop), r = .returned v ∧ ErrV w' v ps c0 ∧ (∀ b, F' b → F b ∨ w.heap.size ≤ b) ∧ GrO w' F' g N' ∧ Kept (fun b => ¬ F b) w w' ∧ w.heap.size ≤ w'.heap.size ∧ (∀ B, B ≤ w.heap.size → (∀ b, F b → B ≤ b) → Below B w w') ∧ (c0 ≠ 0 → Below w.heap.size w w')
theorem GraP.no {w w' : World} {F : Nat → Prop} {g : Nat} {N : NetD} {v : Value} {ps : List (ByteArray × Int)} {c0 : Int} (h : GrO w F g N) (hc0 : c0 ≠ 0) (hc : Chain w' v ps c0) (hb : Below w.heap.size w w') : GraP w F g N ps c0 (.returned v) w' :=
  ⟨v, F, rfl, .inr ⟨hc0, hc⟩, fun _ h => .inl h, h.below hb, Kept.below hb, hb.size, fun _ hB _ => hb.mono hB, fun _ => hb⟩
theorem RefP.no {w w' : World} {G0 : Nat → Prop} {A B C : Option Addr} {n m k c d e : Nat} {N : NetD} {ps : List (ByteArray × Int)} {c0 : Int} {A4 : Option Addr} {n4 m4 : Nat} (h : RdNet (msk w G0) A B C n m k N) (hr : RdW w' A4 n4 ps) (hn : n4 ≤ 1000001) (hb : Below w.heap.size w w') :
    RefP w G0 n m k N ps c0 (.returned (.tuple #[.agg #[.slice A n c, .slice B m d, .slice C k e], .agg #[.slice A4 n4 m4, .int .i64 c0]])) w' :=
  ⟨A, B, C, c, d, e, A4, n4, m4, rfl, h.le (msk_mono_le (fun _ h => .inl h) (Le.below hb)), fun _ => hr, hn, hb⟩
theorem RefP.ok {w w' : World} {G0 : Nat → Prop} {A' B' C' : Option Addr} {n m k c' d' e' : Nat} {N' : NetD} (h : RdNet (msk w' (fun b => w.heap.size ≤ b)) A' B' C' n m k N') (hb : Below w.heap.size w w') :
    RefP w G0 n m k N' [] 0 (.returned (.tuple #[.agg #[.slice A' n c', .slice B' m d', .slice C' k e'], .agg #[.slice none 0 0, .int .i64 0]])) w' :=
  ⟨A', B', C', c', d', e', none, 0, 0, rfl, h.le (msk_mono (fun _ h => .inr h)), fun h => absurd rfl h, by omega, hb⟩
theorem FewOk.b {N : NetD} (h : FewOk N) {w : World} {A B C : Option Addr} {n m k : Nat} (hr : RdNet w A B C n m k N) : n ≤ 80 ∧ m ≤ 300 ∧ k ≤ 80 := ⟨by rw [← hr.1.1]; exact h.v, by rw [← hr.2.1.1]; exact h.a, by rw [← hr.2.2.1]; exact h.t⟩
theorem set_pair (N : NetD) (hF : FewOk N) (hN : NetOk N) (a u : Int) : ∃ (N' : NetD) (ps : List (ByteArray × Int)) (c0 : Int), FewOk N' ∧ NetOk N' ∧
    (∀ (A B C : Option Addr) (n m k c d e : Nat) (w : World) (G0 : Nat → Prop), RdNet (msk w G0) A B C n m k N → Calls Tryz.prog 46 #[.agg #[.slice A n c, .slice B m d, .slice C k e], .int .i64 a, .int .i64 u] w (RefP w G0 n m k N' ps c0)) ∧
    ∀ (g : Nat) (F : Nat → Prop) (w : World), GrO w F g N → Calls Tryz.prog 47 #[.pointer (some ⟨g, 0, none⟩), .int .i64 a, .int .i64 u] w (GraP w F g N' ps c0) := by
  by_cases h : 0 ≤ a ∧ a < N.ar.length
  · obtain ⟨q, rfl⟩ : ∃ q : Nat, a = q := ⟨a.toNat, by omega⟩
    obtain ⟨⟨x, y, z⟩, ha⟩ : ∃ p, N.ar[q]? = some p := ⟨_, List.getElem?_eq_getElem (by omega)⟩
    cases hu : wOk u
    · refine ⟨N, [((⟨#[103, 114, 97, 112, 104]⟩ : ByteArray), (q : Int))], 8, hF, hN, fun A B C n m k c d e w G0 hr => ?_, fun g F w hg => ?_⟩
      · refine (refSet_no2 A B C n m k c d e q u w h.1 (by rw [← hr.2.1.1]; exact h.2) hu).mono ?_
        rintro r w' ⟨A4, n4, m4, rfl, h1, h2, h3⟩
        exact RefP.no hr h1 (by omega) h3
      · refine (gSet_no2 g q u N w hg.rd h.1 h.2 hu).mono ?_
        rintro r w' ⟨v, rfl, h1, h2⟩
        exact GraP.no hg (by decide) h1 h2
    · refine ⟨N.setW q x y u, [], 0, hF.setW _ _ _ _, hN.setW ha hu, fun A B C n m k c d e w G0 hr => ?_, fun g F w hg => ?_⟩
      · have hr' := hr.le (msk_le w G0)
        have hb := hF.b hr'
        refine (refSet_ok A B C n m k c d e q x y z u N w hr' (by omega) (by omega) (by omega) (fun t ht => by have := hF.c t ht; omega) ha hu).mono ?_
        rintro r w' ⟨A', B', C', c', d', e', rfl, h1, h2⟩
        exact RefP.ok h1 h2
      · refine (gSet_ok g q x y z u N F w hg ha hu).mono ?_
        rintro r w' ⟨rfl, h1, h2, h3, h4⟩
        exact ⟨_, F, rfl, .inl ⟨rfl, rfl⟩, fun _ h => .inl h, h1, h2, h3, fun B _ hB => h4 B hB, fun h => absurd rfl h⟩
  · refine ⟨N, [((⟨#[103, 114, 97, 112, 104]⟩ : ByteArray), a)], 5, hF, hN, fun A B C n m k c d e w G0 hr => ?_, fun g F w hg => ?_⟩
    · refine (refSet_no1 A B C n m k c d e a u w (by rw [← hr.2.1.1]; exact h)).mono ?_
      rintro r w' ⟨A4, n4, m4, rfl, h1, h2, h3⟩
      exact RefP.no hr h1 (by omega) h3
    · refine (gSet_no1 g a u N w hg.rd h).mono ?_
      rintro r w' ⟨v, rfl, h1, h2⟩
      exact GraP.no hg (by decide) h1 h2
theorem bendNo_c {N : NetD} {p i o u : Int} {ps : List (ByteArray × Int)} {c0 : Int} (h : bendNo N p i o u = some (ps, c0)) : c0 ≠ 0 := by
  unfold bendNo at h
  split at h
  · cases h; decide
  · split at h
    · cases h
    · rename_i t ht
      cases hw : withNo t.ins t.outs i o u with
      | none => rw [hw] at h; cases h
      | some q =>
        rw [hw] at h
        cases h
        rcases withNo_y (x := q.1) (y := q.2) hw with h | h <;> rw [h] <;> decide
theorem bendNo_none {N : NetD} (hN : NetOk N) {p i o u : Int} (h : bendNo N p i o u = none) :
    ∃ (p' i' o' ti to_ : Nat) (cs : List Int), p = p' ∧ i = i' ∧ o = o' ∧ N.ts[p']? = some ⟨ti, to_, cs⟩ ∧ i' < ti ∧ o' < to_ ∧ wOk u = true := by
  unfold bendNo at h
  split at h
  · cases h
  · rename_i hp
    obtain ⟨q, rfl⟩ : ∃ q : Nat, p = q := ⟨p.toNat, by omega⟩
    obtain ⟨t, ht⟩ : ∃ t, N.ts[q]? = some t := ⟨_, List.getElem?_eq_getElem (by omega)⟩
    simp only [Int.toNat_natCast, ht] at h
    have hT := hN.tabs t (List.mem_of_getElem? ht)
    obtain ⟨ti, to_, cs⟩ := t
    have i0 := hT.i0
    have o0 := hT.o0
    simp only at i0 o0 h
    obtain ⟨ti, rfl⟩ : ∃ x : Nat, ti = x := ⟨ti.toNat, by omega⟩
    obtain ⟨to_, rfl⟩ : ∃ x : Nat, to_ = x := ⟨to_.toNat, by omega⟩
    have hw : withNo ti to_ i o u = none := by
      cases hw : withNo ti to_ i o u with
      | none => rfl
      | some q => rw [hw] at h; cases h
    unfold withNo at hw
    split at hw
    · cases hw
    · split at hw
      · cases hw
      · split at hw
        · cases hw
        · rename_i h1 h2 h3
          exact ⟨q, i.toNat, o.toNat, ti, to_, cs, rfl, by omega, by omega, ht, by omega, by omega, by simpa using h3⟩
theorem bend_pair (N : NetD) (hF : FewOk N) (hN : NetOk N) (p i o u : Int) : ∃ (N' : NetD) (ps : List (ByteArray × Int)) (c0 : Int), FewOk N' ∧ NetOk N' ∧
    (∀ (A B C : Option Addr) (n m k c d e : Nat) (w : World) (G0 : Nat → Prop), RdNet (msk w G0) A B C n m k N → Calls Tryz.prog 48 #[.agg #[.slice A n c, .slice B m d, .slice C k e], .int .i64 p, .int .i64 i, .int .i64 o, .int .i64 u] w (RefP w G0 n m k N' ps c0)) ∧
    ∀ (g : Nat) (F : Nat → Prop) (w : World), GrO w F g N → Calls Tryz.prog 49 #[.pointer (some ⟨g, 0, none⟩), .int .i64 p, .int .i64 i, .int .i64 o, .int .i64 u] w (GraP w F g N' ps c0) := by
  cases h : bendNo N p i o u with
  | some q =>
    obtain ⟨ps, c0⟩ := q
    refine ⟨N, ps, c0, hF, hN, fun A B C n m k c d e w G0 hr => ?_, fun g F w hg => ?_⟩
    · refine (refBend_no A B C n m k c d e p i o u N ps c0 w (hr.le (msk_le w G0)) h).mono ?_
      rintro r w' ⟨A4, n4, m4, rfl, h1, h2, h3⟩
      exact RefP.no hr h1 h2 h3
    · refine (gBend_no g p i o u N ps c0 w hg.rd h).mono ?_
      rintro r w' ⟨v, rfl, h1, h2⟩
      exact GraP.no hg (bendNo_c h) h1 h2
  | none =>
    obtain ⟨p, i, o, ti, to_, cs, rfl, rfl, rfl, ht, hi, ho, hu⟩ := bendNo_none hN h
    refine ⟨_, [], 0, hF.bend ht (i * to_ + o) u, hN.bend ht hu, fun A B C n m k c d e w G0 hr => ?_, fun g F w hg => ?_⟩
    · have hr' := hr.le (msk_le w G0)
      have hb := hF.b hr'
      refine (refBend_ok A B C n m k c d e p i o ti to_ cs u N w hr' (by omega) (by omega) (by omega) (fun t ht => by have := hF.c t ht; omega) ht (hN.tabs _ (List.mem_of_getElem? ht)) hi ho hu).mono ?_
      rintro r w' ⟨A', B', C', c', d', e', rfl, h1, h2⟩
      exact RefP.ok h1 h2
    · refine (gBend_ok g p i o ti to_ cs u N F w hg ht hi ho hu).mono ?_
      rintro r w' ⟨rfl, ⟨F', h0, h1⟩, h2, h3, h4⟩
      exact ⟨_, F', rfl, .inl ⟨rfl, rfl⟩, h0, h1, h2, h3, h4, fun h => absurd rfl h⟩
end Go.Proofs.YtgkeolddpielpaaGreatDoor

/- law6.Do: the walk. -/
namespace Go.Proofs.YtgkeolddpielpaaGreatDoor
open Go.RowKit Go.Extern.Stop Go.Stop Go.Extern

attribute [local go_sem ↓] Go.wp_at_zero Go.wp_at_succ

theorem GrO.drew {W : World} {F : Nat → Prop} {g : Nat} {N : NetD} (h : GrO W F g N) : GrO W.drew F g N := h.below (Below.refl _ _).drew
/-- What a change leaves. -/
def DoP (w : World) (F G0 : Nat → Prop) (g n m k : Nat) (r : Ending) (w' : World) : Prop :=
  ∃ (N' : NetD) (A' B' C' : Option Addr) (c' d' e' : Nat) (F' : Nat → Prop), r = .returned (.tuple #[.agg #[.slice A' n c', .slice B' m d', .slice C' k e'], .bool true]) ∧ GrO w' F' g N' ∧ RdNet (msk w' (fun b => ¬ F' b ∧ (G0 b ∨ w.heap.size ≤ b))) A' B' C' n m k N' ∧ FewOk N' ∧
    (∀ b, F' b → F b ∨ w.heap.size ≤ b) ∧ Kept (fun b => ¬ F b) w w' ∧ w.heap.size ≤ w'.heap.size ∧ ∀ B, B ≤ w.heap.size → (∀ b, F b → B ≤ b) → Below B w w'
set_option maxHeartbeats 2000000 in
theorem do_set (g : Nat) (A B C : Option Addr) (n m k c d e : Nat) (a i o u : Int) (N : NetD) (F G0 : Nat → Prop) (w : World) (h : GrO w F g N) (hr : RdNet (msk w (fun b => ¬ F b ∧ G0 b)) A B C n m k N) (hF : FewOk N) (hg : w.cell? ⟨0, 0, none⟩ = some errT) (hF0 : ∀ b, F b → 1 ≤ b) :
    Calls Tryz.prog 18 #[.pointer (some ⟨g, 0, none⟩), .agg #[.slice A n c, .slice B m d, .slice C k e], .agg #[.int .i64 0, .int .i64 a, .int .i64 i, .int .i64 o, .int .i64 u]] w (DoP w F G0 g n m k) := by
  obtain ⟨N', ps, c0, hF', hN', hRR, hGG⟩ := set_pair N hF h.ok a u
  have hFL : ∀ b, F b → b < w.heap.size := fun b hb => h.lt hb
  have HF := Lib.hid hFL
  have HNR := Lib.hid (show ∀ V, Below w.heap.size w V → RdNet (msk V (fun b => (¬ F b ∧ G0 b) ∧ b < w.heap.size)) A B C n m k N from fun V hV => hr.le (fun a v hc => by
    obtain ⟨h1, h2⟩ := msk_cell.1 hc
    exact msk_cell.2 ⟨⟨h1, lt_of_cell h2⟩, Below.cellOf hV (Nat.le_refl _) h2⟩))
  have HGR := Lib.hid (show ∀ V, Below w.heap.size w V → GrO V F g N from fun V hV => h.below hV)
  have hg0 := lt_of_cell hg
  simp only at hg0
  have HG := Lib.hid hg
  have HF0 := Lib.hid hF0
  have HRR := Lib.hid hRR
  have HGG := Lib.hid hGG
  have HF' := Lib.hid hF'
  clear h hr hF hg hF0 hFL hRR hGG hF' hN'
  go_enter Tryz.func18, Tryz.ntmps18
  go_wp2_with fail
  (refine calls_named ?_; intro w1 hw1)
  have hb1 : Below w.heap.size w w1 := by rw [hw1]; exact (by repeat (first | exact Below.refl _ _ | assumption | apply Below.drew | apply below_drewN | apply Bel.alloc | (refine Bel.setCell_ ?_ ?_; rotate_left; omega) | (refine Bel.step ?_ (by assumption))))
  have hT5 : Blk w1 (w.heap.size + 1) 57 #[.int .i64 0, .int .i64 a, .int .i64 i, .int .i64 o, .int .i64 u] := by rw [hw1]; exact (by repeat (first | assumption | (refine Blk.new' _ _ _ ?_; first | with_unfolding_all rfl | (simp; done)) | apply Blk.drewN | apply Blk.drew | apply Blk.alloc | (refine Blk.far_ ?_ ?_ _; rotate_left; omega)))
  have hT6 : Blk w1 (w.heap.size + 1 + 1) 26 #[.slice none 0 0, .slice none 0 0, .slice none 0 0] := by rw [hw1]; exact (by repeat (first | assumption | (refine Blk.new' _ _ _ ?_; first | with_unfolding_all rfl | (simp; done)) | apply Blk.drewN | apply Blk.drew | apply Blk.alloc | (refine Blk.far_ ?_ ?_ _; rotate_left; omega)))
  have hz1 : w1.heap.size = w.heap.size + 3 := by rw [hw1]; simp
  clear hw1
  with_reducible refine (HRR.out A B C n m k c d e w1 _ (HNR.out w1 hb1)).mono ?_
  rintro r w2 ⟨A', B', C', c', d', e', A4, n4, m4, rfl, hnet, hwr, hn4, hb2⟩
  have hb2' := Bel.step hb1 hb2
  have hT52 := hT5.below hb2 hT5.lt
  have hT62 := hT6.below hb2 hT6.lt
  have hz2 := hb2.size
  have HNET := Lib.hid hnet
  have HWR := Lib.hid hwr
  clear hb1 hb2 hT5 hT6 hnet hwr HNR
  go_wp2_with fail
  (refine wp_named ?_; intro w3 hw3)
  have hb3 : Below w2.heap.size w2 w3 := by rw [hw3]; exact (by repeat (first | exact Below.refl _ _ | assumption | apply Below.drew | apply below_drewN | apply Bel.alloc | (refine Bel.setCell_ ?_ ?_; rotate_left; omega) | (refine Bel.step ?_ (by assumption))))
  have hT8 : Blk w3 w2.heap.size 26 #[.slice A' n c', .slice B' m d', .slice C' k e'] := by rw [hw3]; exact (by repeat (first | assumption | (refine Blk.new' _ _ _ ?_; first | with_unfolding_all rfl | (simp; done)) | apply Blk.drewN | apply Blk.drew | apply Blk.alloc | (refine Blk.far_ ?_ ?_ _; rotate_left; omega)))
  have hT9 : Blk w3 (w2.heap.size + 1) 44 #[.slice A4 n4 m4, .int .i64 c0] := by rw [hw3]; exact (by repeat (first | assumption | (refine Blk.new' _ _ _ ?_; first | with_unfolding_all rfl | (simp; done)) | apply Blk.drewN | apply Blk.drew | apply Blk.alloc | (refine Blk.far_ ?_ ?_ _; rotate_left; omega)))
  have hb3' := Bel.step hb2' hb3
  have hT53 := hT52.below hb3 hT52.lt
  have hT63 := hT62.below hb3 hT62.lt
  have hz3 := hb3.size
  have HB3 := Lib.hid hb3
  clear hw3 hb3 hT52 hT62 hb2'
  obtain ⟨g8, hg8⟩ : ∃ x, x = w2.heap.size := ⟨_, rfl⟩
  rw [← hg8] at hT8 hT9 ⊢
  have hl8 := hT8.lt
  have hl9 := hT9.lt
  have HSX := Lib.hid (show ∀ X : World, (Blk X (w.heap.size + 1) 57 #[.int .i64 0, .int .i64 a, .int .i64 i, .int .i64 o, .int .i64 u] ∧ Blk X g8 26 #[.slice A' n c', .slice B' m d', .slice C' k e'] ∧ Blk X (g8 + 1) 44 #[.slice A4 n4 m4, .int .i64 c0]) →
      X.cell? ⟨w.heap.size + 1, 1, none⟩ = some (.int .i64 a) ∧ X.cell? ⟨w.heap.size + 1, 2, none⟩ = some (.int .i64 i) ∧ X.cell? ⟨w.heap.size + 1, 3, none⟩ = some (.int .i64 o) ∧ X.cell? ⟨w.heap.size + 1, 4, none⟩ = some (.int .i64 u) ∧
      X.cell? ⟨g8, 0, none⟩ = some (.slice A' n c') ∧ X.cell? ⟨g8, 1, none⟩ = some (.slice B' m d') ∧ X.cell? ⟨g8, 2, none⟩ = some (.slice C' k e') ∧ X.cell? ⟨g8 + 1, 0, none⟩ = some (.slice A4 n4 m4) ∧ X.cell? ⟨g8 + 1, 1, none⟩ = some (.int .i64 c0) from fun X ⟨h1, h2, h3⟩ => by
    refine ⟨?_, ?_, ?_, ?_, h2.three.1, h2.three.2.1, h2.three.2.2, h3.two.1, h3.two.2.1⟩
    all_goals (rw [h1.cell]; rfl))
  have hg8z : w.heap.size + 3 ≤ g8 := by omega
  have HG8 := Lib.hid hg8
  clear hg8
  refine wp_region_held_drew (S := fun X => Blk X (w.heap.size + 1) 57 #[.int .i64 0, .int .i64 a, .int .i64 i, .int .i64 o, .int .i64 u] ∧ Blk X g8 26 #[.slice A' n c', .slice B' m d', .slice C' k e'] ∧ Blk X (g8 + 1) 44 #[.slice A4 n4 m4, .int .i64 c0]) (by kernel_rfl) ⟨hT53.drew, hT8.drew, hT9.drew⟩ (fun _ => ?_)
  refine take_ (i := 0) (d := some 24) (v := ?_) rfl rfl (by kernel_rfl) (by kernel_rfl) (by kernel_rfl) (fun _ _ _ h => h) (by rfl) ?_ (by first | rfl | trivial | assumption) ?_
  rotate_left
  · (intro V hSw; (try (have hF := HSX.out V hSw)); (try (cases hSw)); (try go_split_ands); go_simp; try with_reducible rfl)
  simp only [Act.put, List.setIfInBounds_toArray, List.set_cons_zero, List.set_cons_succ]
  refine take_ (i := 1) (d := some 25) (v := ?_) rfl rfl (by kernel_rfl) (by kernel_rfl) (by kernel_rfl) (fun _ _ _ h => h) (by rfl) ?_ (by first | rfl | trivial | assumption) ?_
  rotate_left
  · (intro V hSw; (try (have hF := HSX.out V hSw)); (try (cases hSw)); (try go_split_ands); go_simp; try with_reducible rfl)
  simp only [Act.put, List.setIfInBounds_toArray, List.set_cons_zero, List.set_cons_succ]
  refine take_ (i := 2) (d := some 26) (v := ?_) rfl rfl (by kernel_rfl) (by kernel_rfl) (by kernel_rfl) (fun _ _ _ h => h) (by rfl) ?_ (by first | rfl | trivial | assumption) ?_
  rotate_left
  · (intro V hSw; (try (have hF := HSX.out V hSw)); (try (cases hSw)); (try go_split_ands); go_simp; try with_reducible rfl)
  simp only [Act.put, List.setIfInBounds_toArray, List.set_cons_zero, List.set_cons_succ]
  refine take_ (i := 3) (d := some 27) (v := ?_) rfl rfl (by kernel_rfl) (by kernel_rfl) (by kernel_rfl) (fun _ _ _ h => h) (by rfl) ?_ (by first | rfl | trivial | assumption) ?_
  rotate_left
  · (intro V hSw; (try (have hF := HSX.out V hSw)); (try (cases hSw)); (try go_split_ands); go_simp; try with_reducible rfl)
  simp only [Act.put, List.setIfInBounds_toArray, List.set_cons_zero, List.set_cons_succ]
  refine take_ (i := 4) (d := some 28) (v := ?_) rfl rfl (by kernel_rfl) (by kernel_rfl) (by kernel_rfl) (fun _ _ _ h => h) (by rfl) ?_ (by first | rfl | trivial | assumption) ?_
  rotate_left
  · (intro V hSw; (try (have hF := HSX.out V hSw)); (try (cases hSw)); (try go_split_ands); go_simp; try with_reducible rfl)
  simp only [Act.put, List.setIfInBounds_toArray, List.set_cons_zero, List.set_cons_succ]
  refine take_ (i := 5) (d := some 29) (v := ?_) rfl rfl (by kernel_rfl) (by kernel_rfl) (by kernel_rfl) (fun _ _ _ h => h) (by rfl) ?_ (by first | rfl | trivial | assumption) ?_
  rotate_left
  · (intro V hSw; (try (have hF := HSX.out V hSw)); (try (cases hSw)); (try go_split_ands); go_simp; try with_reducible rfl)
  simp only [Act.put, List.setIfInBounds_toArray, List.set_cons_zero, List.set_cons_succ]
  refine take_ (i := 7) (d := some 31) (v := ?_) rfl rfl (by kernel_rfl) (by kernel_rfl) (by kernel_rfl) (fun _ _ _ h => h) (by rfl) ?_ (by first | rfl | trivial | assumption) ?_
  rotate_left
  · (intro V hSw; (try (have hF := HSX.out V hSw)); (try (cases hSw)); (try go_split_ands); go_simp; try with_reducible rfl)
  simp only [Act.put, List.setIfInBounds_toArray, List.set_cons_zero, List.set_cons_succ]
  refine wpAnyH_ready (rs := [6]) (by kernel_rfl) (by simp) ?_
  refine AllReadyH.cons (o := _) rfl (fun K hK => ?_) AllReadyH.nil
  go_simp
  have hbd : Below w3.heap.size w3 w3.drew := (Below.refl _ _).drew
  with_reducible refine (HGG.out g F _ (HGR.out _ (hb3'.drew))).mono ?_
  rintro r w4 ⟨v, F', rfl, herr, hFF, hgr, hkp, hz4, hbl, hno⟩
  have hk4 : Kept (fun b => ¬ F b) w3 w4 := hkp
  have hz4 : w3.heap.size ≤ w4.heap.size := hz4
  have hbl4 : ∀ B, B ≤ w3.heap.size → (∀ b, F b → B ≤ b) → Below B w3 w4 := fun B h1 h2 => (Below.refl B w3).drew.trans (hbl B h1 h2)
  have hno4 : c0 ≠ 0 → Below w3.heap.size w3 w4 := fun h => hbd.trans (hno h)
  have hFF : ∀ b, F' b → F b ∨ w3.heap.size ≤ b := hFF
  have nF : ∀ b, w.heap.size ≤ b → ¬ F b := fun b hb hf => by have := HF.out b hf; omega
  have hT54 : Blk w4 (w.heap.size + 1) 57 #[.int .i64 0, .int .i64 a, .int .i64 i, .int .i64 o, .int .i64 u] := (hk4 _ (nF _ (by omega)) hT53.lt).trans hT53
  have hT64 : Blk w4 (w.heap.size + 1 + 1) 26 #[.slice none 0 0, .slice none 0 0, .slice none 0 0] := (hk4 _ (nF _ (by omega)) hT63.lt).trans hT63
  have hT84 := (show Blk w4 g8 26 #[.slice A' n c', .slice B' m d', .slice C' k e'] from (hk4 _ (nF _ (by omega)) hT8.lt).trans hT8)
  have hT94 := (show Blk w4 (g8 + 1) 44 #[.slice A4 n4 m4, .int .i64 c0] from (hk4 _ (nF _ (by omega)) hT9.lt).trans hT9)
  have hg3 : w3.cell? ⟨0, 0, none⟩ = some errT := Below.cellOf hb3' (Nat.le_refl _) HG.out
  have hg4 : w4.cell? ⟨0, 0, none⟩ = some errT := ((hbl4 1 (by omega) (fun b hb => HF0.out b hb)).cell (by simp)).trans hg3
  have HTL := Lib.hid (tells_both (A := A4) (n := n4) (c := m4) herr (fun h => ((HWR.out h).below HB3.out).below (hno4 h)) hg4 (by omega))
  have HK4 := Lib.hid hk4
  have HBL4 := Lib.hid hbl4
  have HGRN := Lib.hid hgr
  have HFF := Lib.hid hFF
  clear hkp hbl hno hk4 hbl4 hno4 hFF hgr herr hg3 hg4 hT53 hT63 hT8 hT9 hbd HGR HGG HRR
  go_wp2_with fail
  refine hK.out _ _ ⟨hT54, hT84, hT94⟩ (fun _ => ?_)
  clear hK K
  refine wpAnyH_ready (rs := [8]) (by kernel_rfl) (by simp) ?_
  refine AllReadyH.cons (o := _) rfl (fun K hK => ?_) AllReadyH.nil
  go_simp
  with_reducible refine HTL.out.mono ?_
  rintro r w5 ⟨rfl, hb5⟩
  have hT55 := hT54.below hb5 hT54.lt
  have hT65 := hT64.below hb5 hT64.lt
  have hT85 := hT84.below hb5 hT84.lt
  have hT95 := hT94.below hb5 hT94.lt
  have hz5 := hb5.size
  have HB5 := Lib.hid hb5
  clear hb5 hT54 hT64 hT84 hT94 HTL HWR
  go_wp2_with fail
  refine hK.out _ _ ⟨hT55, hT85, hT95⟩ (fun _ => ?_)
  clear hK K
  obtain ⟨q0, q1, q2⟩ := hT65.three
  have fq0 := hT65.frozen 0
  have fq1 := hT65.frozen 1
  have fq2 := hT65.frozen 2
  refine wpAnyH_ready (rs := [9]) (by kernel_rfl) (by simp) ?_
  refine AllReadyH.cons (o := _) rfl (fun K hK => ?_) AllReadyH.nil
  go_simp
  refine hK.out _ _ ⟨((hT55.far (by simp only; omega) _).far (by simp only; omega) _).far (by simp only; omega) _, ((hT85.far (by simp only; omega) _).far (by simp only; omega) _).far (by simp only; omega) _, ((hT95.far (by simp only; omega) _).far (by simp only; omega) _).far (by simp only; omega) _⟩ (fun _ => ?_)
  clear hK K q0 q1 q2 fq0 fq1 fq2
  refine take_ (i := 10) (d := some 7) (v := ?_) rfl rfl (by kernel_rfl) (by kernel_rfl) (by kernel_rfl) (fun _ _ _ h => h) (by rfl) ?_ (by first | rfl | trivial | assumption) ?_
  rotate_left
  · (intro V hSw; (try (have hF := HSX.out V hSw)); (try (cases hSw)); (try go_split_ands); go_simp; try with_reducible rfl)
  simp only [Act.put, List.setIfInBounds_toArray, List.set_cons_zero, List.set_cons_succ]
  refine wpAnyH_done (by kernel_rfl) ?_ _
  go_wp2_with fail
  refine bodyPost_named ?_
  intro W hW
  have hRW : Blk W (w.heap.size + 1 + 1) 26 #[.slice A' n c', .slice B' m d', .slice C' k e'] := by rw [hW]; exact ((hT65.set_ 0 _).set_ 1 _).set_ 2 _
  have hS : KeptZ (fun b => b ≠ w.heap.size + 1 + 1) w5 W := by
    rw [hW]
    exact (((KeptZ.refl _ _).set (by simp) _ _).set (by simp) _ _).set (by simp) _ _
  have hbS : Below (w.heap.size + 1 + 1) w5 W := by
    rw [hW]
    exact (((Below.refl (w.heap.size + 1 + 1) w5).setCell (p := ⟨w.heap.size + 1 + 1, 0, none⟩) (Nat.le_refl _) (.slice A' n c')).setCell (p := ⟨w.heap.size + 1 + 1, 1, none⟩) (Nat.le_refl _) (.slice B' m d')).setCell (p := ⟨w.heap.size + 1 + 1, 2, none⟩) (Nat.le_refl _) (.slice C' k e')
  clear hW hT55 hT65 hT85 hT95
  obtain ⟨r0, r1, r2⟩ := hRW.three
  refine bodyPost_ret (v := .tuple #[.agg #[.slice A' n c', .slice B' m d', .slice C' k e'], .bool true]) (by simp [results, Tryz.results18, go_sem, r0, r1, r2]) rfl ?_
  have e8 := HG8.out
  have keep : ∀ b, ¬ F b → b ≠ w.heap.size + 1 + 1 → b < w3.heap.size → W.heap[b]? = w3.heap[b]? := fun b h1 h2 h3 =>
    ((hS.1 b h2 (by omega)).trans (HB5.out.block b (by omega))).trans (HK4.out b h1 h3)
  refine ⟨N', A', B', C', c', d', e', F', rfl, (HGRN.out.below HB5.out).keep hS.2 (fun b hb hl => hS.1 b (fun e => ?_) hl), HNET.out.le (fun x v hc => ?_), HF'.out, fun b hb => ?_, fun b hb hl => ?_, ?_, fun B0 h1 h2 => ?_⟩
  · rcases HFF.out b hb with h | h
    · have := HF.out b h; omega
    · omega
  · obtain ⟨h1, h2⟩ := msk_cell.1 hc
    have h3 := lt_of_cell h2
    have hnF : ¬ F x.block := by
      rcases h1 with h1 | h1
      · exact h1.1.1
      · exact nF _ (by omega)
    have hg0' : G0 x.block ∨ w.heap.size ≤ x.block := by
      rcases h1 with h1 | h1
      · exact .inl h1.1.2
      · exact .inr (by omega)
    have hne : x.block ≠ w.heap.size + 1 + 1 := by
      rcases h1 with h1 | h1
      · have := h1.2; omega
      · omega
    refine msk_cell.2 ⟨⟨fun h => ?_, hg0'⟩, ?_⟩
    · rcases HFF.out _ h with h | h
      · exact hnF h
      · omega
    · rw [World.cell?_of_block ((keep _ hnF hne (by omega)).trans (HB3.out.block _ h3))]
      exact h2
  · rcases HFF.out b hb with h | h
    · exact .inl h
    · exact .inr (by omega)
  · exact (keep b hb (by omega) (by omega)).trans (hb3'.block b hl)
  · have := hS.2; have := hb3'.size; omega
  · exact (((hb3'.mono h1).trans (HBL4.out B0 (by omega) h2)).trans (HB5.out.mono (by omega))).trans (hbS.mono (by omega))
set_option maxHeartbeats 2000000 in
theorem do_bend (g : Nat) (A B C : Option Addr) (n m k c d e : Nat) (kd a i o u : Int) (hkd : kd ≠ 0) (N : NetD) (F G0 : Nat → Prop) (w : World) (h : GrO w F g N) (hr : RdNet (msk w (fun b => ¬ F b ∧ G0 b)) A B C n m k N) (hF : FewOk N) (hg : w.cell? ⟨0, 0, none⟩ = some errT) (hF0 : ∀ b, F b → 1 ≤ b) :
    Calls Tryz.prog 18 #[.pointer (some ⟨g, 0, none⟩), .agg #[.slice A n c, .slice B m d, .slice C k e], .agg #[.int .i64 kd, .int .i64 a, .int .i64 i, .int .i64 o, .int .i64 u]] w (DoP w F G0 g n m k) := by
  obtain ⟨N', ps, c0, hF', hN', hRR, hGG⟩ := bend_pair N hF h.ok a i o u
  have k0 : (kd == 0) = false := by simpa using hkd
  clear hkd
  have hFL : ∀ b, F b → b < w.heap.size := fun b hb => h.lt hb
  have HF := Lib.hid hFL
  have HNR := Lib.hid (show ∀ V, Below w.heap.size w V → RdNet (msk V (fun b => (¬ F b ∧ G0 b) ∧ b < w.heap.size)) A B C n m k N from fun V hV => hr.le (fun a v hc => by
    obtain ⟨h1, h2⟩ := msk_cell.1 hc
    exact msk_cell.2 ⟨⟨h1, lt_of_cell h2⟩, Below.cellOf hV (Nat.le_refl _) h2⟩))
  have HGR := Lib.hid (show ∀ V, Below w.heap.size w V → GrO V F g N from fun V hV => h.below hV)
  have hg0 := lt_of_cell hg
  simp only at hg0
  have HG := Lib.hid hg
  have HF0 := Lib.hid hF0
  have HRR := Lib.hid hRR
  have HGG := Lib.hid hGG
  have HF' := Lib.hid hF'
  clear h hr hF hg hF0 hFL hRR hGG hF' hN'
  go_enter Tryz.func18, Tryz.ntmps18
  go_wp2_with fail
  (refine calls_named ?_; intro w1 hw1)
  have hb1 : Below w.heap.size w w1 := by rw [hw1]; exact (by repeat (first | exact Below.refl _ _ | assumption | apply Below.drew | apply below_drewN | apply Bel.alloc | (refine Bel.setCell_ ?_ ?_; rotate_left; omega) | (refine Bel.step ?_ (by assumption))))
  have hT5 : Blk w1 (w.heap.size + 1) 57 #[.int .i64 kd, .int .i64 a, .int .i64 i, .int .i64 o, .int .i64 u] := by rw [hw1]; exact (by repeat (first | assumption | (refine Blk.new' _ _ _ ?_; first | with_unfolding_all rfl | (simp; done)) | apply Blk.drewN | apply Blk.drew | apply Blk.alloc | (refine Blk.far_ ?_ ?_ _; rotate_left; omega)))
  have hT6 : Blk w1 (w.heap.size + 1 + 1) 26 #[.slice none 0 0, .slice none 0 0, .slice none 0 0] := by rw [hw1]; exact (by repeat (first | assumption | (refine Blk.new' _ _ _ ?_; first | with_unfolding_all rfl | (simp; done)) | apply Blk.drewN | apply Blk.drew | apply Blk.alloc | (refine Blk.far_ ?_ ?_ _; rotate_left; omega)))
  have hz1 : w1.heap.size = w.heap.size + 3 := by rw [hw1]; simp
  clear hw1
  with_reducible refine (HRR.out A B C n m k c d e w1 _ (HNR.out w1 hb1)).mono ?_
  rintro r w2 ⟨A', B', C', c', d', e', A4, n4, m4, rfl, hnet, hwr, hn4, hb2⟩
  have hb2' := Bel.step hb1 hb2
  have hT52 := hT5.below hb2 hT5.lt
  have hT62 := hT6.below hb2 hT6.lt
  have hz2 := hb2.size
  have HNET := Lib.hid hnet
  have HWR := Lib.hid hwr
  clear hb1 hb2 hT5 hT6 hnet hwr HNR
  go_wp2_with fail
  (refine wp_named ?_; intro w3 hw3)
  have hb3 : Below w2.heap.size w2 w3 := by rw [hw3]; exact (by repeat (first | exact Below.refl _ _ | assumption | apply Below.drew | apply below_drewN | apply Bel.alloc | (refine Bel.setCell_ ?_ ?_; rotate_left; omega) | (refine Bel.step ?_ (by assumption))))
  have hT8 : Blk w3 w2.heap.size 26 #[.slice A' n c', .slice B' m d', .slice C' k e'] := by rw [hw3]; exact (by repeat (first | assumption | (refine Blk.new' _ _ _ ?_; first | with_unfolding_all rfl | (simp; done)) | apply Blk.drewN | apply Blk.drew | apply Blk.alloc | (refine Blk.far_ ?_ ?_ _; rotate_left; omega)))
  have hT9 : Blk w3 (w2.heap.size + 1) 44 #[.slice A4 n4 m4, .int .i64 c0] := by rw [hw3]; exact (by repeat (first | assumption | (refine Blk.new' _ _ _ ?_; first | with_unfolding_all rfl | (simp; done)) | apply Blk.drewN | apply Blk.drew | apply Blk.alloc | (refine Blk.far_ ?_ ?_ _; rotate_left; omega)))
  have hb3' := Bel.step hb2' hb3
  have hT53 := hT52.below hb3 hT52.lt
  have hT63 := hT62.below hb3 hT62.lt
  have hz3 := hb3.size
  have HB3 := Lib.hid hb3
  clear hw3 hb3 hT52 hT62 hb2'
  obtain ⟨g8, hg8⟩ : ∃ x, x = w2.heap.size := ⟨_, rfl⟩
  rw [← hg8] at hT8 hT9 ⊢
  have hl8 := hT8.lt
  have hl9 := hT9.lt
  have HSX := Lib.hid (show ∀ X : World, (Blk X (w.heap.size + 1) 57 #[.int .i64 kd, .int .i64 a, .int .i64 i, .int .i64 o, .int .i64 u] ∧ Blk X g8 26 #[.slice A' n c', .slice B' m d', .slice C' k e'] ∧ Blk X (g8 + 1) 44 #[.slice A4 n4 m4, .int .i64 c0]) →
      X.cell? ⟨w.heap.size + 1, 1, none⟩ = some (.int .i64 a) ∧ X.cell? ⟨w.heap.size + 1, 2, none⟩ = some (.int .i64 i) ∧ X.cell? ⟨w.heap.size + 1, 3, none⟩ = some (.int .i64 o) ∧ X.cell? ⟨w.heap.size + 1, 4, none⟩ = some (.int .i64 u) ∧
      X.cell? ⟨g8, 0, none⟩ = some (.slice A' n c') ∧ X.cell? ⟨g8, 1, none⟩ = some (.slice B' m d') ∧ X.cell? ⟨g8, 2, none⟩ = some (.slice C' k e') ∧ X.cell? ⟨g8 + 1, 0, none⟩ = some (.slice A4 n4 m4) ∧ X.cell? ⟨g8 + 1, 1, none⟩ = some (.int .i64 c0) from fun X ⟨h1, h2, h3⟩ => by
    refine ⟨?_, ?_, ?_, ?_, h2.three.1, h2.three.2.1, h2.three.2.2, h3.two.1, h3.two.2.1⟩
    all_goals (rw [h1.cell]; rfl))
  have hg8z : w.heap.size + 3 ≤ g8 := by omega
  have HG8 := Lib.hid hg8
  clear hg8
  refine wp_region_held_drew (S := fun X => Blk X (w.heap.size + 1) 57 #[.int .i64 kd, .int .i64 a, .int .i64 i, .int .i64 o, .int .i64 u] ∧ Blk X g8 26 #[.slice A' n c', .slice B' m d', .slice C' k e'] ∧ Blk X (g8 + 1) 44 #[.slice A4 n4 m4, .int .i64 c0]) (by kernel_rfl) ⟨hT53.drew, hT8.drew, hT9.drew⟩ (fun _ => ?_)
  refine take_ (i := 0) (d := some 46) (v := ?_) rfl rfl (by kernel_rfl) (by kernel_rfl) (by kernel_rfl) (fun _ _ _ h => h) (by rfl) ?_ (by first | rfl | trivial | assumption) ?_
  rotate_left
  · (intro V hSw; (try (have hF := HSX.out V hSw)); (try (cases hSw)); (try go_split_ands); go_simp; try with_reducible rfl)
  simp only [Act.put, List.setIfInBounds_toArray, List.set_cons_zero, List.set_cons_succ]
  refine take_ (i := 1) (d := some 47) (v := ?_) rfl rfl (by kernel_rfl) (by kernel_rfl) (by kernel_rfl) (fun _ _ _ h => h) (by rfl) ?_ (by first | rfl | trivial | assumption) ?_
  rotate_left
  · (intro V hSw; (try (have hF := HSX.out V hSw)); (try (cases hSw)); (try go_split_ands); go_simp; try with_reducible rfl)
  simp only [Act.put, List.setIfInBounds_toArray, List.set_cons_zero, List.set_cons_succ]
  refine take_ (i := 2) (d := some 48) (v := ?_) rfl rfl (by kernel_rfl) (by kernel_rfl) (by kernel_rfl) (fun _ _ _ h => h) (by rfl) ?_ (by first | rfl | trivial | assumption) ?_
  rotate_left
  · (intro V hSw; (try (have hF := HSX.out V hSw)); (try (cases hSw)); (try go_split_ands); go_simp; try with_reducible rfl)
  simp only [Act.put, List.setIfInBounds_toArray, List.set_cons_zero, List.set_cons_succ]
  refine take_ (i := 3) (d := some 49) (v := ?_) rfl rfl (by kernel_rfl) (by kernel_rfl) (by kernel_rfl) (fun _ _ _ h => h) (by rfl) ?_ (by first | rfl | trivial | assumption) ?_
  rotate_left
  · (intro V hSw; (try (have hF := HSX.out V hSw)); (try (cases hSw)); (try go_split_ands); go_simp; try with_reducible rfl)
  simp only [Act.put, List.setIfInBounds_toArray, List.set_cons_zero, List.set_cons_succ]
  refine take_ (i := 4) (d := some 50) (v := ?_) rfl rfl (by kernel_rfl) (by kernel_rfl) (by kernel_rfl) (fun _ _ _ h => h) (by rfl) ?_ (by first | rfl | trivial | assumption) ?_
  rotate_left
  · (intro V hSw; (try (have hF := HSX.out V hSw)); (try (cases hSw)); (try go_split_ands); go_simp; try with_reducible rfl)
  simp only [Act.put, List.setIfInBounds_toArray, List.set_cons_zero, List.set_cons_succ]
  refine take_ (i := 5) (d := some 51) (v := ?_) rfl rfl (by kernel_rfl) (by kernel_rfl) (by kernel_rfl) (fun _ _ _ h => h) (by rfl) ?_ (by first | rfl | trivial | assumption) ?_
  rotate_left
  · (intro V hSw; (try (have hF := HSX.out V hSw)); (try (cases hSw)); (try go_split_ands); go_simp; try with_reducible rfl)
  simp only [Act.put, List.setIfInBounds_toArray, List.set_cons_zero, List.set_cons_succ]
  refine take_ (i := 6) (d := some 52) (v := ?_) rfl rfl (by kernel_rfl) (by kernel_rfl) (by kernel_rfl) (fun _ _ _ h => h) (by rfl) ?_ (by first | rfl | trivial | assumption) ?_
  rotate_left
  · (intro V hSw; (try (have hF := HSX.out V hSw)); (try (cases hSw)); (try go_split_ands); go_simp; try with_reducible rfl)
  simp only [Act.put, List.setIfInBounds_toArray, List.set_cons_zero, List.set_cons_succ]
  refine take_ (i := 7) (d := some 53) (v := ?_) rfl rfl (by kernel_rfl) (by kernel_rfl) (by kernel_rfl) (fun _ _ _ h => h) (by rfl) ?_ (by first | rfl | trivial | assumption) ?_
  rotate_left
  · (intro V hSw; (try (have hF := HSX.out V hSw)); (try (cases hSw)); (try go_split_ands); go_simp; try with_reducible rfl)
  simp only [Act.put, List.setIfInBounds_toArray, List.set_cons_zero, List.set_cons_succ]
  refine take_ (i := 8) (d := some 54) (v := ?_) rfl rfl (by kernel_rfl) (by kernel_rfl) (by kernel_rfl) (fun _ _ _ h => h) (by rfl) ?_ (by first | rfl | trivial | assumption) ?_
  rotate_left
  · (intro V hSw; (try (have hF := HSX.out V hSw)); (try (cases hSw)); (try go_split_ands); go_simp; try with_reducible rfl)
  simp only [Act.put, List.setIfInBounds_toArray, List.set_cons_zero, List.set_cons_succ]
  refine take_ (i := 9) (d := some 55) (v := ?_) rfl rfl (by kernel_rfl) (by kernel_rfl) (by kernel_rfl) (fun _ _ _ h => h) (by rfl) ?_ (by first | rfl | trivial | assumption) ?_
  rotate_left
  · (intro V hSw; (try (have hF := HSX.out V hSw)); (try (cases hSw)); (try go_split_ands); go_simp; try with_reducible rfl)
  simp only [Act.put, List.setIfInBounds_toArray, List.set_cons_zero, List.set_cons_succ]
  refine take_ (i := 11) (d := some 57) (v := ?_) rfl rfl (by kernel_rfl) (by kernel_rfl) (by kernel_rfl) (fun _ _ _ h => h) (by rfl) ?_ (by first | rfl | trivial | assumption) ?_
  rotate_left
  · (intro V hSw; (try (have hF := HSX.out V hSw)); (try (cases hSw)); (try go_split_ands); go_simp; try with_reducible rfl)
  simp only [Act.put, List.setIfInBounds_toArray, List.set_cons_zero, List.set_cons_succ]
  refine wpAnyH_ready (rs := [10]) (by kernel_rfl) (by simp) ?_
  refine AllReadyH.cons (o := _) rfl (fun K hK => ?_) AllReadyH.nil
  go_simp
  have hbd : Below w3.heap.size w3 w3.drew := (Below.refl _ _).drew
  with_reducible refine (HGG.out g F _ (HGR.out _ (hb3'.drew))).mono ?_
  rintro r w4 ⟨v, F', rfl, herr, hFF, hgr, hkp, hz4, hbl, hno⟩
  have hk4 : Kept (fun b => ¬ F b) w3 w4 := hkp
  have hz4 : w3.heap.size ≤ w4.heap.size := hz4
  have hbl4 : ∀ B, B ≤ w3.heap.size → (∀ b, F b → B ≤ b) → Below B w3 w4 := fun B h1 h2 => (Below.refl B w3).drew.trans (hbl B h1 h2)
  have hno4 : c0 ≠ 0 → Below w3.heap.size w3 w4 := fun h => hbd.trans (hno h)
  have hFF : ∀ b, F' b → F b ∨ w3.heap.size ≤ b := hFF
  have nF : ∀ b, w.heap.size ≤ b → ¬ F b := fun b hb hf => by have := HF.out b hf; omega
  have hT54 : Blk w4 (w.heap.size + 1) 57 #[.int .i64 kd, .int .i64 a, .int .i64 i, .int .i64 o, .int .i64 u] := (hk4 _ (nF _ (by omega)) hT53.lt).trans hT53
  have hT64 : Blk w4 (w.heap.size + 1 + 1) 26 #[.slice none 0 0, .slice none 0 0, .slice none 0 0] := (hk4 _ (nF _ (by omega)) hT63.lt).trans hT63
  have hT84 := (show Blk w4 g8 26 #[.slice A' n c', .slice B' m d', .slice C' k e'] from (hk4 _ (nF _ (by omega)) hT8.lt).trans hT8)
  have hT94 := (show Blk w4 (g8 + 1) 44 #[.slice A4 n4 m4, .int .i64 c0] from (hk4 _ (nF _ (by omega)) hT9.lt).trans hT9)
  have hg3 : w3.cell? ⟨0, 0, none⟩ = some errT := Below.cellOf hb3' (Nat.le_refl _) HG.out
  have hg4 : w4.cell? ⟨0, 0, none⟩ = some errT := ((hbl4 1 (by omega) (fun b hb => HF0.out b hb)).cell (by simp)).trans hg3
  have HTL := Lib.hid (tells_both (A := A4) (n := n4) (c := m4) herr (fun h => ((HWR.out h).below HB3.out).below (hno4 h)) hg4 (by omega))
  have HK4 := Lib.hid hk4
  have HBL4 := Lib.hid hbl4
  have HGRN := Lib.hid hgr
  have HFF := Lib.hid hFF
  clear hkp hbl hno hk4 hbl4 hno4 hFF hgr herr hg3 hg4 hT53 hT63 hT8 hT9 hbd HGR HGG HRR
  go_wp2_with fail
  refine hK.out _ _ ⟨hT54, hT84, hT94⟩ (fun _ => ?_)
  clear hK K
  refine wpAnyH_ready (rs := [12]) (by kernel_rfl) (by simp) ?_
  refine AllReadyH.cons (o := _) rfl (fun K hK => ?_) AllReadyH.nil
  go_simp
  with_reducible refine HTL.out.mono ?_
  rintro r w5 ⟨rfl, hb5⟩
  have hT55 := hT54.below hb5 hT54.lt
  have hT65 := hT64.below hb5 hT64.lt
  have hT85 := hT84.below hb5 hT84.lt
  have hT95 := hT94.below hb5 hT94.lt
  have hz5 := hb5.size
  have HB5 := Lib.hid hb5
  clear hb5 hT54 hT64 hT84 hT94 HTL HWR
  go_wp2_with fail
  refine hK.out _ _ ⟨hT55, hT85, hT95⟩ (fun _ => ?_)
  clear hK K
  obtain ⟨q0, q1, q2⟩ := hT65.three
  have fq0 := hT65.frozen 0
  have fq1 := hT65.frozen 1
  have fq2 := hT65.frozen 2
  refine wpAnyH_ready (rs := [13]) (by kernel_rfl) (by simp) ?_
  refine AllReadyH.cons (o := _) rfl (fun K hK => ?_) AllReadyH.nil
  go_simp
  refine hK.out _ _ ⟨((hT55.far (by simp only; omega) _).far (by simp only; omega) _).far (by simp only; omega) _, ((hT85.far (by simp only; omega) _).far (by simp only; omega) _).far (by simp only; omega) _, ((hT95.far (by simp only; omega) _).far (by simp only; omega) _).far (by simp only; omega) _⟩ (fun _ => ?_)
  clear hK K q0 q1 q2 fq0 fq1 fq2
  refine take_ (i := 14) (d := some 7) (v := ?_) rfl rfl (by kernel_rfl) (by kernel_rfl) (by kernel_rfl) (fun _ _ _ h => h) (by rfl) ?_ (by first | rfl | trivial | assumption) ?_
  rotate_left
  · (intro V hSw; (try (have hF := HSX.out V hSw)); (try (cases hSw)); (try go_split_ands); go_simp; try with_reducible rfl)
  simp only [Act.put, List.setIfInBounds_toArray, List.set_cons_zero, List.set_cons_succ]
  refine wpAnyH_done (by kernel_rfl) ?_ _
  go_wp2_with fail
  refine bodyPost_named ?_
  intro W hW
  have hRW : Blk W (w.heap.size + 1 + 1) 26 #[.slice A' n c', .slice B' m d', .slice C' k e'] := by rw [hW]; exact ((hT65.set_ 0 _).set_ 1 _).set_ 2 _
  have hS : KeptZ (fun b => b ≠ w.heap.size + 1 + 1) w5 W := by
    rw [hW]
    exact (((KeptZ.refl _ _).set (by simp) _ _).set (by simp) _ _).set (by simp) _ _
  have hbS : Below (w.heap.size + 1 + 1) w5 W := by
    rw [hW]
    exact (((Below.refl (w.heap.size + 1 + 1) w5).setCell (p := ⟨w.heap.size + 1 + 1, 0, none⟩) (Nat.le_refl _) (.slice A' n c')).setCell (p := ⟨w.heap.size + 1 + 1, 1, none⟩) (Nat.le_refl _) (.slice B' m d')).setCell (p := ⟨w.heap.size + 1 + 1, 2, none⟩) (Nat.le_refl _) (.slice C' k e')
  clear hW hT55 hT65 hT85 hT95
  obtain ⟨r0, r1, r2⟩ := hRW.three
  refine bodyPost_ret (v := .tuple #[.agg #[.slice A' n c', .slice B' m d', .slice C' k e'], .bool true]) (by simp [results, Tryz.results18, go_sem, r0, r1, r2]) rfl ?_
  have e8 := HG8.out
  have keep : ∀ b, ¬ F b → b ≠ w.heap.size + 1 + 1 → b < w3.heap.size → W.heap[b]? = w3.heap[b]? := fun b h1 h2 h3 =>
    ((hS.1 b h2 (by omega)).trans (HB5.out.block b (by omega))).trans (HK4.out b h1 h3)
  refine ⟨N', A', B', C', c', d', e', F', rfl, (HGRN.out.below HB5.out).keep hS.2 (fun b hb hl => hS.1 b (fun e => ?_) hl), HNET.out.le (fun x v hc => ?_), HF'.out, fun b hb => ?_, fun b hb hl => ?_, ?_, fun B0 h1 h2 => ?_⟩
  · rcases HFF.out b hb with h | h
    · have := HF.out b h; omega
    · omega
  · obtain ⟨h1, h2⟩ := msk_cell.1 hc
    have h3 := lt_of_cell h2
    have hnF : ¬ F x.block := by
      rcases h1 with h1 | h1
      · exact h1.1.1
      · exact nF _ (by omega)
    have hg0' : G0 x.block ∨ w.heap.size ≤ x.block := by
      rcases h1 with h1 | h1
      · exact .inl h1.1.2
      · exact .inr (by omega)
    have hne : x.block ≠ w.heap.size + 1 + 1 := by
      rcases h1 with h1 | h1
      · have := h1.2; omega
      · omega
    refine msk_cell.2 ⟨⟨fun h => ?_, hg0'⟩, ?_⟩
    · rcases HFF.out _ h with h | h
      · exact hnF h
      · omega
    · rw [World.cell?_of_block ((keep _ hnF hne (by omega)).trans (HB3.out.block _ h3))]
      exact h2
  · rcases HFF.out b hb with h | h
    · exact .inl h
    · exact .inr (by omega)
  · exact (keep b hb (by omega) (by omega)).trans (hb3'.block b hl)
  · have := hS.2; have := hb3'.size; omega
  · exact (((hb3'.mono h1).trans (HBL4.out B0 (by omega) h2)).trans (HB5.out.mono (by omega))).trans (hbS.mono (by omega))
theorem do_any (g : Nat) (A B C : Option Addr) (n m k c d e : Nat) (kd a i o u : Int) (N : NetD) (F G0 : Nat → Prop) (w : World) (h : GrO w F g N) (hr : RdNet (msk w (fun b => ¬ F b ∧ G0 b)) A B C n m k N) (hF : FewOk N) (hg : w.cell? ⟨0, 0, none⟩ = some errT) (hF0 : ∀ b, F b → 1 ≤ b) :
    Calls Tryz.prog 18 #[.pointer (some ⟨g, 0, none⟩), .agg #[.slice A n c, .slice B m d, .slice C k e], .agg #[.int .i64 kd, .int .i64 a, .int .i64 i, .int .i64 o, .int .i64 u]] w (DoP w F G0 g n m k) := by
  by_cases hk : kd = 0
  · subst hk
    exact do_set g A B C n m k c d e a i o u N F G0 w h hr hF hg hF0
  · exact do_bend g A B C n m k c d e kd a i o u hk N F G0 w h hr hF hg hF0
end Go.Proofs.YtgkeolddpielpaaGreatDoor
