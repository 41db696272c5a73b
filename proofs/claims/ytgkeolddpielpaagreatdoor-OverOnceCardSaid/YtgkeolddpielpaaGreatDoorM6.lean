/- Parts of the proof: Gr, Pt, Pa, Ga, Gw. -/
import Derived.Test.YtgkeolddpielpaaGreatDoorM5
/- Graphs: how one lies in memory, its arcs and tables apart from the rest; plain. -/
namespace Go.Proofs.YtgkeolddpielpaaGreatDoor
open Go.RowKit

/-- The cells of a table in w, its costs in v. -/
def TabAt2 (w v : World) (b o : Nat) (t : TabD) : Prop := w.cell? ⟨b, o, none⟩ = some (.int .i64 t.ins) ∧ w.cell? ⟨b, o + 1, none⟩ = some (.int .i64 t.outs) ∧ ∃ (A : Option Addr) (n c : Nat), w.cell? ⟨b, o + 2, none⟩ = some (.slice A n c) ∧ RdI v A n t.costs ∧ n ≤ c ∧ c ≤ 9223372036854775807
def RdY2 (w v : World) (A : Option Addr) (n : Nat) (l : List TabD) : Prop := l.length = n ∧ ∀ i t, l[i]? = some t → ∃ b o, A = some ⟨b, o, none⟩ ∧ TabAt2 w v b (o + i * 3) t
theorem RdY2.rdY {w v : World} {A : Option Addr} {n : Nat} {l : List TabD} (h : RdY2 w v A n l) (hl : Le v w) : RdY w A n l :=
  ⟨h.1, fun i t ht => by
    obtain ⟨b, o, e, h1, h2, A', n', c', h3, h4, h5⟩ := h.2 i t ht
    exact ⟨b, o, e, h1, h2, A', n', c', h3, h4.le hl, h5⟩⟩
theorem RdY2.le {w w' v v' : World} {A : Option Addr} {n : Nat} {l : List TabD} (h : RdY2 w v A n l) (hw : ∀ b o x, blkOf A = some b → w.cell? ⟨b, o, none⟩ = some x → w'.cell? ⟨b, o, none⟩ = some x) (hl : Le v v') : RdY2 w' v' A n l :=
  ⟨h.1, fun i t ht => by
    obtain ⟨b, o, e, h1, h2, A', n', c', h3, h4, h5⟩ := h.2 i t ht
    have hb : blkOf A = some b := by rw [e]; rfl
    exact ⟨b, o, e, hw _ _ _ hb h1, hw _ _ _ hb h2, A', n', c', hw _ _ _ hb h3, h4.le hl, h5⟩⟩
/-- The block of a slice may be written. -/
def Warm (W : World) (A : Option Addr) : Prop := ∀ b, blkOf A = some b → b < W.heap.size ∧ ∀ o, W.frozen? ⟨b, o, none⟩ = false
theorem Warm.keep {W W' : World} {A : Option Addr} (h : Warm W A) (hz : W.heap.size ≤ W'.heap.size) (hk : ∀ b, blkOf A = some b → W'.heap[b]? = W.heap[b]?) : Warm W' A := fun b hb =>
  ⟨Nat.lt_of_lt_of_le (h b hb).1 hz, fun o => by rw [World.frozen?_of_block (hk b hb)]; exact (h b hb).2 o⟩
theorem Own.warm {w : World} {B s n c : Nat} {e : TypeId} {A : Option Addr} {xs : List Value} (h : Own w B e s A n c xs) : Warm w A := fun b hb => by
  refine ⟨(h.lt b hb).2, fun o => ?_⟩
  rcases h.2 with ⟨h', _⟩ | ⟨g, cap, cur, h1, h2, h3, _⟩
  · cases h'; cases hb
  · cases h1
    cases hb
    exact Blk.frozen (t := e) (cs := cur) h3 o
structure NetR (W : World) (G : Nat → Prop) (A B C : Option Addr) (n m k : Nat) (N : NetD) : Prop where
  vs : Rd3 (msk W G) A n N.vs
  ar : Rd3 W B m N.ar
  ts : RdY2 W (msk W G) C k N.ts
  wa : Warm W B
  wt : Warm W C
  ga : ∀ b, blkOf B = some b → ¬ G b
  gt : ∀ b, blkOf C = some b → ¬ G b
  ac : ∀ b, blkOf B = some b → blkOf C ≠ some b
theorem cell_keep {W W' : World} {b o : Nat} {x : Value} (hk : W'.heap[b]? = W.heap[b]?) (h : W.cell? ⟨b, o, none⟩ = some x) : W'.cell? ⟨b, o, none⟩ = some x := by
  rw [World.cell?_of_block (a := ⟨b, o, none⟩) hk]; exact h
theorem Rd3.keep {W W' : World} {A : Option Addr} {n : Nat} {l : List Tri} (h : Rd3 W A n l) (hk : ∀ b, blkOf A = some b → W'.heap[b]? = W.heap[b]?) : Rd3 W' A n l :=
  ⟨h.1, fun i x hx => by
    obtain ⟨b, o, e, h1, h2, h3⟩ := h.2 i x hx
    have hb := hk b (by rw [e]; rfl)
    exact ⟨b, o, e, cell_keep hb h1, cell_keep hb h2, cell_keep hb h3⟩⟩
section
variable {W W' : World} {G : Nat → Prop} {A B C : Option Addr} {n m k : Nat} {N : NetD}
theorem NetR.rd (h : NetR W G A B C n m k N) : RdNet W A B C n m k N := ⟨h.vs.le (msk_le W G), h.ar, h.ts.rdY (msk_le W G)⟩
theorem NetR.keep (h : NetR W G A B C n m k N) (hz : W.heap.size ≤ W'.heap.size) (hG : Kept G W W') (hB : ∀ b, blkOf B = some b → W'.heap[b]? = W.heap[b]?) (hC : ∀ b, blkOf C = some b → W'.heap[b]? = W.heap[b]?) : NetR W' G A B C n m k N where
  vs := h.vs.le hG.msk
  ar := h.ar.keep hB
  ts := h.ts.le (fun b _ _ hb hc => cell_keep (hC b hb) hc) hG.msk
  wa := h.wa.keep hz hB
  wt := h.wt.keep hz hC
  ga := h.ga
  gt := h.gt
  ac := h.ac
theorem NetR.below (h : NetR W G A B C n m k N) (hb : Below W.heap.size W W') : NetR W' G A B C n m k N :=
  h.keep hb.size (Kept.below hb) (fun b e => hb.block b (h.wa b e).1) (fun b e => hb.block b (h.wt b e).1)
theorem NetR.mono {G' : Nat → Prop} (h : NetR W G A B C n m k N) (hs : ∀ b, G b → G' b) (ha : ∀ b, blkOf B = some b → ¬ G' b) (ht : ∀ b, blkOf C = some b → ¬ G' b) : NetR W G' A B C n m k N where
  vs := h.vs.le (msk_mono hs)
  ar := h.ar
  ts := h.ts.le (fun _ _ _ _ hc => hc) (msk_mono hs)
  wa := h.wa
  wt := h.wt
  ga := ha
  gt := ht
  ac := h.ac
end
/-- A graph: its block is g; what may be written of it is its arcs, its tables. -/
structure GrR (W : World) (F G : Nat → Prop) (g : Nat) (A B C I O P : Option Addr) (n m k c d e ci co cp : Nat) (N : NetD) : Prop where
  net : NetR W G A B C n m k N
  blk : Blk W g 137 #[.slice A n c, .slice B m d, .slice C k e, .slice I n ci, .slice O n co, .slice P m cp]
  gg : G g
  ins : RdT (msk W G) I n (idxs (·.2.1) N.ar n)
  outs : RdT (msk W G) O n (idxs (·.1) N.ar n)
  plc : RdP (msk W G) P m (plcs N.ar)
  sub : ∀ b, (G b ∨ blkOf B = some b ∨ blkOf C = some b) → F b
  lt : ∀ b, F b → b < W.heap.size
  ok : NetOk N
  c0 : n ≤ c ∧ c ≤ 9223372036854775807
  c1 : m ≤ d ∧ d ≤ 9223372036854775807
  c2 : k ≤ e ∧ e ≤ 9223372036854775807
def GrO (W : World) (F : Nat → Prop) (g : Nat) (N : NetD) : Prop := ∃ (G : Nat → Prop) (A B C I O P : Option Addr) (n m k c d e ci co cp : Nat), GrR W F G g A B C I O P n m k c d e ci co cp N
/-- A graph that is read. -/
structure GrV (W : World) (g : Nat) (A B C I O P : Option Addr) (n m k c d e ci co cp : Nat) (N : NetD) : Prop where
  net : RdNet W A B C n m k N
  n0 : W.cell? ⟨g, 0, none⟩ = some (.slice A n c)
  n1 : W.cell? ⟨g, 1, none⟩ = some (.slice B m d)
  n2 : W.cell? ⟨g, 2, none⟩ = some (.slice C k e)
  n3 : W.cell? ⟨g, 3, none⟩ = some (.slice I n ci)
  n4 : W.cell? ⟨g, 4, none⟩ = some (.slice O n co)
  n5 : W.cell? ⟨g, 5, none⟩ = some (.slice P m cp)
  ins : RdT W I n (idxs (·.2.1) N.ar n)
  outs : RdT W O n (idxs (·.1) N.ar n)
  plc : RdP W P m (plcs N.ar)
  ok : NetOk N
  c0 : n ≤ c ∧ c ≤ 9223372036854775807
  c1 : m ≤ d ∧ d ≤ 9223372036854775807
  c2 : k ≤ e ∧ e ≤ 9223372036854775807
def RdGr (W : World) (g : Nat) (N : NetD) : Prop := ∃ (A B C I O P : Option Addr) (n m k c d e ci co cp : Nat), GrV W g A B C I O P n m k c d e ci co cp N
theorem RdGr.le {W W' : World} {g : Nat} {N : NetD} (h : RdGr W g N) (hl : Le W W') : RdGr W' g N := by
  obtain ⟨A, B, C, I, O, P, n, m, k, c, d, e, ci, co, cp, h⟩ := h
  exact ⟨A, B, C, I, O, P, n, m, k, c, d, e, ci, co, cp, h.net.le hl, hl _ _ h.n0, hl _ _ h.n1, hl _ _ h.n2, hl _ _ h.n3, hl _ _ h.n4, hl _ _ h.n5, h.ins.le hl, h.outs.le hl, h.plc.le hl, h.ok, h.c0, h.c1, h.c2⟩
theorem RdGr.below {W W' : World} {g : Nat} {N : NetD} (h : RdGr W g N) (hb : Below W.heap.size W W') : RdGr W' g N := h.le (Le.below hb)
theorem Blk.six {w : World} {g : Nat} {t : TypeId} {a b c d e f : Value} (h : Blk w g t #[a, b, c, d, e, f]) :
    w.cell? ⟨g, 0, none⟩ = some a ∧ w.cell? ⟨g, 1, none⟩ = some b ∧ w.cell? ⟨g, 2, none⟩ = some c ∧ w.cell? ⟨g, 3, none⟩ = some d ∧ w.cell? ⟨g, 4, none⟩ = some e ∧ w.cell? ⟨g, 5, none⟩ = some f :=
  ⟨by rw [h.cell]; rfl, by rw [h.cell]; rfl, by rw [h.cell]; rfl, by rw [h.cell]; rfl, by rw [h.cell]; rfl, by rw [h.cell]; rfl⟩
theorem GrO.rd {W : World} {F : Nat → Prop} {g : Nat} {N : NetD} (h : GrO W F g N) : RdGr W g N := by
  obtain ⟨G, A, B, C, I, O, P, n, m, k, c, d, e, ci, co, cp, h⟩ := h
  obtain ⟨h0, h1, h2, h3, h4, h5⟩ := h.blk.six
  exact ⟨A, B, C, I, O, P, n, m, k, c, d, e, ci, co, cp, h.net.rd, h0, h1, h2, h3, h4, h5, h.ins.le (msk_le W G), h.outs.le (msk_le W G), h.plc.le (msk_le W G), h.ok, h.c0, h.c1, h.c2⟩
theorem GrO.keep {W W' : World} {F : Nat → Prop} {g : Nat} {N : NetD} (h : GrO W F g N) (hz : W.heap.size ≤ W'.heap.size) (hF : Kept F W W') : GrO W' F g N := by
  obtain ⟨G, A, B, C, I, O, P, n, m, k, c, d, e, ci, co, cp, h⟩ := h
  have hG : Kept G W W' := hF.mono (fun b hb => h.sub b (.inl hb))
  refine ⟨G, A, B, C, I, O, P, n, m, k, c, d, e, ci, co, cp, ?_, (hF g (h.sub g (.inl h.gg)) h.blk.lt).trans h.blk, h.gg, h.ins.le hG.msk, h.outs.le hG.msk, h.plc.le hG.msk, h.sub, fun b hb => Nat.lt_of_lt_of_le (h.lt b hb) hz, h.ok, h.c0, h.c1, h.c2⟩
  exact h.net.keep hz hG (fun b hb => hF b (h.sub b (.inr (.inl hb))) (h.net.wa b hb).1) (fun b hb => hF b (h.sub b (.inr (.inr hb))) (h.net.wt b hb).1)
theorem GrO.below {W W' : World} {F : Nat → Prop} {g : Nat} {N : NetD} (h : GrO W F g N) (hb : Below W.heap.size W W') : GrO W' F g N := h.keep hb.size (Kept.below hb)
theorem GrO.lt {W : World} {F : Nat → Prop} {g b : Nat} {N : NetD} (h : GrO W F g N) (hb : F b) : b < W.heap.size := by
  obtain ⟨G, A, B, C, I, O, P, n, m, k, c, d, e, ci, co, cp, h⟩ := h
  exact h.lt b hb
theorem GrO.ok {W : World} {F : Nat → Prop} {g : Nat} {N : NetD} (h : GrO W F g N) : NetOk N := by
  obtain ⟨G, A, B, C, I, O, P, n, m, k, c, d, e, ci, co, cp, h⟩ := h
  exact h.ok
end Go.Proofs.YtgkeolddpielpaaGreatDoor

/- Parts: what cells that may be are; plain. -/
namespace Go.Proofs.YtgkeolddpielpaaGreatDoor
open Go.RowKit

theorem snoc_ind {P : List Int → Prop} (h0 : P []) (hs : ∀ l x, P l → P (l ++ [x])) (l : List Int) : P l := by
  have h : ∀ l : List Int, P l.reverse := by
    intro l
    induction l with
    | nil => exact h0
    | cons x l ih => rw [List.reverse_cons]; exact hs _ _ ih
  have := h l.reverse
  rwa [List.reverse_reverse] at this
/-- One more than the greatest number of a row. -/
def mostN (l : List Int) : Int := l.foldl (fun n x => max n (x + 1)) 0
theorem mostN_app (l : List Int) (x : Int) : mostN (l ++ [x]) = max (mostN l) (x + 1) := by simp [mostN]
theorem mostN_nonneg : ∀ l : List Int, 0 ≤ mostN l := by
  refine snoc_ind (by simp [mostN]) (fun l x ih => by rw [mostN_app]; omega)
theorem lt_mostN {l : List Int} {x : Int} : x ∈ l → x < mostN l := by
  revert x
  refine snoc_ind (P := fun l => ∀ {x : Int}, x ∈ l → x < mostN l) (fun h => by cases h) (fun l y ih => ?_) l
  · intro x h
    rw [mostN_app]
    rcases List.mem_append.1 h with h | h
    · have := ih h; omega
    · rw [List.mem_singleton.1 h]; omega
theorem mostN_mem {l : List Int} : 0 < mostN l → ∃ x ∈ l, mostN l = x + 1 := by
  refine snoc_ind (P := fun l => 0 < mostN l → ∃ x ∈ l, mostN l = x + 1) (fun h => by simp [mostN] at h) (fun l y ih => ?_) l
  · intro h
    rw [mostN_app] at h ⊢
    by_cases h1 : mostN l ≤ y + 1
    · exact ⟨y, by simp, by omega⟩
    · have h0 := mostN_nonneg l
      obtain ⟨x, hx, e⟩ := ih (by omega)
      exact ⟨x, List.mem_append_left _ hx, by omega⟩
theorem mostN_le {l : List Int} {n : Int} (h : ∀ x ∈ l, x < n) (hn : 0 ≤ n) : mostN l ≤ n := by
  by_cases h0 : 0 < mostN l
  · obtain ⟨x, hx, e⟩ := mostN_mem h0
    have := h x hx
    omega
  · omega
/-- A level's numbers: of each vertex one, none is left out. -/
structure LvlOk (n : Nat) (l : List Int) : Prop where
  len : l.length = n
  lo : ∀ x ∈ l, 0 ≤ x
  hi : ∀ x ∈ l, x < n
  all : ∀ c : Nat, (c : Int) < mostN l → (c : Int) ∈ l
/-- The cells of a level stand in those of the next one, and in their order. -/
def NestOk (p l : List Int) : Prop := ∀ (a b : Nat) (x y u v : Int), p[a]? = some x → p[b]? = some y → l[a]? = some u → l[b]? = some v → x ≤ y → u ≤ v
/-- Cells that may be. -/
structure PartOk (n : Nat) (ls : List (List Int)) : Prop where
  l1 : 1 ≤ ls.length
  l6 : ls.length ≤ 6
  lvl : ∀ l ∈ ls, LvlOk n l
  nest : ∀ (i : Nat) p l, ls[i]? = some p → ls[i + 1]? = some l → NestOk p l
/-- What is wrong with a level, as an Errno: 0 none. -/
noncomputable def lvlCode (n : Nat) (p : Option (List Int)) (l : List Int) : Int := by
  classical exact if l.length ≠ n then 1 else if LvlOk n l ∧ ∀ q, p = some q → NestOk q l then 0 else 10
end Go.Proofs.YtgkeolddpielpaaGreatDoor

/- Parts: numbers, row, Count. -/
namespace Go.Proofs.YtgkeolddpielpaaGreatDoor
open Go.RowKit

attribute [local go_sem ↓] Go.wp_at_zero Go.wp_at_succ

theorem numbers_ok (Q : Option Addr) (L cq i : Nat) (ls : List (List Int)) (l : List Int) (w : World) (h : RdT w Q L ls) (hl : ls[i]? = some l) (hL : L ≤ 1000000) :
    Calls Tryz.prog 88 #[.agg #[.slice Q L cq], .int .i64 ((i : Int) + 1)] w fun e w' => ∃ A n c, e = .returned (.slice A n c) ∧ RdI w A n l ∧ n ≤ c ∧ c ≤ 9223372036854775807 ∧ Below w.heap.size w w' := by
  have hi : i < L := by rw [← h.1]; exact (List.getElem?_eq_some_iff.1 hl).1
  obtain ⟨b, o, A, n, c, l', rfl, hl', hc, hr, q1, q2⟩ := h.at_ hi
  rw [hl] at hl'
  cases hl'
  have HR := Lib.hid hr
  have i1 : (0 : Int) ≤ (i : Int) := by omega
  have i2 : (i : Int) < (L : Int) := by omega
  have i3 : ¬ ((i : Int) + 1 < 1) := by omega
  have i4 : ¬ ((i : Int) + 1 > (L : Int)) := by omega
  have i5 : (i : Int) + 1 - 1 = (i : Int) := by omega
  have hca := fun ob => Below.cellOf (show Below w.heap.size w (w.alloc ob) from (by repeat (first | exact Below.refl _ _ | assumption | apply Below.drew | apply below_drewN | apply Bel.alloc | (refine Bel.setCell_ ?_ ?_; rotate_left; omega) | (refine Bel.step ?_ (by assumption))))) (Nat.le_refl _) hc
  clear h hl hr hc
  go_enter Tryz.func88, Tryz.ntmps88
  go_wp2
  go_ret
  exact ⟨_, _, _, rfl, HR.out, q1, q2, (by repeat (first | exact Below.refl _ _ | assumption | apply Below.drew | apply below_drewN | apply Bel.alloc | (refine Bel.setCell_ ?_ ?_; rotate_left; omega) | (refine Bel.step ?_ (by assumption))))⟩
theorem row_ok (Q : Option Addr) (L cq i : Nat) (ls : List (List Int)) (l : List Int) (w : World) (h : RdT w Q L ls) (hl : ls[i]? = some l) (hL : L ≤ 1000000) :
    Calls Tryz.prog 102 #[.agg #[.slice Q L cq], .int .i64 ((i : Int) + 1)] w fun e w' => ∃ A n c, e = .returned (.slice A n c) ∧ RdI w A n l ∧ n ≤ c ∧ c ≤ 9223372036854775807 ∧ Below w.heap.size w w' := by
  have hi : i < L := by rw [← h.1]; exact (List.getElem?_eq_some_iff.1 hl).1
  obtain ⟨b, o, A, n, c, l', rfl, hl', hc, hr, q1, q2⟩ := h.at_ hi
  rw [hl] at hl'
  cases hl'
  have HR := Lib.hid hr
  have i1 : (0 : Int) ≤ (i : Int) := by omega
  have i2 : (i : Int) < (L : Int) := by omega
  have i3 : ¬ ((i : Int) + 1 < 1) := by omega
  have i4 : ¬ ((i : Int) + 1 > (L : Int)) := by omega
  have i5 : (i : Int) + 1 - 1 = (i : Int) := by omega
  have hca := fun ob => Below.cellOf (show Below w.heap.size w (w.alloc ob) from (by repeat (first | exact Below.refl _ _ | assumption | apply Below.drew | apply below_drewN | apply Bel.alloc | (refine Bel.setCell_ ?_ ?_; rotate_left; omega) | (refine Bel.step ?_ (by assumption))))) (Nat.le_refl _) hc
  clear h hl hr hc
  go_enter Tryz.func102, Tryz.ntmps102
  go_wp2
  go_ret
  exact ⟨_, _, _, rfl, HR.out, q1, q2, (by repeat (first | exact Below.refl _ _ | assumption | apply Below.drew | apply below_drewN | apply Bel.alloc | (refine Bel.setCell_ ?_ ?_; rotate_left; omega) | (refine Bel.step ?_ (by assumption))))⟩
theorem mostN_take_le (l : List Int) (k : Nat) : mostN (l.take k) ≤ mostN l := by
  by_cases h0 : 0 < mostN (l.take k)
  · obtain ⟨x, hx, e⟩ := mostN_mem h0
    have := lt_mostN (List.mem_of_mem_take hx)
    omega
  · have := mostN_nonneg l
    omega
theorem mostN_next {l : List Int} {k : Nat} {x : Int} (h : l[k]? = some x) : mostN (l.take (k + 1)) = max (mostN (l.take k)) (x + 1) := by
  rw [List.take_succ_eq_append_getElem (List.getElem?_eq_some_iff.1 h).1, (List.getElem?_eq_some_iff.1 h).2, mostN_app]
set_option maxHeartbeats 1000000 in
theorem count_ok (Q : Option Addr) (L cq i : Nat) (ls : List (List Int)) (l : List Int) (w : World) (h : RdT w Q L ls) (hl : ls[i]? = some l) (hL : L ≤ 1000000) (hb : ∀ x ∈ l, 0 ≤ x ∧ x ≤ 1000000) :
    Calls Tryz.prog 67 #[.agg #[.slice Q L cq], .int .i64 ((i : Int) + 1)] w fun e w' => e = .returned (.int .i64 (mostN l)) ∧ Below w.heap.size w w' := by
  have HN := Lib.hid (show ∀ V, Below w.heap.size w V → Calls Tryz.prog 88 #[.agg #[.slice Q L cq], .int .i64 ((i : Int) + 1)] V fun e w' => ∃ A n c, e = .returned (.slice A n c) ∧ RdI V A n l ∧ n ≤ c ∧ c ≤ 9223372036854775807 ∧ Below V.heap.size V w' from fun V hV => numbers_ok Q L cq i ls l V (h.below hV) hl hL)
  have HB := Lib.hid hb
  clear h hl hb
  go_enter Tryz.func67, Tryz.ntmps67
  go_wp2_with fail
  (refine calls_named ?_; intro w1 hw1)
  have hb1 : Below w.heap.size w w1 := by rw [hw1]; exact (by repeat (first | exact Below.refl _ _ | assumption | apply Below.drew | apply below_drewN | apply Bel.alloc | (refine Bel.setCell_ ?_ ?_; rotate_left; omega) | (refine Bel.step ?_ (by assumption))))
  clear hw1
  with_reducible refine (HN.out w1 hb1).mono ?_
  rintro e w2 ⟨A, n, c, rfl, hr, q1, q2, hb2⟩
  have hr2 := hr.below hb2
  have HLEN := Lib.hid hr.1
  have hbw2 := Bel.step hb1 hb2
  clear hr
  go_wp2_with fail
  go_loop [5, 12] (fun m q => ∃ k : Nat, k ≤ n ∧ q = .int .i64 k ∧ m = .int .i64 (mostN (l.take k))) (fun _ q => n - (intOf q).toNat)
  case atStart => exact ⟨0, Nat.zero_le _, rfl, rfl⟩
  case round =>
    obtain ⟨k, hk, rfl, rfl⟩ := hrel
    by_cases hlt : k < n
    · obtain ⟨b, o, x, rfl, hx, hc⟩ := hr2.at_ hlt
      have hxb := HB.out x (List.mem_of_getElem? hx)
      have HNX := Lib.hid (mostN_next hx)
      have i1 : (0 : Int) ≤ (k : Int) := by omega
      have i2 : (k : Int) < (n : Int) := by omega
      clear hx
      generalize mostN (l.take k) = m at *
      by_cases hge : x ≥ m
      · go_wp2_with fail
        go_round
        case rel => exact ⟨k + 1, by omega, by go_num, by rw [HNX.out, show max m (x + 1) = x + 1 by omega]⟩
        case measure => simp [intOf]; omega
      · go_wp2_with fail
        go_round
        case rel => exact ⟨k + 1, by omega, by go_num, by rw [HNX.out, show max m (x + 1) = m by omega]⟩
        case measure => simp [intOf]; omega
    · obtain rfl : n = k := by omega
      have HE := Lib.hid (show mostN (l.take n) = mostN l by rw [List.take_of_length_le (by rw [HLEN.out]; exact Nat.le_refl _)])
      go_wp2
      go_ret
      exact ⟨ret_int HE.out, hbw2⟩
end Go.Proofs.YtgkeolddpielpaaGreatDoor

/- What a graph tells: how many, an arc's ends, its weight. -/
namespace Go.Proofs.YtgkeolddpielpaaGreatDoor
open Go.RowKit

attribute [local go_sem ↓] Go.wp_at_zero Go.wp_at_succ

theorem NetOk.arLe {N : NetD} (h : NetOk N) {m : Nat} (e : N.ar.length = m) : m ≤ 16384 := by rw [← e]; exact h.la
theorem gVerts_any (g : Nat) (N : NetD) (w : World) (h : RdGr w g N) : Calls Tryz.prog 35 #[.pointer (some ⟨g, 0, none⟩)] w fun e w' => e = .returned (.int .i64 (N.vs.length : Int)) ∧ w = w' := by
  obtain ⟨A, B, C, I, O, P, n, m, k, c, d, e, ci, co, cp, h⟩ := h
  have h0 := h.n0
  have HL := Lib.hid h.net.1.1
  clear h
  go_enter Tryz.func35, Tryz.ntmps35
  go_wp2
  go_ret
  exact ⟨ret_int (by rw [HL.out]), rfl⟩
theorem gArcs_any (g : Nat) (N : NetD) (w : World) (h : RdGr w g N) : Calls Tryz.prog 38 #[.pointer (some ⟨g, 0, none⟩)] w fun e w' => e = .returned (.int .i64 (N.ar.length : Int)) ∧ w = w' := by
  obtain ⟨A, B, C, I, O, P, n, m, k, c, d, e, ci, co, cp, h⟩ := h
  have h1 := h.n1
  have HL := Lib.hid h.net.2.1.1
  clear h
  go_enter Tryz.func38, Tryz.ntmps38
  go_wp2
  go_ret
  exact ⟨ret_int (by rw [HL.out]), rfl⟩
theorem gArc_ok (g : Nat) (N : NetD) (a : Int) (w : World) (h : RdGr w g N) (h0 : 0 ≤ a) (h1 : a < N.ar.length) : Calls Tryz.prog 69 #[.pointer (some ⟨g, 0, none⟩), .int .i64 a] w fun e w' => e = .returned (.bool true) ∧ w = w' := by
  obtain ⟨A, B, C, I, O, P, n, m, k, c, d, e, ci, co, cp, h⟩ := h
  have hn1 := h.n1
  have hl := h.net.2.1.1
  rw [hl] at h1
  clear hl h
  go_enter Tryz.func69, Tryz.ntmps69
  go_wp2
  go_ret
  exact ⟨ret_bool (by first | (simp; done) | (simp; omega)), rfl⟩
theorem gArc_no (g : Nat) (N : NetD) (a : Int) (w : World) (h : RdGr w g N) (h1 : ¬ (0 ≤ a ∧ a < N.ar.length)) : Calls Tryz.prog 69 #[.pointer (some ⟨g, 0, none⟩), .int .i64 a] w fun e w' => e = .returned (.bool false) ∧ w = w' := by
  obtain ⟨A, B, C, I, O, P, n, m, k, c, d, e, ci, co, cp, h⟩ := h
  have hn1 := h.n1
  have hl := h.net.2.1.1
  rw [hl] at h1
  clear hl h
  by_cases h0 : 0 ≤ a
  · have h2 : ¬ a < m := by omega
    clear h1
    go_enter Tryz.func69, Tryz.ntmps69
    go_wp2
    go_ret
    exact ⟨ret_bool (by first | (simp; done) | (simp; omega)), rfl⟩
  · clear h1
    go_enter Tryz.func69, Tryz.ntmps69
    go_wp2
    go_ret
    exact ⟨ret_bool (by first | (simp; done) | (simp; omega)), rfl⟩
theorem gFrom_ok (g a : Nat) (N : NetD) (x : Tri) (w : World) (h : RdGr w g N) (hx : N.ar[a]? = some x) : Calls Tryz.prog 39 #[.pointer (some ⟨g, 0, none⟩), .int .i64 a] w fun e w' => e = .returned (.int .i64 x.1) ∧ w = w' := by
  have HA := Lib.hid (show ∀ V, V = w → Calls Tryz.prog 69 #[.pointer (some ⟨g, 0, none⟩), .int .i64 a] V fun e w' => e = .returned (.bool true) ∧ V = w' from fun V e => e ▸ gArc_ok g N a w h (by omega) (by have := (List.getElem?_eq_some_iff.1 hx).1; omega))
  obtain ⟨A, B, C, I, O, P, n, m, k, c, d, e, ci, co, cp, h⟩ := h
  have hn1 := h.n1
  have ha : a < m := by have := (List.getElem?_eq_some_iff.1 hx).1; rw [h.net.2.1.1] at this; exact this
  have hm := h.ok.arLe h.net.2.1.1
  obtain ⟨b, o, x', y', z', rfl, hx', cx, cy, cz⟩ := h.net.2.1.at_ ha
  rw [hx] at hx'
  cases hx'
  have i1 : (0 : Int) ≤ (a : Int) := by omega
  have i2 : (a : Int) < (m : Int) := by omega
  clear hx h
  go_enter Tryz.func39, Tryz.ntmps39
  go_wp2_with fail
  with_reducible refine (HA.out _ rfl).mono ?_
  rintro e w' ⟨rfl, rfl⟩
  go_wp2
  go_ret
  exact ⟨rfl, rfl⟩
theorem gTo_ok (g a : Nat) (N : NetD) (x : Tri) (w : World) (h : RdGr w g N) (hx : N.ar[a]? = some x) : Calls Tryz.prog 40 #[.pointer (some ⟨g, 0, none⟩), .int .i64 a] w fun e w' => e = .returned (.int .i64 x.2.1) ∧ w = w' := by
  have HA := Lib.hid (show ∀ V, V = w → Calls Tryz.prog 69 #[.pointer (some ⟨g, 0, none⟩), .int .i64 a] V fun e w' => e = .returned (.bool true) ∧ V = w' from fun V e => e ▸ gArc_ok g N a w h (by omega) (by have := (List.getElem?_eq_some_iff.1 hx).1; omega))
  obtain ⟨A, B, C, I, O, P, n, m, k, c, d, e, ci, co, cp, h⟩ := h
  have hn1 := h.n1
  have ha : a < m := by have := (List.getElem?_eq_some_iff.1 hx).1; rw [h.net.2.1.1] at this; exact this
  have hm := h.ok.arLe h.net.2.1.1
  obtain ⟨b, o, x', y', z', rfl, hx', cx, cy, cz⟩ := h.net.2.1.at_ ha
  rw [hx] at hx'
  cases hx'
  have i1 : (0 : Int) ≤ (a : Int) := by omega
  have i2 : (a : Int) < (m : Int) := by omega
  clear hx h
  go_enter Tryz.func40, Tryz.ntmps40
  go_wp2_with fail
  with_reducible refine (HA.out _ rfl).mono ?_
  rintro e w' ⟨rfl, rfl⟩
  go_wp2
  go_ret
  exact ⟨rfl, rfl⟩
end Go.Proofs.YtgkeolddpielpaaGreatDoor

/- Cells' gates: rows of numbers in the cells of one block; which arcs cross; plain. -/
namespace Go.Proofs.YtgkeolddpielpaaGreatDoor
open Go.RowKit

/-! Rows of ints, each of the call's own, as the cells of one block. -/
def IkG (t : TypeId) (W : World) (B g n : Nat) (ls : List (List Int)) : Prop :=
  ls.length = n ∧ g < B ∧ ∃ cs, Blk W g t cs ∧ cs.size = n ∧ (∀ (v : Nat) (l : List Int), ls[v]? = some l → ∃ A c, cs[v]? = some (.slice A l.length c) ∧ Own W B 3 1 A l.length c (icells l)) ∧
    ∀ (v v' : Nat) A m c A' m' c', v ≠ v' → cs[v]? = some (.slice A m c) → cs[v']? = some (.slice A' m' c') → Dj A A'
theorem IkG.start {t : TypeId} {W : World} {B g n : Nat} (hg : g < B) (h : Blk W g t (zeros (.slice none 0 0) n)) : IkG t W B g n (List.replicate n []) := by
  refine ⟨by simp, hg, _, h, by simp [zeros], fun v l hl => ?_, fun v v' A m c A' m' c' _ h1 _ => ?_⟩
  · obtain ⟨hv, e⟩ := List.getElem?_eq_some_iff.1 hl
    simp at e
    subst e
    refine ⟨none, 0, ?_, Own.nil _ _ _ _⟩
    simp at hv
    simp [zeros, hv]
  · have e := (Array.getElem?_eq_some_iff.1 h1).2
    simp [zeros] at e
    obtain ⟨rfl, _, _⟩ := e
    exact .inl rfl
theorem IkG.grown {t : TypeId} {W W' : World} {B g n : Nat} {r : Option Nat} {ls : List (List Int)} (h : IkG t W B g n ls) (hg : W.grownBy W' r) (hr : ∀ b, r = some b → b ≠ g ∧ b < B) : IkG t W' B g n ls := by
  obtain ⟨h1, h2, cs, h3, h4, h5, h6⟩ := h
  refine ⟨h1, h2, cs, h3.grown hg (fun e => (hr g e).1 rfl), h4, fun v l hl => ?_, h6⟩
  obtain ⟨A, c, k1, k2⟩ := h5 v l hl
  refine ⟨A, c, k1, k2.far hg ?_⟩
  cases hA : blkOf A with
  | none => exact .inl rfl
  | some b =>
    refine .inr (fun e => ?_)
    have h8 := (k2.lt b hA).1
    have h9 := (hr b e.symm).2
    omega
theorem IkG.below {t : TypeId} {W W' : World} {B g n : Nat} {ls : List (List Int)} (h : IkG t W B g n ls) (hb : Below W.heap.size W W') : IkG t W' B g n ls := by
  obtain ⟨h1, h2, cs, h3, h4, h5, h6⟩ := h
  exact ⟨h1, h2, cs, h3.below hb h3.lt, h4, fun v l hl => by
    obtain ⟨A, c, k1, k2⟩ := h5 v l hl
    exact ⟨A, c, k1, k2.below hb⟩, h6⟩
theorem IkG.row {t : TypeId} {W : World} {B g n u : Nat} {ls : List (List Int)} (h : IkG t W B g n ls) (hu : u < n) : ∃ A c l, ls[u]? = some l ∧ W.cell? ⟨g, u, none⟩ = some (.slice A l.length c) ∧ W.frozen? ⟨g, u, none⟩ = false ∧ Own W B 3 1 A l.length c (icells l) := by
  obtain ⟨h1, h2, cs, h3, h4, h5, h6⟩ := h
  have hl : ls[u]? = some ls[u] := List.getElem?_eq_getElem (by omega)
  obtain ⟨A, c, k1, k2⟩ := h5 u _ hl
  exact ⟨A, c, _, hl, by rw [h3.cell]; exact k1, h3.frozen u, k2⟩
theorem IkG.lt {t : TypeId} {W : World} {B g n : Nat} {ls : List (List Int)} (h : IkG t W B g n ls) : g < W.heap.size := by
  obtain ⟨_, _, cs, h3, _⟩ := h
  exact h3.lt
/-- One number more. -/
theorem IkG.push {t : TypeId} {W w' : World} {B g n u c c' : Nat} {A A' : Option Addr} {ls : List (List Int)} {l : List Int} {k : Int} (h : IkG t W B g n ls) (hl : ls[u]? = some l) (hc : W.cell? ⟨g, u, none⟩ = some (.slice A l.length c))
    (hown : Own w' B 3 1 A' (l.length + 1) c' (icells l ++ icells [k])) (hg : W.grownBy w' (blkOf A)) (hat : blkOf A' = blkOf A ∨ blkOf A' = some W.heap.size) :
    IkG t (w'.setCell ⟨g, u, none⟩ (.slice A' (l.length + 1) c')) B g n (ls.set u (l ++ [k])) := by
  obtain ⟨h1, h2, cs, h3, h4, h5, h6⟩ := h
  have hu := (List.getElem?_eq_some_iff.1 hl).1
  have hcs : cs[u]? = some (.slice A l.length c) := by rw [← h3.cell]; exact hc
  obtain ⟨A0, c0, k1, hown0⟩ := h5 u l hl
  rw [hcs] at k1
  cases k1
  have hgA : blkOf A ≠ some g := hown0.ne h2
  have hgA' : blkOf A' ≠ some g := hown.ne h2
  refine ⟨by rw [List.length_set]; exact h1, h2, _, (h3.grown hg hgA).set_ u (.slice A' (l.length + 1) c'), by simpa using h4, fun v l' hl' => ?_, fun v v' X m d X' m' d' hne e1 e2 => ?_⟩
  · by_cases e : u = v
    · subst e
      rw [List.getElem?_set_self hu] at hl'
      cases hl'
      refine ⟨A', c', by rw [Array.getElem?_setIfInBounds_self_of_lt (by omega), List.length_append]; rfl, ?_⟩
      rw [List.length_append, icells_app]
      exact hown.far (grownBy_set _ _ _ _) (.inr hgA')
    · rw [List.getElem?_set_ne e] at hl'
      obtain ⟨X, d, k1, k2⟩ := h5 v l' hl'
      refine ⟨X, d, by rw [Array.getElem?_setIfInBounds_ne e]; exact k1, (k2.far hg (h6 u v _ _ _ _ _ _ e hcs k1).far).far (grownBy_set _ _ _ _) (.inr (k2.ne h2))⟩
  · have old : ∀ v X m d, u ≠ v → cs[v]? = some (.slice X m d) → Dj A' X := fun v X m d hv e3 => by
      have hv2 := (Array.getElem?_eq_some_iff.1 e3).1
      obtain ⟨X0, d0, k1, k2⟩ := h5 v _ (List.getElem?_eq_getElem (show v < ls.length by omega))
      rw [e3] at k1
      cases k1
      exact (h6 u v _ _ _ _ _ _ hv hcs e3).next k2 hat
    by_cases a1 : u = v
    · subst a1
      rw [Array.getElem?_setIfInBounds_self_of_lt (by omega)] at e1
      cases e1
      rw [Array.getElem?_setIfInBounds_ne hne] at e2
      exact old v' X' m' d' hne e2
    · rw [Array.getElem?_setIfInBounds_ne a1] at e1
      by_cases a2 : u = v'
      · subst a2
        rw [Array.getElem?_setIfInBounds_self_of_lt (by omega)] at e2
        cases e2
        exact (old v X m d a1 e1).symm
      · rw [Array.getElem?_setIfInBounds_ne a2] at e2
        exact h6 v v' X m d X' m' d' hne e1 e2
theorem IkG.cellG {t : TypeId} {W w' : World} {B g n u : Nat} {r : Option Nat} {ls : List (List Int)} (h : IkG t W B g n ls) (hu : u < n) (hg : W.grownBy w' r) (hr : r ≠ some g) : ∃ v, w'.cell? ⟨g, u, none⟩ = some v ∧ w'.frozen? ⟨g, u, none⟩ = false := by
  obtain ⟨h1, h2, cs, h3, h4, h5, h6⟩ := h
  have hb := h3.grown hg hr
  exact ⟨_, by rw [hb.cell]; exact Array.getElem?_eq_getElem (by omega), hb.frozen u⟩
theorem IkG.rdT {t : TypeId} {W : World} {B g n : Nat} {ls : List (List Int)} (h : IkG t W B g n ls) : RdT W (some ⟨g, 0, none⟩) n ls := by
  obtain ⟨h1, h2, cs, h3, h4, h5, h6⟩ := h
  refine ⟨h1, fun i l hl => ?_⟩
  obtain ⟨A, c, k1, k2⟩ := h5 i l hl
  exact ⟨g, 0, A, l.length, c, rfl, by rw [Nat.zero_add, h3.cell]; exact k1, k2.rds.rdI, k2.cap, k2.capMax⟩
theorem IkG.rdM {t : TypeId} {W : World} {G : Nat → Prop} {B g n : Nat} {ls : List (List Int)} (h : IkG t W B g n ls) (hg : G g) (hB : ∀ b, B ≤ b → b < W.heap.size → G b) : RdT (msk W G) (some ⟨g, 0, none⟩) n ls := by
  obtain ⟨h1, h2, cs, h3, h4, h5, h6⟩ := h
  refine ⟨h1, fun i l hl => ?_⟩
  obtain ⟨A, c, k1, k2⟩ := h5 i l hl
  exact ⟨g, 0, A, l.length, c, rfl, msk_cell.2 ⟨hg, by rw [Nat.zero_add, h3.cell]; exact k1⟩, (k2.rds.rdI).msk (fun b hb => hB b (k2.lt b hb).1 (k2.lt b hb).2), k2.cap, k2.capMax⟩


/-! Arcs of a row that are marked. -/
def arcP (P : Tri → Bool) (l : List Tri) : List Int := (l.zipIdx.filter (fun p => P p.1)).map (fun p => (p.2 : Int))
theorem arcP_snoc (P : Tri → Bool) (l : List Tri) (a : Tri) : arcP P (l ++ [a]) = arcP P l ++ (if P a then [(l.length : Int)] else []) := by
  unfold arcP
  rw [List.zipIdx_append, List.filter_append, List.map_append]
  congr 1
  cases h : P a <;> simp [h]
theorem arcP_take {P : Tri → Bool} {l : List Tri} {a : Tri} {k : Nat} (h : l[k]? = some a) : arcP P (l.take (k + 1)) = arcP P (l.take k) ++ (if P a then [(k : Int)] else []) := by
  have hlt := (List.getElem?_eq_some_iff.1 h).1
  rw [List.take_succ_eq_append_getElem hlt, (List.getElem?_eq_some_iff.1 h).2, arcP_snoc, List.length_take, Nat.min_eq_left (by omega)]
theorem arcP_len (P : Tri → Bool) (l : List Tri) : (arcP P l).length ≤ l.length := by
  unfold arcP
  rw [List.length_map]
  refine Nat.le_trans (List.length_filter_le _ _) ?_
  simp
theorem mem_arcP {P : Tri → Bool} {l : List Tri} {x : Int} : x ∈ arcP P l ↔ ∃ (i : Nat) (a : Tri), x = (i : Int) ∧ l[i]? = some a ∧ P a = true := by
  unfold arcP
  simp only [List.mem_map, List.mem_filter]
  constructor
  · rintro ⟨⟨a, i⟩, ⟨h1, h2⟩, rfl⟩
    exact ⟨i, a, rfl, List.mem_zipIdx_iff_getElem?.1 h1, h2⟩
  · rintro ⟨i, a, rfl, h1, h2⟩
    exact ⟨(a, i), ⟨List.mem_zipIdx_iff_getElem?.2 h1, h2⟩, rfl⟩
theorem arcP_sorted (P : Tri → Bool) : ∀ l : List Tri, (arcP P l).Pairwise (· < ·) := by
  intro l
  unfold arcP
  rw [List.pairwise_map]
  refine List.Pairwise.filter _ ?_
  rw [List.pairwise_iff_getElem]
  intro i j hi hj hij
  simp
  exact hij
/-- The cell of a vertex. -/
def cellOf (l : List Int) (v : Int) : Int := l.getD v.toNat 0
theorem cellOf_nat {l : List Int} {v : Nat} {p : Int} (h : l[v]? = some p) : cellOf l (v : Int) = p := by
  unfold cellOf
  rw [Int.toNat_natCast, List.getD_eq_getElem?_getD, h]
  rfl
/-- Does an arc cross? -/
def crossB (l : List Int) (a : Tri) : Bool := cellOf l a.1 != cellOf l a.2.1
def crossL (ar : List Tri) (l : List Int) : List Int := arcP (crossB l) ar
/-- The cells of an arc's ends. -/
def toC (ar : List Tri) (l : List Int) (a : Int) : Int := cellOf l (ar.getD a.toNat (0, 0, 0)).2.1
def frC (ar : List Tri) (l : List Int) (a : Int) : Int := cellOf l (ar.getD a.toNat (0, 0, 0)).1
theorem toC_nat {ar : List Tri} {l : List Int} {a : Nat} {x : Tri} (h : ar[a]? = some x) : toC ar l (a : Int) = cellOf l x.2.1 := by
  unfold toC
  rw [Int.toNat_natCast, List.getD_eq_getElem?_getD, h]
  rfl
theorem frC_nat {ar : List Tri} {l : List Int} {a : Nat} {x : Tri} (h : ar[a]? = some x) : frC ar l (a : Int) = cellOf l x.1 := by
  unfold frC
  rw [Int.toNat_natCast, List.getD_eq_getElem?_getD, h]
  rfl
/-- Of each cell who enters, who leaves, side by side. -/
def gRows (t f : Int → Int) (X : List Int) (n : Nat) : List (List Int) := (List.range (n * 2)).map (fun i : Nat => if i % 2 = 0 then X.filter (fun a => t a == ((i / 2 : Nat) : Int)) else X.filter (fun a => f a == ((i / 2 : Nat) : Int)))
theorem gRows_len (t f : Int → Int) (X : List Int) (n : Nat) : (gRows t f X n).length = n * 2 := by simp [gRows]
theorem gRows_in {t f : Int → Int} {X : List Int} {n c : Nat} (h : c < n) : (gRows t f X n)[c * 2]? = some (X.filter (fun a => t a == (c : Int))) := by
  unfold gRows
  rw [List.getElem?_map, List.getElem?_range (by omega)]
  simp
theorem gRows_out {t f : Int → Int} {X : List Int} {n c : Nat} (h : c < n) : (gRows t f X n)[c * 2 + 1]? = some (X.filter (fun a => f a == (c : Int))) := by
  unfold gRows
  rw [List.getElem?_map, List.getElem?_range (by omega), Option.map_some, if_neg (by omega), show (c * 2 + 1) / 2 = c by omega]
theorem gRows_nil (t f : Int → Int) (n : Nat) : gRows t f [] n = List.replicate (n * 2) [] := by
  apply List.ext_getElem?
  intro i
  rcases Nat.lt_or_ge i (n * 2) with h | h
  · unfold gRows
    rw [List.getElem?_map, List.getElem?_range h]
    simp [h]
  · rw [List.getElem?_eq_none (by rw [gRows_len]; exact h), List.getElem?_eq_none (by simpa using h)]
theorem gRows_next {t f : Int → Int} {X : List Int} {n p q : Nat} {a : Int} (hp : t a = (p : Int)) (hq : f a = (q : Int)) (h1 : p < n) (h2 : q < n) :
    ((gRows t f X n).set (p * 2) (X.filter (fun a => t a == (p : Int)) ++ [a])).set (q * 2 + 1) (X.filter (fun a => f a == (q : Int)) ++ [a]) = gRows t f (X ++ [a]) n := by
  apply List.ext_getElem?
  intro i
  rcases Nat.lt_or_ge i (n * 2) with hi | hi
  · have hl : ∀ Y, (gRows t f Y n)[i]? = some (if i % 2 = 0 then Y.filter (fun a => t a == ((i / 2 : Nat) : Int)) else Y.filter (fun a => f a == ((i / 2 : Nat) : Int))) := fun Y => by
      unfold gRows
      rw [List.getElem?_map, List.getElem?_range hi]
      rfl
    by_cases e1 : q * 2 + 1 = i
    · subst e1
      rw [List.getElem?_set_self (by rw [List.length_set, gRows_len]; exact hi), gRows_out h2, List.filter_append]
      simp [hq]
    · rw [List.getElem?_set_ne e1]
      by_cases e2 : p * 2 = i
      · subst e2
        rw [List.getElem?_set_self (by rw [gRows_len]; exact hi), gRows_in h1, List.filter_append]
        simp [hp]
      · rw [List.getElem?_set_ne e2, hl, hl]
        congr 1
        rcases Nat.mod_two_eq_zero_or_one i with h0 | h0
        · rw [if_pos h0, if_pos h0, List.filter_append]
          simp [hp]
          omega
        · rw [if_neg (by omega), if_neg (by omega), List.filter_append]
          simp [hq]
          omega
  · rw [List.getElem?_eq_none (by rw [List.length_set, List.length_set, gRows_len]; exact hi), List.getElem?_eq_none (by rw [gRows_len]; exact hi)]

/-- Gates of a level: of each cell who enters, who leaves. -/
abbrev GateD := List Int × List Int
def RdC (w : World) (A : Option Addr) (n : Nat) (row : List GateD) : Prop :=
  row.length = n ∧ ∀ c x, row[c]? = some x → ∃ b o A1 n1 c1 A2 n2 c2, A = some ⟨b, o, none⟩ ∧ w.cell? ⟨b, o + c * 2, none⟩ = some (.slice A1 n1 c1) ∧ RdI w A1 n1 x.1 ∧ w.cell? ⟨b, o + c * 2 + 1, none⟩ = some (.slice A2 n2 c2) ∧ RdI w A2 n2 x.2 ∧ (n1 ≤ c1 ∧ c1 ≤ 9223372036854775807) ∧ n2 ≤ c2 ∧ c2 ≤ 9223372036854775807
theorem RdC.le {w w' : World} {A : Option Addr} {n : Nat} {row : List GateD} (h : RdC w A n row) (hl : Le w w') : RdC w' A n row :=
  ⟨h.1, fun c x hx => by
    obtain ⟨b, o, A1, n1, c1, A2, n2, c2, e, h1, h2, h3, h4, h5⟩ := h.2 c x hx
    exact ⟨b, o, A1, n1, c1, A2, n2, c2, e, hl _ _ h1, h2.le hl, hl _ _ h3, h4.le hl, h5⟩⟩
theorem RdC.at_ {w : World} {A : Option Addr} {n c : Nat} {row : List GateD} (h : RdC w A n row) (hc : c < n) : ∃ x b o A1 n1 c1 A2 n2 c2, row[c]? = some x ∧ A = some ⟨b, o, none⟩ ∧ w.cell? ⟨b, o + c * 2, none⟩ = some (.slice A1 n1 c1) ∧ RdI w A1 n1 x.1 ∧ w.cell? ⟨b, o + c * 2 + 1, none⟩ = some (.slice A2 n2 c2) ∧ RdI w A2 n2 x.2 ∧ (n1 ≤ c1 ∧ c1 ≤ 9223372036854775807) ∧ n2 ≤ c2 ∧ c2 ≤ 9223372036854775807 := by
  have hl : c < row.length := by rw [h.1]; exact hc
  obtain ⟨b, o, A1, n1, c1, A2, n2, c2, h1⟩ := h.2 c _ (List.getElem?_eq_getElem hl)
  exact ⟨_, b, o, A1, n1, c1, A2, n2, c2, List.getElem?_eq_getElem hl, h1⟩
def RdG (w : World) (A : Option Addr) (n : Nat) (gs : List (List GateD)) : Prop :=
  gs.length = n ∧ ∀ i row, gs[i]? = some row → ∃ b o A' n' c', A = some ⟨b, o, none⟩ ∧ w.cell? ⟨b, o + i, none⟩ = some (.slice A' n' c') ∧ RdC w A' n' row ∧ n' ≤ c' ∧ c' ≤ 9223372036854775807
theorem RdG.le {w w' : World} {A : Option Addr} {n : Nat} {gs : List (List GateD)} (h : RdG w A n gs) (hl : Le w w') : RdG w' A n gs :=
  ⟨h.1, fun i row hx => by
    obtain ⟨b, o, A', n', c', e, h1, h2, h3⟩ := h.2 i row hx
    exact ⟨b, o, A', n', c', e, hl _ _ h1, h2.le hl, h3⟩⟩
theorem RdG.at_ {w : World} {A : Option Addr} {n i : Nat} {gs : List (List GateD)} (h : RdG w A n gs) (hi : i < n) : ∃ row b o A' n' c', gs[i]? = some row ∧ A = some ⟨b, o, none⟩ ∧ w.cell? ⟨b, o + i, none⟩ = some (.slice A' n' c') ∧ RdC w A' n' row ∧ n' ≤ c' ∧ c' ≤ 9223372036854775807 := by
  have hl : i < gs.length := by rw [h.1]; exact hi
  obtain ⟨b, o, A', n', c', h1⟩ := h.2 i _ (List.getElem?_eq_getElem hl)
  exact ⟨_, b, o, A', n', c', List.getElem?_eq_getElem hl, h1⟩
/-- The gates of a net under cells. -/
def gateRow (ar : List Tri) (l : List Int) : List GateD := (List.range (mostN l).toNat).map (fun c : Nat => ((crossL ar l).filter (fun a => toC ar l a == (c : Int)), (crossL ar l).filter (fun a => frC ar l a == (c : Int))))
theorem gateRow_len (ar : List Tri) (l : List Int) : (gateRow ar l).length = (mostN l).toNat := by simp [gateRow]
theorem gateRow_get {ar : List Tri} {l : List Int} {c : Nat} (h : c < (mostN l).toNat) : (gateRow ar l)[c]? = some ((crossL ar l).filter (fun a => toC ar l a == (c : Int)), (crossL ar l).filter (fun a => frC ar l a == (c : Int))) := by
  unfold gateRow
  rw [List.getElem?_map, List.getElem?_range h]
  rfl
def gatesOf (ar : List Tri) (ls : List (List Int)) : List (List GateD) := ls.map (gateRow ar)
theorem IkG.rdC {t : TypeId} {W : World} {B g : Nat} {ar : List Tri} {l : List Int} (h : IkG t W B g ((mostN l).toNat * 2) (gRows (toC ar l) (frC ar l) (crossL ar l) (mostN l).toNat)) : RdC W (some ⟨g, 0, none⟩) (mostN l).toNat (gateRow ar l) := by
  refine ⟨gateRow_len ar l, fun c x hx => ?_⟩
  have hc : c < (mostN l).toNat := by rw [← gateRow_len ar l]; exact (List.getElem?_eq_some_iff.1 hx).1
  rw [gateRow_get hc] at hx
  cases hx
  obtain ⟨A1, c1, l1, e1, e2, _, e4⟩ := h.row (u := c * 2) (by omega)
  obtain ⟨A2, c2, l2, d1, d2, _, d4⟩ := h.row (u := c * 2 + 1) (by omega)
  rw [gRows_in hc] at e1
  rw [gRows_out hc] at d1
  cases e1
  cases d1
  exact ⟨g, 0, A1, _, c1, A2, _, c2, rfl, by rw [Nat.zero_add]; exact e2, e4.rds.rdI, by rw [Nat.zero_add]; exact d2, d4.rds.rdI, ⟨e4.cap, e4.capMax⟩, d4.cap, d4.capMax⟩
end Go.Proofs.YtgkeolddpielpaaGreatDoor
