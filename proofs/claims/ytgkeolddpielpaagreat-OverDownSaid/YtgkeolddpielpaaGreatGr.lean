/- Graphs: how one lies in memory, its arcs and tables apart from the rest; plain. -/
import Derived.Test.YtgkeolddpielpaaGreatGv
namespace Go.Proofs.YtgkeolddpielpaaGreat
open Go.RowKit

/-- The cells of a table in w, its costs in v. -/
def TabAt2 (w v : World) (b o : Nat) (t : TabD) : Prop := w.cell? ⟨b, o, none⟩ = some (.int .i64 t.ins) ∧ w.cell? ⟨b, o + 1, none⟩ = some (.int .i64 t.outs) ∧ ∃ (A : Option Addr) (n c : Nat), w.cell? ⟨b, o + 2, none⟩ = some (.slice A n c) ∧ RdI v A n t.costs ∧ n ≤ c ∧ c ≤ 9223372036854775807
def RdY2 (w v : World) (A : Option Addr) (n : Nat) (l : List TabD) : Prop := l.length = n ∧ ∀ i t, l[i]? = some t → ∃ b o, A = some ⟨b, o, none⟩ ∧ TabAt2 w v b (o + i * 3) t
theorem RdY2.rdY {w v : World} {A : Option Addr} {n : Nat} {l : List TabD} (h : RdY2 w v A n l) (hl : Le v w) : RdY w A n l :=
  ⟨h.1, fun i t ht => by
    obtain ⟨b, o, e, h1, h2, A', n', c', h3, h4, h5⟩ := h.2 i t ht
    exact ⟨b, o, e, h1, h2, A', n', c', h3, h4.le hl, h5⟩⟩
theorem RdY2.le {w w' v v' : World} {A : Option Addr} {n : Nat} {l : List TabD} (h : RdY2 w v A n l) (hw : ∀ b o x, blkOf A = some b → w.cell? ⟨b, o, none⟩ = some x → w'.cell? ⟨b, o, none⟩ = some x) (hl : Le v v') : RdY2 w' v' A n l :=
  ⟨h.1, fun i t ht => by
    obtain ⟨b, o, e, h1, h2, A', n', c', h3, h4, h5⟩ := h.2 i t ht
    have hb : blkOf A = some b := by rw [e]; rfl
    exact ⟨b, o, e, hw _ _ _ hb h1, hw _ _ _ hb h2, A', n', c', hw _ _ _ hb h3, h4.le hl, h5⟩⟩
/-- The block of a slice may be written. -/
def Warm (W : World) (A : Option Addr) : Prop := ∀ b, blkOf A = some b → b < W.heap.size ∧ ∀ o, W.frozen? ⟨b, o, none⟩ = false
theorem Warm.keep {W W' : World} {A : Option Addr} (h : Warm W A) (hz : W.heap.size ≤ W'.heap.size) (hk : ∀ b, blkOf A = some b → W'.heap[b]? = W.heap[b]?) : Warm W' A := fun b hb =>
  ⟨Nat.lt_of_lt_of_le (h b hb).1 hz, fun o => by rw [World.frozen?_of_block (hk b hb)]; exact (h b hb).2 o⟩
theorem Own.warm {w : World} {B s n c : Nat} {e : TypeId} {A : Option Addr} {xs : List Value} (h : Own w B e s A n c xs) : Warm w A := fun b hb => by
  refine ⟨(h.lt b hb).2, fun o => ?_⟩
  rcases h.2 with ⟨h', _⟩ | ⟨g, cap, cur, h1, h2, h3, _⟩
  · cases h'; cases hb
  · cases h1
    cases hb
    exact Blk.frozen (t := e) (cs := cur) h3 o
structure NetR (W : World) (G : Nat → Prop) (A B C : Option Addr) (n m k : Nat) (N : NetD) : Prop where
  vs : Rd3 (msk W G) A n N.vs
  ar : Rd3 W B m N.ar
  ts : RdY2 W (msk W G) C k N.ts
  wa : Warm W B
  wt : Warm W C
  ga : ∀ b, blkOf B = some b → ¬ G b
  gt : ∀ b, blkOf C = some b → ¬ G b
  ac : ∀ b, blkOf B = some b → blkOf C ≠ some b
theorem cell_keep {W W' : World} {b o : Nat} {x : Value} (hk : W'.heap[b]? = W.heap[b]?) (h : W.cell? ⟨b, o, none⟩ = some x) : W'.cell? ⟨b, o, none⟩ = some x := by
  rw [World.cell?_of_block (a := ⟨b, o, none⟩) hk]; exact h
theorem Rd3.keep {W W' : World} {A : Option Addr} {n : Nat} {l : List Tri} (h : Rd3 W A n l) (hk : ∀ b, blkOf A = some b → W'.heap[b]? = W.heap[b]?) : Rd3 W' A n l :=
  ⟨h.1, fun i x hx => by
    obtain ⟨b, o, e, h1, h2, h3⟩ := h.2 i x hx
    have hb := hk b (by rw [e]; rfl)
    exact ⟨b, o, e, cell_keep hb h1, cell_keep hb h2, cell_keep hb h3⟩⟩
section
variable {W W' : World} {G : Nat → Prop} {A B C : Option Addr} {n m k : Nat} {N : NetD}
theorem NetR.rd (h : NetR W G A B C n m k N) : RdNet W A B C n m k N := ⟨h.vs.le (msk_le W G), h.ar, h.ts.rdY (msk_le W G)⟩
theorem NetR.keep (h : NetR W G A B C n m k N) (hz : W.heap.size ≤ W'.heap.size) (hG : Kept G W W') (hB : ∀ b, blkOf B = some b → W'.heap[b]? = W.heap[b]?) (hC : ∀ b, blkOf C = some b → W'.heap[b]? = W.heap[b]?) : NetR W' G A B C n m k N where
  vs := h.vs.le hG.msk
  ar := h.ar.keep hB
  ts := h.ts.le (fun b _ _ hb hc => cell_keep (hC b hb) hc) hG.msk
  wa := h.wa.keep hz hB
  wt := h.wt.keep hz hC
  ga := h.ga
  gt := h.gt
  ac := h.ac
theorem NetR.below (h : NetR W G A B C n m k N) (hb : Below W.heap.size W W') : NetR W' G A B C n m k N :=
  h.keep hb.size (Kept.below hb) (fun b e => hb.block b (h.wa b e).1) (fun b e => hb.block b (h.wt b e).1)
theorem NetR.mono {G' : Nat → Prop} (h : NetR W G A B C n m k N) (hs : ∀ b, G b → G' b) (ha : ∀ b, blkOf B = some b → ¬ G' b) (ht : ∀ b, blkOf C = some b → ¬ G' b) : NetR W G' A B C n m k N where
  vs := h.vs.le (msk_mono hs)
  ar := h.ar
  ts := h.ts.le (fun _ _ _ _ hc => hc) (msk_mono hs)
  wa := h.wa
  wt := h.wt
  ga := ha
  gt := ht
  ac := h.ac
end
/-- A graph: its block is g; what may be written of it is its arcs, its tables. -/
structure GrR (W : World) (F G : Nat → Prop) (g : Nat) (A B C I O P : Option Addr) (n m k c d e ci co cp : Nat) (N : NetD) : Prop where
  net : NetR W G A B C n m k N
  blk : Blk W g 114 #[.slice A n c, .slice B m d, .slice C k e, .slice I n ci, .slice O n co, .slice P m cp]
  gg : G g
  ins : RdT (msk W G) I n (idxs (·.2.1) N.ar n)
  outs : RdT (msk W G) O n (idxs (·.1) N.ar n)
  plc : RdP (msk W G) P m (plcs N.ar)
  sub : ∀ b, (G b ∨ blkOf B = some b ∨ blkOf C = some b) → F b
  lt : ∀ b, F b → b < W.heap.size
  ok : NetOk N
  c0 : n ≤ c ∧ c ≤ 9223372036854775807
  c1 : m ≤ d ∧ d ≤ 9223372036854775807
  c2 : k ≤ e ∧ e ≤ 9223372036854775807
def GrO (W : World) (F : Nat → Prop) (g : Nat) (N : NetD) : Prop := ∃ (G : Nat → Prop) (A B C I O P : Option Addr) (n m k c d e ci co cp : Nat), GrR W F G g A B C I O P n m k c d e ci co cp N
/-- A graph that is read. -/
structure GrV (W : World) (g : Nat) (A B C I O P : Option Addr) (n m k c d e ci co cp : Nat) (N : NetD) : Prop where
  net : RdNet W A B C n m k N
  n0 : W.cell? ⟨g, 0, none⟩ = some (.slice A n c)
  n1 : W.cell? ⟨g, 1, none⟩ = some (.slice B m d)
  n2 : W.cell? ⟨g, 2, none⟩ = some (.slice C k e)
  n3 : W.cell? ⟨g, 3, none⟩ = some (.slice I n ci)
  n4 : W.cell? ⟨g, 4, none⟩ = some (.slice O n co)
  n5 : W.cell? ⟨g, 5, none⟩ = some (.slice P m cp)
  ins : RdT W I n (idxs (·.2.1) N.ar n)
  outs : RdT W O n (idxs (·.1) N.ar n)
  plc : RdP W P m (plcs N.ar)
  ok : NetOk N
  c0 : n ≤ c ∧ c ≤ 9223372036854775807
  c1 : m ≤ d ∧ d ≤ 9223372036854775807
  c2 : k ≤ e ∧ e ≤ 9223372036854775807
def RdGr (W : World) (g : Nat) (N : NetD) : Prop := ∃ (A B C I O P : Option Addr) (n m k c d e ci co cp : Nat), GrV W g A B C I O P n m k c d e ci co cp N
theorem RdGr.le {W W' : World} {g : Nat} {N : NetD} (h : RdGr W g N) (hl : Le W W') : RdGr W' g N := by
  obtain ⟨A, B, C, I, O, P, n, m, k, c, d, e, ci, co, cp, h⟩ := h
  exact ⟨A, B, C, I, O, P, n, m, k, c, d, e, ci, co, cp, h.net.le hl, hl _ _ h.n0, hl _ _ h.n1, hl _ _ h.n2, hl _ _ h.n3, hl _ _ h.n4, hl _ _ h.n5, h.ins.le hl, h.outs.le hl, h.plc.le hl, h.ok, h.c0, h.c1, h.c2⟩
theorem RdGr.below {W W' : World} {g : Nat} {N : NetD} (h : RdGr W g N) (hb : Below W.heap.size W W') : RdGr W' g N := h.le (Le.below hb)
theorem Blk.six {w : World} {g : Nat} {t : TypeId} {a b c d e f : Value} (h : Blk w g t #[a, b, c, d, e, f]) :
    w.cell? ⟨g, 0, none⟩ = some a ∧ w.cell? ⟨g, 1, none⟩ = some b ∧ w.cell? ⟨g, 2, none⟩ = some c ∧ w.cell? ⟨g, 3, none⟩ = some d ∧ w.cell? ⟨g, 4, none⟩ = some e ∧ w.cell? ⟨g, 5, none⟩ = some f :=
  ⟨by rw [h.cell]; rfl, by rw [h.cell]; rfl, by rw [h.cell]; rfl, by rw [h.cell]; rfl, by rw [h.cell]; rfl, by rw [h.cell]; rfl⟩
theorem GrO.rd {W : World} {F : Nat → Prop} {g : Nat} {N : NetD} (h : GrO W F g N) : RdGr W g N := by
  obtain ⟨G, A, B, C, I, O, P, n, m, k, c, d, e, ci, co, cp, h⟩ := h
  obtain ⟨h0, h1, h2, h3, h4, h5⟩ := h.blk.six
  exact ⟨A, B, C, I, O, P, n, m, k, c, d, e, ci, co, cp, h.net.rd, h0, h1, h2, h3, h4, h5, h.ins.le (msk_le W G), h.outs.le (msk_le W G), h.plc.le (msk_le W G), h.ok, h.c0, h.c1, h.c2⟩
theorem GrO.keep {W W' : World} {F : Nat → Prop} {g : Nat} {N : NetD} (h : GrO W F g N) (hz : W.heap.size ≤ W'.heap.size) (hF : Kept F W W') : GrO W' F g N := by
  obtain ⟨G, A, B, C, I, O, P, n, m, k, c, d, e, ci, co, cp, h⟩ := h
  have hG : Kept G W W' := hF.mono (fun b hb => h.sub b (.inl hb))
  refine ⟨G, A, B, C, I, O, P, n, m, k, c, d, e, ci, co, cp, ?_, (hF g (h.sub g (.inl h.gg)) h.blk.lt).trans h.blk, h.gg, h.ins.le hG.msk, h.outs.le hG.msk, h.plc.le hG.msk, h.sub, fun b hb => Nat.lt_of_lt_of_le (h.lt b hb) hz, h.ok, h.c0, h.c1, h.c2⟩
  exact h.net.keep hz hG (fun b hb => hF b (h.sub b (.inr (.inl hb))) (h.net.wa b hb).1) (fun b hb => hF b (h.sub b (.inr (.inr hb))) (h.net.wt b hb).1)
theorem GrO.below {W W' : World} {F : Nat → Prop} {g : Nat} {N : NetD} (h : GrO W F g N) (hb : Below W.heap.size W W') : GrO W' F g N := h.keep hb.size (Kept.below hb)
theorem GrO.lt {W : World} {F : Nat → Prop} {g b : Nat} {N : NetD} (h : GrO W F g N) (hb : F b) : b < W.heap.size := by
  obtain ⟨G, A, B, C, I, O, P, n, m, k, c, d, e, ci, co, cp, h⟩ := h
  exact h.lt b hb
theorem GrO.ok {W : World} {F : Nat → Prop} {g : Nat} {N : NetD} (h : GrO W F g N) : NetOk N := by
  obtain ⟨G, A, B, C, I, O, P, n, m, k, c, d, e, ci, co, cp, h⟩ := h
  exact h.ok
end Go.Proofs.YtgkeolddpielpaaGreat
