/- Parts of the proof: Gr, Ga, Cl. -/
import Derived.Test.YtpffhoefmcpniaaGreatDoorH1
import Derived.Test.YtpffhoefmcpniaaGreatDoorH15
import Derived.Test.YtpffhoefmcpniaaGreatDoorH18
import Derived.Lib.SliceRun
/- Graphs: how one lies in memory, its arcs and tables apart from the rest; plain. -/
namespace Go.Proofs.YtpffhoefmcpniaaGreatDoor
open Go.RowKit

/-- The cells of a table in w, its costs in v. -/
def TabAt2 (w v : World) (b o : Nat) (t : TabD) : Prop := w.cell? ⟨b, o, none⟩ = some (.int .i64 t.ins) ∧ w.cell? ⟨b, o + 1, none⟩ = some (.int .i64 t.outs) ∧ ∃ (A : Option Addr) (n c : Nat), w.cell? ⟨b, o + 2, none⟩ = some (.slice A n c) ∧ RdI v A n t.costs ∧ n ≤ c ∧ c ≤ 9223372036854775807
def RdY2 (w v : World) (A : Option Addr) (n : Nat) (l : List TabD) : Prop := l.length = n ∧ ∀ i t, l[i]? = some t → ∃ b o, A = some ⟨b, o, none⟩ ∧ TabAt2 w v b (o + i * 3) t
theorem RdY2.rdY {w v : World} {A : Option Addr} {n : Nat} {l : List TabD} (h : RdY2 w v A n l) (hl : Le v w) : RdY w A n l :=
  ⟨h.1, fun i t ht => by
    obtain ⟨b, o, e, h1, h2, A', n', c', h3, h4, h5⟩ := h.2 i t ht
    exact ⟨b, o, e, h1, h2, A', n', c', h3, h4.le hl, h5⟩⟩
theorem RdY2.le {w w' v v' : World} {A : Option Addr} {n : Nat} {l : List TabD} (h : RdY2 w v A n l) (hw : ∀ b o x, blkOf A = some b → w.cell? ⟨b, o, none⟩ = some x → w'.cell? ⟨b, o, none⟩ = some x) (hl : Le v v') : RdY2 w' v' A n l :=
  ⟨h.1, fun i t ht => by
    obtain ⟨b, o, e, h1, h2, A', n', c', h3, h4, h5⟩ := h.2 i t ht
    have hb : blkOf A = some b := by rw [e]; rfl
    exact ⟨b, o, e, hw _ _ _ hb h1, hw _ _ _ hb h2, A', n', c', hw _ _ _ hb h3, h4.le hl, h5⟩⟩
/-- The block of a slice may be written. -/
def Warm (W : World) (A : Option Addr) : Prop := ∀ b, blkOf A = some b → b < W.heap.size ∧ ∀ o, W.frozen? ⟨b, o, none⟩ = false
theorem Warm.keep {W W' : World} {A : Option Addr} (h : Warm W A) (hz : W.heap.size ≤ W'.heap.size) (hk : ∀ b, blkOf A = some b → W'.heap[b]? = W.heap[b]?) : Warm W' A := fun b hb =>
  ⟨Nat.lt_of_lt_of_le (h b hb).1 hz, fun o => by rw [World.frozen?_of_block (hk b hb)]; exact (h b hb).2 o⟩
theorem Own.warm {w : World} {B s n c : Nat} {e : TypeId} {A : Option Addr} {xs : List Value} (h : Own w B e s A n c xs) : Warm w A := fun b hb => by
  refine ⟨(h.lt b hb).2, fun o => ?_⟩
  rcases h.2 with ⟨h', _⟩ | ⟨g, cap, cur, h1, h2, h3, _⟩
  · cases h'; cases hb
  · cases h1
    cases hb
    exact Blk.frozen (t := e) (cs := cur) h3 o
structure NetR (W : World) (G : Nat → Prop) (A B C : Option Addr) (n m k : Nat) (N : NetD) : Prop where
  vs : Rd3 (msk W G) A n N.vs
  ar : Rd3 W B m N.ar
  ts : RdY2 W (msk W G) C k N.ts
  wa : Warm W B
  wt : Warm W C
  ga : ∀ b, blkOf B = some b → ¬ G b
  gt : ∀ b, blkOf C = some b → ¬ G b
  ac : ∀ b, blkOf B = some b → blkOf C ≠ some b
theorem cell_keep {W W' : World} {b o : Nat} {x : Value} (hk : W'.heap[b]? = W.heap[b]?) (h : W.cell? ⟨b, o, none⟩ = some x) : W'.cell? ⟨b, o, none⟩ = some x := by
  rw [World.cell?_of_block (a := ⟨b, o, none⟩) hk]; exact h
theorem Rd3.keep {W W' : World} {A : Option Addr} {n : Nat} {l : List Tri} (h : Rd3 W A n l) (hk : ∀ b, blkOf A = some b → W'.heap[b]? = W.heap[b]?) : Rd3 W' A n l :=
  ⟨h.1, fun i x hx => by
    obtain ⟨b, o, e, h1, h2, h3⟩ := h.2 i x hx
    have hb := hk b (by rw [e]; rfl)
    exact ⟨b, o, e, cell_keep hb h1, cell_keep hb h2, cell_keep hb h3⟩⟩
section
variable {W W' : World} {G : Nat → Prop} {A B C : Option Addr} {n m k : Nat} {N : NetD}
theorem NetR.rd (h : NetR W G A B C n m k N) : RdNet W A B C n m k N := ⟨h.vs.le (msk_le W G), h.ar, h.ts.rdY (msk_le W G)⟩
theorem NetR.keep (h : NetR W G A B C n m k N) (hz : W.heap.size ≤ W'.heap.size) (hG : Kept G W W') (hB : ∀ b, blkOf B = some b → W'.heap[b]? = W.heap[b]?) (hC : ∀ b, blkOf C = some b → W'.heap[b]? = W.heap[b]?) : NetR W' G A B C n m k N where
  vs := h.vs.le hG.msk
  ar := h.ar.keep hB
  ts := h.ts.le (fun b _ _ hb hc => cell_keep (hC b hb) hc) hG.msk
  wa := h.wa.keep hz hB
  wt := h.wt.keep hz hC
  ga := h.ga
  gt := h.gt
  ac := h.ac
theorem NetR.below (h : NetR W G A B C n m k N) (hb : Below W.heap.size W W') : NetR W' G A B C n m k N :=
  h.keep hb.size (Kept.below hb) (fun b e => hb.block b (h.wa b e).1) (fun b e => hb.block b (h.wt b e).1)
theorem NetR.mono {G' : Nat → Prop} (h : NetR W G A B C n m k N) (hs : ∀ b, G b → G' b) (ha : ∀ b, blkOf B = some b → ¬ G' b) (ht : ∀ b, blkOf C = some b → ¬ G' b) : NetR W G' A B C n m k N where
  vs := h.vs.le (msk_mono hs)
  ar := h.ar
  ts := h.ts.le (fun _ _ _ _ hc => hc) (msk_mono hs)
  wa := h.wa
  wt := h.wt
  ga := ha
  gt := ht
  ac := h.ac
end
/-- A graph: its block is g; what may be written of it is its arcs, its tables. -/
structure GrR (W : World) (F G : Nat → Prop) (g : Nat) (A B C I O P : Option Addr) (n m k c d e ci co cp : Nat) (N : NetD) : Prop where
  net : NetR W G A B C n m k N
  blk : Blk W g 114 #[.slice A n c, .slice B m d, .slice C k e, .slice I n ci, .slice O n co, .slice P m cp]
  gg : G g
  ins : RdT (msk W G) I n (idxs (·.2.1) N.ar n)
  outs : RdT (msk W G) O n (idxs (·.1) N.ar n)
  plc : RdP (msk W G) P m (plcs N.ar)
  sub : ∀ b, (G b ∨ blkOf B = some b ∨ blkOf C = some b) → F b
  lt : ∀ b, F b → b < W.heap.size
  ok : NetOk N
  c0 : n ≤ c ∧ c ≤ 9223372036854775807
  c1 : m ≤ d ∧ d ≤ 9223372036854775807
  c2 : k ≤ e ∧ e ≤ 9223372036854775807
def GrO (W : World) (F : Nat → Prop) (g : Nat) (N : NetD) : Prop := ∃ (G : Nat → Prop) (A B C I O P : Option Addr) (n m k c d e ci co cp : Nat), GrR W F G g A B C I O P n m k c d e ci co cp N
/-- A graph that is read. -/
structure GrV (W : World) (g : Nat) (A B C I O P : Option Addr) (n m k c d e ci co cp : Nat) (N : NetD) : Prop where
  net : RdNet W A B C n m k N
  n0 : W.cell? ⟨g, 0, none⟩ = some (.slice A n c)
  n1 : W.cell? ⟨g, 1, none⟩ = some (.slice B m d)
  n2 : W.cell? ⟨g, 2, none⟩ = some (.slice C k e)
  n3 : W.cell? ⟨g, 3, none⟩ = some (.slice I n ci)
  n4 : W.cell? ⟨g, 4, none⟩ = some (.slice O n co)
  n5 : W.cell? ⟨g, 5, none⟩ = some (.slice P m cp)
  ins : RdT W I n (idxs (·.2.1) N.ar n)
  outs : RdT W O n (idxs (·.1) N.ar n)
  plc : RdP W P m (plcs N.ar)
  ok : NetOk N
  c0 : n ≤ c ∧ c ≤ 9223372036854775807
  c1 : m ≤ d ∧ d ≤ 9223372036854775807
  c2 : k ≤ e ∧ e ≤ 9223372036854775807
def RdGr (W : World) (g : Nat) (N : NetD) : Prop := ∃ (A B C I O P : Option Addr) (n m k c d e ci co cp : Nat), GrV W g A B C I O P n m k c d e ci co cp N
theorem RdGr.le {W W' : World} {g : Nat} {N : NetD} (h : RdGr W g N) (hl : Le W W') : RdGr W' g N := by
  obtain ⟨A, B, C, I, O, P, n, m, k, c, d, e, ci, co, cp, h⟩ := h
  exact ⟨A, B, C, I, O, P, n, m, k, c, d, e, ci, co, cp, h.net.le hl, hl _ _ h.n0, hl _ _ h.n1, hl _ _ h.n2, hl _ _ h.n3, hl _ _ h.n4, hl _ _ h.n5, h.ins.le hl, h.outs.le hl, h.plc.le hl, h.ok, h.c0, h.c1, h.c2⟩
theorem RdGr.below {W W' : World} {g : Nat} {N : NetD} (h : RdGr W g N) (hb : Below W.heap.size W W') : RdGr W' g N := h.le (Le.below hb)
theorem Blk.six {w : World} {g : Nat} {t : TypeId} {a b c d e f : Value} (h : Blk w g t #[a, b, c, d, e, f]) :
    w.cell? ⟨g, 0, none⟩ = some a ∧ w.cell? ⟨g, 1, none⟩ = some b ∧ w.cell? ⟨g, 2, none⟩ = some c ∧ w.cell? ⟨g, 3, none⟩ = some d ∧ w.cell? ⟨g, 4, none⟩ = some e ∧ w.cell? ⟨g, 5, none⟩ = some f :=
  ⟨by rw [h.cell]; rfl, by rw [h.cell]; rfl, by rw [h.cell]; rfl, by rw [h.cell]; rfl, by rw [h.cell]; rfl, by rw [h.cell]; rfl⟩
theorem GrO.rd {W : World} {F : Nat → Prop} {g : Nat} {N : NetD} (h : GrO W F g N) : RdGr W g N := by
  obtain ⟨G, A, B, C, I, O, P, n, m, k, c, d, e, ci, co, cp, h⟩ := h
  obtain ⟨h0, h1, h2, h3, h4, h5⟩ := h.blk.six
  exact ⟨A, B, C, I, O, P, n, m, k, c, d, e, ci, co, cp, h.net.rd, h0, h1, h2, h3, h4, h5, h.ins.le (msk_le W G), h.outs.le (msk_le W G), h.plc.le (msk_le W G), h.ok, h.c0, h.c1, h.c2⟩
theorem GrO.keep {W W' : World} {F : Nat → Prop} {g : Nat} {N : NetD} (h : GrO W F g N) (hz : W.heap.size ≤ W'.heap.size) (hF : Kept F W W') : GrO W' F g N := by
  obtain ⟨G, A, B, C, I, O, P, n, m, k, c, d, e, ci, co, cp, h⟩ := h
  have hG : Kept G W W' := hF.mono (fun b hb => h.sub b (.inl hb))
  refine ⟨G, A, B, C, I, O, P, n, m, k, c, d, e, ci, co, cp, ?_, (hF g (h.sub g (.inl h.gg)) h.blk.lt).trans h.blk, h.gg, h.ins.le hG.msk, h.outs.le hG.msk, h.plc.le hG.msk, h.sub, fun b hb => Nat.lt_of_lt_of_le (h.lt b hb) hz, h.ok, h.c0, h.c1, h.c2⟩
  exact h.net.keep hz hG (fun b hb => hF b (h.sub b (.inr (.inl hb))) (h.net.wa b hb).1) (fun b hb => hF b (h.sub b (.inr (.inr hb))) (h.net.wt b hb).1)
theorem GrO.below {W W' : World} {F : Nat → Prop} {g : Nat} {N : NetD} (h : GrO W F g N) (hb : Below W.heap.size W W') : GrO W' F g N := h.keep hb.size (Kept.below hb)
theorem GrO.lt {W : World} {F : Nat → Prop} {g b : Nat} {N : NetD} (h : GrO W F g N) (hb : F b) : b < W.heap.size := by
  obtain ⟨G, A, B, C, I, O, P, n, m, k, c, d, e, ci, co, cp, h⟩ := h
  exact h.lt b hb
theorem GrO.ok {W : World} {F : Nat → Prop} {g : Nat} {N : NetD} (h : GrO W F g N) : NetOk N := by
  obtain ⟨G, A, B, C, I, O, P, n, m, k, c, d, e, ci, co, cp, h⟩ := h
  exact h.ok
end Go.Proofs.YtpffhoefmcpniaaGreatDoor

/- What a graph tells: how many, an arc's ends, its weight. -/
namespace Go.Proofs.YtpffhoefmcpniaaGreatDoor
open Go.RowKit

attribute [local go_sem ↓] Go.wp_at_zero Go.wp_at_succ

theorem NetOk.arLe {N : NetD} (h : NetOk N) {m : Nat} (e : N.ar.length = m) : m ≤ 16384 := by rw [← e]; exact h.la
theorem gVerts_any (g : Nat) (N : NetD) (w : World) (h : RdGr w g N) : Calls Tryz.prog 32 #[.pointer (some ⟨g, 0, none⟩)] w fun e w' => e = .returned (.int .i64 (N.vs.length : Int)) ∧ w = w' := by
  obtain ⟨A, B, C, I, O, P, n, m, k, c, d, e, ci, co, cp, h⟩ := h
  have h0 := h.n0
  have HL := Lib.hid h.net.1.1
  clear h
  go_enter Tryz.func32, Tryz.ntmps32
  go_wp2
  go_ret
  exact ⟨ret_int (by rw [HL.out]), rfl⟩
theorem gArcs_any (g : Nat) (N : NetD) (w : World) (h : RdGr w g N) : Calls Tryz.prog 56 #[.pointer (some ⟨g, 0, none⟩)] w fun e w' => e = .returned (.int .i64 (N.ar.length : Int)) ∧ w = w' := by
  obtain ⟨A, B, C, I, O, P, n, m, k, c, d, e, ci, co, cp, h⟩ := h
  have h1 := h.n1
  have HL := Lib.hid h.net.2.1.1
  clear h
  go_enter Tryz.func56, Tryz.ntmps56
  go_wp2
  go_ret
  exact ⟨ret_int (by rw [HL.out]), rfl⟩
theorem gArc_ok (g : Nat) (N : NetD) (a : Int) (w : World) (h : RdGr w g N) (h0 : 0 ≤ a) (h1 : a < N.ar.length) : Calls Tryz.prog 46 #[.pointer (some ⟨g, 0, none⟩), .int .i64 a] w fun e w' => e = .returned (.bool true) ∧ w = w' := by
  obtain ⟨A, B, C, I, O, P, n, m, k, c, d, e, ci, co, cp, h⟩ := h
  have hn1 := h.n1
  have hl := h.net.2.1.1
  rw [hl] at h1
  clear hl h
  go_enter Tryz.func46, Tryz.ntmps46
  go_wp2
  go_ret
  exact ⟨ret_bool (by first | (simp; done) | (simp; omega)), rfl⟩
theorem gArc_no (g : Nat) (N : NetD) (a : Int) (w : World) (h : RdGr w g N) (h1 : ¬ (0 ≤ a ∧ a < N.ar.length)) : Calls Tryz.prog 46 #[.pointer (some ⟨g, 0, none⟩), .int .i64 a] w fun e w' => e = .returned (.bool false) ∧ w = w' := by
  obtain ⟨A, B, C, I, O, P, n, m, k, c, d, e, ci, co, cp, h⟩ := h
  have hn1 := h.n1
  have hl := h.net.2.1.1
  rw [hl] at h1
  clear hl h
  by_cases h0 : 0 ≤ a
  · have h2 : ¬ a < m := by omega
    clear h1
    go_enter Tryz.func46, Tryz.ntmps46
    go_wp2
    go_ret
    exact ⟨ret_bool (by first | (simp; done) | (simp; omega)), rfl⟩
  · clear h1
    go_enter Tryz.func46, Tryz.ntmps46
    go_wp2
    go_ret
    exact ⟨ret_bool (by first | (simp; done) | (simp; omega)), rfl⟩
theorem gFrom_ok (g a : Nat) (N : NetD) (x : Tri) (w : World) (h : RdGr w g N) (hx : N.ar[a]? = some x) : Calls Tryz.prog 57 #[.pointer (some ⟨g, 0, none⟩), .int .i64 a] w fun e w' => e = .returned (.int .i64 x.1) ∧ w = w' := by
  have HA := Lib.hid (show ∀ V, V = w → Calls Tryz.prog 46 #[.pointer (some ⟨g, 0, none⟩), .int .i64 a] V fun e w' => e = .returned (.bool true) ∧ V = w' from fun V e => e ▸ gArc_ok g N a w h (by omega) (by have := (List.getElem?_eq_some_iff.1 hx).1; omega))
  obtain ⟨A, B, C, I, O, P, n, m, k, c, d, e, ci, co, cp, h⟩ := h
  have hn1 := h.n1
  have ha : a < m := by have := (List.getElem?_eq_some_iff.1 hx).1; rw [h.net.2.1.1] at this; exact this
  have hm := h.ok.arLe h.net.2.1.1
  obtain ⟨b, o, x', y', z', rfl, hx', cx, cy, cz⟩ := h.net.2.1.at_ ha
  rw [hx] at hx'
  cases hx'
  have i1 : (0 : Int) ≤ (a : Int) := by omega
  have i2 : (a : Int) < (m : Int) := by omega
  clear hx h
  go_enter Tryz.func57, Tryz.ntmps57
  go_wp2_with fail
  with_reducible refine (HA.out _ rfl).mono ?_
  rintro e w' ⟨rfl, rfl⟩
  go_wp2
  go_ret
  exact ⟨rfl, rfl⟩
theorem gTo_ok (g a : Nat) (N : NetD) (x : Tri) (w : World) (h : RdGr w g N) (hx : N.ar[a]? = some x) : Calls Tryz.prog 58 #[.pointer (some ⟨g, 0, none⟩), .int .i64 a] w fun e w' => e = .returned (.int .i64 x.2.1) ∧ w = w' := by
  have HA := Lib.hid (show ∀ V, V = w → Calls Tryz.prog 46 #[.pointer (some ⟨g, 0, none⟩), .int .i64 a] V fun e w' => e = .returned (.bool true) ∧ V = w' from fun V e => e ▸ gArc_ok g N a w h (by omega) (by have := (List.getElem?_eq_some_iff.1 hx).1; omega))
  obtain ⟨A, B, C, I, O, P, n, m, k, c, d, e, ci, co, cp, h⟩ := h
  have hn1 := h.n1
  have ha : a < m := by have := (List.getElem?_eq_some_iff.1 hx).1; rw [h.net.2.1.1] at this; exact this
  have hm := h.ok.arLe h.net.2.1.1
  obtain ⟨b, o, x', y', z', rfl, hx', cx, cy, cz⟩ := h.net.2.1.at_ ha
  rw [hx] at hx'
  cases hx'
  have i1 : (0 : Int) ≤ (a : Int) := by omega
  have i2 : (a : Int) < (m : Int) := by omega
  clear hx h
  go_enter Tryz.func58, Tryz.ntmps58
  go_wp2_with fail
  with_reducible refine (HA.out _ rfl).mono ?_
  rintro e w' ⟨rfl, rfl⟩
  go_wp2
  go_ret
  exact ⟨rfl, rfl⟩
end Go.Proofs.YtpffhoefmcpniaaGreatDoor

/- slices.Clone: of ints, of int64s, of vertices, of arcs. -/
namespace Go.Proofs.YtpffhoefmcpniaaGreatDoor
open Go.RowKit

attribute [local go_sem ↓] Go.wp_at_zero Go.wp_at_succ

theorem infoClI : (Tryz.prog.info? 3).map (fun i => (i.zero, i.size, i.bytes)) = some (some (.int .i64 0), 1, 8) := by kernel_rfl
theorem infoClL : (Tryz.prog.info? 2).map (fun i => (i.zero, i.size, i.bytes)) = some (some (.int .i64 0), 1, 8) := by kernel_rfl
set_option maxHeartbeats 1000000 in
theorem cloneL_any (A : Option Addr) (n c : Nat) (xs : List Value) (w : World) (h : Rds w 1 A n xs) (h1 : ∀ u ∈ xs, u.oneCell' = true) (hn : n ≤ 1000000000) :
    Calls Tryz.prog 79 #[.slice A n c] w fun e w' => ∃ A' c', e = .returned (.slice A' n c') ∧ Own w' w.heap.size 2 1 A' n c' xs ∧ Below w.heap.size w w' := by
  have q22 : ∀ (w : World) (a : Option Addr) (n c n' c' : Nat), (binOp .eql 59 (.slice a n c) (.slice none n' c')).run Tryz.prog w = .ok (.bool a.isNone) w := fun w a n c n' c' => Lib.run_eql_slice_nil w _ _ a n c n' c' Tryz.underlying59
  cases A with
  | none =>
    have hl : xs = [] := by
      cases hl : xs with
      | nil => rfl
      | cons p t =>
        obtain ⟨b, o, e, _⟩ := h.2 0 p (by rw [hl]; rfl)
        cases e
    subst hl
    have h0 : n = 0 := by have := h.1; simp at this; omega
    subst h0
    go_enter Tryz.func79, Tryz.ntmps79
    go_wp2
    go_ret
    exact ⟨none, 0, rfl, Own.nil _ _ _ _, bELt⟩
  | some a =>
    have hb1 : ∀ o, Below w.heap.size w (w.alloc o) := fun o => (Below.refl _ _).alloc (Nat.le_refl _) o
    have hown0 : Own (w.alloc (.cells #[] 2)) w.heap.size 2 1 (some ⟨w.heap.size, 0, none⟩) 0 0 [] := Own.lit w #[] 0 (Nat.le_refl _) (by omega) rfl
    go_enter Tryz.func79, Tryz.ntmps79
    go_wp2_with (at_builtin; with_reducible refine wpList_app rfl (.tmp 5) (.tmp 6) 59 rfl 2 _ 1 8 infoClL Tryz.underlying59 rfl (by omega) (B := w.heap.size) rfl rfl hown0 (h.below (hb1 _)) h1 (by omega) (by omega) (by simp) ?_)
    intro A' c' w' hown hg _
    have hb2 : Below w.heap.size w w' := Bel.grownOwn (hb1 _) hg hown0 (by simp)
    try simp only [Nat.zero_add, List.nil_append] at hown
    have HO := Lib.hid hown
    clear hown hg
    go_wp2
    go_ret
    exact ⟨_, _, rfl, HO.out, hb2⟩
theorem infoClV : (Tryz.prog.info? 120).map (fun i => (i.zero, i.size, i.bytes)) = some (some (.agg #[.int .i64 0, .int .i64 0, .int .i64 0]), 3, 24) := by kernel_rfl
set_option maxHeartbeats 1000000 in
theorem cloneV_any (A : Option Addr) (n c : Nat) (xs : List Value) (w : World) (h : Rds w 3 A n xs) (h1 : ∀ u ∈ xs, u.oneCell' = true) (hn : n ≤ 1000000000) :
    Calls Tryz.prog 80 #[.slice A n c] w fun e w' => ∃ A' c', e = .returned (.slice A' n c') ∧ Own w' w.heap.size 120 3 A' n c' xs ∧ Below w.heap.size w w' := by
  have q22 : ∀ (w : World) (a : Option Addr) (n c n' c' : Nat), (binOp .eql 77 (.slice a n c) (.slice none n' c')).run Tryz.prog w = .ok (.bool a.isNone) w := fun w a n c n' c' => Lib.run_eql_slice_nil w _ _ a n c n' c' Tryz.underlying77
  cases A with
  | none =>
    have hl : xs = [] := by
      cases hl : xs with
      | nil => rfl
      | cons p t =>
        obtain ⟨b, o, e, _⟩ := h.2 0 p (by rw [hl]; rfl)
        cases e
    subst hl
    have h0 : n = 0 := by have := h.1; simp at this; omega
    subst h0
    go_enter Tryz.func80, Tryz.ntmps80
    go_wp2
    go_ret
    exact ⟨none, 0, rfl, Own.nil _ _ _ _, bELt⟩
  | some a =>
    have hb1 : ∀ o, Below w.heap.size w (w.alloc o) := fun o => (Below.refl _ _).alloc (Nat.le_refl _) o
    have hown0 : Own (w.alloc (.cells #[] 120)) w.heap.size 120 3 (some ⟨w.heap.size, 0, none⟩) 0 0 [] := Own.lit w #[] 0 (Nat.le_refl _) (by omega) rfl
    go_enter Tryz.func80, Tryz.ntmps80
    go_wp2_with (at_builtin; with_reducible refine wpList_app rfl (.tmp 5) (.tmp 6) 77 rfl 120 _ 3 24 infoClV Tryz.underlying77 rfl (by omega) (B := w.heap.size) rfl rfl hown0 (h.below (hb1 _)) h1 (by omega) (by omega) (by simp) ?_)
    intro A' c' w' hown hg _
    have hb2 : Below w.heap.size w w' := Bel.grownOwn (hb1 _) hg hown0 (by simp)
    try simp only [Nat.zero_add, List.nil_append] at hown
    have HO := Lib.hid hown
    clear hown hg
    go_wp2
    go_ret
    exact ⟨_, _, rfl, HO.out, hb2⟩
theorem infoClA : (Tryz.prog.info? 111).map (fun i => (i.zero, i.size, i.bytes)) = some (some (.agg #[.int .i64 0, .int .i64 0, .int .i64 0]), 3, 24) := by kernel_rfl
set_option maxHeartbeats 1000000 in
theorem cloneA_any (A : Option Addr) (n c : Nat) (xs : List Value) (w : World) (h : Rds w 3 A n xs) (h1 : ∀ u ∈ xs, u.oneCell' = true) (hn : n ≤ 1000000000) :
    Calls Tryz.prog 81 #[.slice A n c] w fun e w' => ∃ A' c', e = .returned (.slice A' n c') ∧ Own w' w.heap.size 111 3 A' n c' xs ∧ Below w.heap.size w w' := by
  have q22 : ∀ (w : World) (a : Option Addr) (n c n' c' : Nat), (binOp .eql 78 (.slice a n c) (.slice none n' c')).run Tryz.prog w = .ok (.bool a.isNone) w := fun w a n c n' c' => Lib.run_eql_slice_nil w _ _ a n c n' c' Tryz.underlying78
  cases A with
  | none =>
    have hl : xs = [] := by
      cases hl : xs with
      | nil => rfl
      | cons p t =>
        obtain ⟨b, o, e, _⟩ := h.2 0 p (by rw [hl]; rfl)
        cases e
    subst hl
    have h0 : n = 0 := by have := h.1; simp at this; omega
    subst h0
    go_enter Tryz.func81, Tryz.ntmps81
    go_wp2
    go_ret
    exact ⟨none, 0, rfl, Own.nil _ _ _ _, bELt⟩
  | some a =>
    have hb1 : ∀ o, Below w.heap.size w (w.alloc o) := fun o => (Below.refl _ _).alloc (Nat.le_refl _) o
    have hown0 : Own (w.alloc (.cells #[] 111)) w.heap.size 111 3 (some ⟨w.heap.size, 0, none⟩) 0 0 [] := Own.lit w #[] 0 (Nat.le_refl _) (by omega) rfl
    go_enter Tryz.func81, Tryz.ntmps81
    go_wp2_with (at_builtin; with_reducible refine wpList_app rfl (.tmp 5) (.tmp 6) 78 rfl 111 _ 3 24 infoClA Tryz.underlying78 rfl (by omega) (B := w.heap.size) rfl rfl hown0 (h.below (hb1 _)) h1 (by omega) (by omega) (by simp) ?_)
    intro A' c' w' hown hg _
    have hb2 : Below w.heap.size w w' := Bel.grownOwn (hb1 _) hg hown0 (by simp)
    try simp only [Nat.zero_add, List.nil_append] at hown
    have HO := Lib.hid hown
    clear hown hg
    go_wp2
    go_ret
    exact ⟨_, _, rfl, HO.out, hb2⟩
end Go.Proofs.YtpffhoefmcpniaaGreatDoor
