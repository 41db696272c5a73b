/- Over: how it lies in memory; starts; plain. -/
import Derived.Test.YtgkeolddpielpaaGreatGo
import Derived.Test.YtgkeolddpielpaaGreatTw
import Derived.Test.YtgkeolddpielpaaGreatG4
namespace Go.Proofs.YtgkeolddpielpaaGreat
open Go.RowKit

theorem Own.keep {w w' : World} {B s n c : Nat} {e : TypeId} {A : Option Addr} {xs : List Value} (h : Own w B e s A n c xs) (hk : ∀ b, blkOf A = some b → w'.heap[b]? = w.heap[b]?) : Own w' B e s A n c xs := by
  refine ⟨h.1, ?_⟩
  rcases h.2 with h' | ⟨g, cap, cur, h1, h2, h3, h4⟩
  · exact .inl h'
  · refine .inr ⟨g, cap, cur, h1, h2, ?_, h4⟩
    cases h1
    exact (hk g rfl).trans h3
theorem RdK.keepB {k : IntKind} {w w' : World} {A : Option Addr} {n : Nat} {l : List Int} (h : RdK k w A n l) (hk : ∀ b, blkOf A = some b → w'.heap[b]? = w.heap[b]?) : RdK k w' A n l :=
  ⟨h.1, fun i x hx => by
    obtain ⟨b, o, e, hc⟩ := h.2 i x hx
    exact ⟨b, o, e, cell_keep (hk b (by rw [e]; rfl)) hc⟩⟩
theorem RwL.keep {W W' : World} {B n c : Nat} {A : Option Addr} {xs : List Value} {ls : List (List Int)} (h : RwL W B A n c xs ls) (hz : W.heap.size ≤ W'.heap.size) (hk : ∀ b, B ≤ b → b < W.heap.size → W'.heap[b]? = W.heap[b]?) : RwL W' B A n c xs ls :=
  ⟨h.1.keep (fun b hb => hk b (h.1.lt b hb).1 (h.1.lt b hb).2), h.2.1, fun i l hl => by
    obtain ⟨A', n', c', p1, h2, h3, h4, h5⟩ := h.2.2 i l hl
    exact ⟨A', n', c', p1, h2.keepB (fun g hg => hk g (h3 g hg).1 (h3 g hg).2.1), fun g hg => ⟨(h3 g hg).1, Nat.lt_of_lt_of_le (h3 g hg).2.1 hz, (h3 g hg).2.2⟩, h4, h5⟩⟩
/-- How many entries a cell has, cells have, levels have. -/
def szG (x : GateD) : Nat := x.1.length * x.2.length
def sumS (row : List GateD) : Nat := (row.map szG).sum
def sumA (gs : List (List GateD)) : Nat := (gs.map sumS).sum
theorem sumS_app (r : List GateD) (x : GateD) : sumS (r ++ [x]) = sumS r + szG x := by simp [sumS]
theorem sumA_app (r : List (List GateD)) (x : List GateD) : sumA (r ++ [x]) = sumA r + sumS x := by simp [sumA]
theorem sumS_next {r : List GateD} {j : Nat} {x : GateD} (h : r[j]? = some x) : sumS (r.take (j + 1)) = sumS (r.take j) + szG x := by
  rw [List.take_succ_eq_append_getElem (List.getElem?_eq_some_iff.1 h).1, (List.getElem?_eq_some_iff.1 h).2, sumS_app]
theorem sumA_next {r : List (List GateD)} {j : Nat} {x : List GateD} (h : r[j]? = some x) : sumA (r.take (j + 1)) = sumA (r.take j) + sumS x := by
  rw [List.take_succ_eq_append_getElem (List.getElem?_eq_some_iff.1 h).1, (List.getElem?_eq_some_iff.1 h).2, sumA_app]
/-- Where the entries of each cell begin. -/
def stRow (s : Nat) (row : List GateD) : List Int := (List.range row.length).map (fun j : Nat => ((s + sumS (row.take j) : Nat) : Int))
theorem stRow_len (s : Nat) (row : List GateD) : (stRow s row).length = row.length := by simp [stRow]
theorem stRow_get {s j : Nat} {row : List GateD} (h : j < row.length) : (stRow s row)[j]? = some ((s + sumS (row.take j) : Nat) : Int) := by
  unfold stRow
  rw [List.getElem?_map, List.getElem?_range h]
  rfl
def stAll (gs : List (List GateD)) : List (List Int) := (List.range gs.length).map (fun i : Nat => stRow (sumA (gs.take i)) (gs.getD i []))
theorem stAll_len (gs : List (List GateD)) : (stAll gs).length = gs.length := by simp [stAll]
theorem stAll_get {gs : List (List GateD)} {i : Nat} {row : List GateD} (h : gs[i]? = some row) : (stAll gs)[i]? = some (stRow (sumA (gs.take i)) row) := by
  unfold stAll
  rw [List.getElem?_map, List.getElem?_range (List.getElem?_eq_some_iff.1 h).1, Option.map_some, List.getD_eq_getElem?_getD, h]
  rfl
theorem stRow_next {s j : Nat} {row : List GateD} (h : j < row.length) : ((stRow s row).take j ++ List.replicate (row.length - j) 0).set j ((s + sumS (row.take j) : Nat) : Int) = (stRow s row).take (j + 1) ++ List.replicate (row.length - (j + 1)) 0 := by
  have hl : ((stRow s row).take j).length = j := by rw [List.length_take, stRow_len]; omega
  have e := stRow_get (s := s) h
  rw [List.set_append_right _ _ (by rw [hl]; exact Nat.le_refl _), hl, Nat.sub_self, List.take_succ_eq_append_getElem (by rw [stRow_len]; exact h), (List.getElem?_eq_some_iff.1 e).2]
  obtain ⟨m, hm⟩ : ∃ m, row.length - j = m + 1 := ⟨row.length - j - 1, by omega⟩
  rw [hm, show row.length - (j + 1) = m by omega]
  simp [List.replicate_succ]
structure OvV (W : World) (o : Nat) (Q F T G S : Option Addr) (L m cq cf ct cg cs : Nat) (ar : List Tri) (ls : List (List Int)) : Prop where
  n0 : W.cell? ⟨o, 0, none⟩ = some (.slice Q L cq)
  n1 : W.cell? ⟨o, 1, none⟩ = some (.slice F m cf)
  n2 : W.cell? ⟨o, 2, none⟩ = some (.slice T m ct)
  n3 : W.cell? ⟨o, 3, none⟩ = some (.slice G L cg)
  n4 : W.cell? ⟨o, 4, none⟩ = some (.slice S L cs)
  n5 : W.cell? ⟨o, 5, none⟩ = some (.int .i64 ((sumA (gatesOf ar ls) : Nat) : Int))
  part : RdT W Q L ls
  fr : RdI W F m (ar.map (·.1))
  to : RdI W T m (ar.map (·.2.1))
  gates : RdG W G L (gatesOf ar ls)
  starts : RdT W S L (stAll (gatesOf ar ls))
  c0 : L ≤ cq ∧ cq ≤ 9223372036854775807
def RdOv (W : World) (o : Nat) (ar : List Tri) (ls : List (List Int)) : Prop := ∃ (Q F T G S : Option Addr) (L m cq cf ct cg cs : Nat), OvV W o Q F T G S L m cq cf ct cg cs ar ls
theorem RdOv.le {W W' : World} {o : Nat} {ar : List Tri} {ls : List (List Int)} (h : RdOv W o ar ls) (hl : Le W W') : RdOv W' o ar ls := by
  obtain ⟨Q, F, T, G, S, L, m, cq, cf, ct, cg, cs, h⟩ := h
  exact ⟨Q, F, T, G, S, L, m, cq, cf, ct, cg, cs, hl _ _ h.n0, hl _ _ h.n1, hl _ _ h.n2, hl _ _ h.n3, hl _ _ h.n4, hl _ _ h.n5, h.part.le hl, h.fr.le hl, h.to.le hl, h.gates.le hl, h.starts.le hl, h.c0⟩
theorem RdOv.below {W W' : World} {o : Nat} {ar : List Tri} {ls : List (List Int)} (h : RdOv W o ar ls) (hb : Below W.heap.size W W') : RdOv W' o ar ls := h.le (Le.below hb)
theorem gate_in_le {ar : List Tri} {l : List Int} {c : Nat} {x : GateD} (h : (gateRow ar l)[c]? = some x) : x.1.length ≤ ar.length ∧ x.2.length ≤ ar.length := by
  have hc : c < (mostN l).toNat := by rw [← gateRow_len ar l]; exact (List.getElem?_eq_some_iff.1 h).1
  rw [gateRow_get hc] at h
  cases h
  exact ⟨Nat.le_trans (List.length_filter_le _ _) (arcP_len _ _), Nat.le_trans (List.length_filter_le _ _) (arcP_len _ _)⟩
theorem sum_le {l : List Nat} {b : Nat} (h : ∀ x ∈ l, x ≤ b) : l.sum ≤ l.length * b := by
  induction l with
  | nil => simp
  | cons x t ih =>
    have h1 := h x (List.mem_cons_self ..)
    have h2 := ih (fun y hy => h y (List.mem_cons_of_mem _ hy))
    simp only [List.sum_cons, List.length_cons, Nat.add_mul, Nat.one_mul]
    omega
theorem sumS_le {ar : List Tri} {l : List Int} {j n : Nat} (ha : ar.length ≤ 16384) (hl : LvlOk n l) (hn : n ≤ 4096) : sumS ((gateRow ar l).take j) ≤ 4096 * 268435456 := by
  unfold sumS
  refine Nat.le_trans (sum_le (b := 268435456) (fun y hy => ?_)) ?_
  · obtain ⟨x, hx, rfl⟩ := List.mem_map.1 hy
    obtain ⟨c, hc⟩ := List.getElem?_of_mem (List.mem_of_mem_take hx)
    have h1 := gate_in_le hc
    unfold szG
    exact Nat.le_trans (Nat.mul_le_mul (show x.1.length ≤ 16384 by omega) (show x.2.length ≤ 16384 by omega)) (by omega)
  · refine Nat.mul_le_mul_right _ ?_
    rw [List.length_map, List.length_take, gateRow_len]
    have := mostN_le (l := l) (n := (n : Int)) (fun x hx => hl.hi x hx) (by omega)
    omega
theorem sumA_le {ar : List Tri} {ls : List (List Int)} {i n : Nat} (ha : ar.length ≤ 16384) (hP : PartOk n ls) (hn : n ≤ 4096) : sumA ((gatesOf ar ls).take i) ≤ 6 * (4096 * 268435456) := by
  unfold sumA
  refine Nat.le_trans (sum_le (b := 4096 * 268435456) (fun y hy => ?_)) ?_
  · obtain ⟨row, hrow, rfl⟩ := List.mem_map.1 hy
    have hm := List.mem_of_mem_take hrow
    unfold gatesOf at hm
    obtain ⟨l, hl, rfl⟩ := List.mem_map.1 hm
    have := sumS_le (j := (gateRow ar l).length) ha (hP.lvl l hl) hn
    rw [List.take_length] at this
    exact this
  · refine Nat.mul_le_mul_right _ ?_
    have := hP.l6
    simp [gatesOf]
    omega
end Go.Proofs.YtgkeolddpielpaaGreat
