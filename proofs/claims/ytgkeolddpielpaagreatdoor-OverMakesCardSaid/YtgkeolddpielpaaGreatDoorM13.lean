/- Parts of the proof: G4, Ov, Og, Wp. -/
import Derived.Test.YtgkeolddpielpaaGreatDoorM12
import Derived.Test.YtgkeolddpielpaaGreatDoorShelf
/- graph.New, law8.Made. -/
namespace Go.Proofs.YtgkeolddpielpaaGreatDoor
open Go.RowKit

attribute [local go_sem ↓] Go.wp_at_zero Go.wp_at_succ

theorem GrO.mono {W : World} {F F' : Nat → Prop} {g : Nat} {N : NetD} (h : GrO W F g N) (hs : ∀ b, F b → F' b) (hl : ∀ b, F' b → b < W.heap.size) : GrO W F' g N := by
  obtain ⟨G, A, B, C, I, O, P, n, m, k, c, d, e, ci, co, cp, h⟩ := h
  exact ⟨G, A, B, C, I, O, P, n, m, k, c, d, e, ci, co, cp, h.net, h.blk, h.gg, h.ins, h.outs, h.plc, fun b hb => hs b (h.sub b hb), hl, h.ok, h.c0, h.c1, h.c2⟩
theorem NetOk.costs {N : NetD} (h : NetOk N) : ∀ t ∈ N.ts, t.costs.length ≤ 1000000 := fun t ht => by
  have hT := h.tabs t ht
  have hm := mul_bd hT.i0 hT.i16 hT.o0 hT.o16
  have := hT.len
  omega
set_option maxHeartbeats 1000000 in
theorem graphNew_ok (A B C : Option Addr) (n m k c d e : Nat) (N : NetD) (w : World) (h : RdNet w A B C n m k N) (hN : NetOk N) :
    Calls Tryz.prog 32 #[.agg #[.slice A n c, .slice B m d, .slice C k e]] w fun r w' => ∃ g, r = .returned (.tuple #[.pointer (some ⟨g, 0, none⟩), .nilIface]) ∧ GrO w' (fun b => w.heap.size ≤ b ∧ b < w'.heap.size) g N ∧ Below w.heap.size w w' := by
  have HH := Lib.hid h
  have HN := Lib.hid hN
  have hn : n ≤ 4096 := by rw [← h.1.1]; exact hN.lv
  have hm : m ≤ 16384 := by rw [← h.2.1.1]; exact hN.la
  have hk : k ≤ 256 := by rw [← h.2.2.1]; exact hN.lt
  clear h hN
  go_enter Tryz.func32, Tryz.ntmps32
  go_wp2_with fail
  (refine calls_named ?_; intro w1 hw1)
  have hb1 : Below w.heap.size w w1 := by rw [hw1]; exact (by repeat (first | exact Below.refl _ _ | assumption | apply Below.drew | apply below_drewN | apply Bel.alloc | (refine Bel.setCell_ ?_ ?_; rotate_left; omega) | (refine Bel.step ?_ (by assumption))))
  have hJ : Blk w1 w.heap.size 83 #[.slice A n c, .slice B m d, .slice C k e] := by rw [hw1]; exact (by repeat (first | assumption | (refine Blk.new' _ _ _ ?_; first | with_unfolding_all rfl | (simp; done)) | apply Blk.drewN | apply Blk.drew | apply Blk.alloc | (refine Blk.far_ ?_ ?_ _; rotate_left; omega)))
  clear hw1
  with_reducible refine (netCheck_ok A B C n m k c d e N w1 (HH.out.below hb1) HN.out).mono ?_
  rintro r w2 ⟨rfl, hb2⟩
  have hbw2 := Bel.step hb1 hb2
  obtain ⟨j0, j1, j2⟩ := (hJ.below hb2 hJ.lt).three
  clear hJ hb2
  go_wp2_with fail
  with_reducible refine (graphClone_any A B C n m k c d e N w2 (HH.out.below hbw2) (by omega) (by omega) (by omega) HN.out.costs).mono ?_
  rintro r w3 ⟨A', B', C', c', d', e', rfl, hR, hbc, q1, q2, q3, q4, q5, q6, hb3⟩
  have hbw3 := Bel.step hbw2 hb3
  have HC := Lib.hid (build_any _ A' B' C' n m k c' d' e' N w3 hR (fun b hb => hb.2.1) HN.out ⟨q1, q2⟩ ⟨q3, q4⟩ ⟨q5, q6⟩)
  have HBC := Lib.hid hbc
  have HWA := Lib.hid hR.wa
  have HWT := Lib.hid hR.wt
  clear hR hbc q1 q2 q3 q4 q5 q6 j0 j1 j2
  go_wp2_with fail
  with_reducible refine HC.out.mono ?_
  rintro r w4 ⟨g, rfl, hG, hb4⟩
  have HG := Lib.hid hG
  clear hG HC
  go_wp2_with fail
  go_ret2
  have h1 := hbw2.size
  have h3 := hb3.size
  have h4 := hb4.size
  refine ⟨g, rfl, HG.out.mono (fun b hb => ?_) (fun b hb => hb.2), Bel.step hbw3 hb4⟩
  rcases hb with hb | hb | hb | hb
  · exact ⟨by omega, by omega⟩
  · have z1 := HBC.out b (.inl hb); have z2 := (HWA.out b hb).1; exact ⟨by omega, by omega⟩
  · have z1 := HBC.out b (.inr hb); have z2 := (HWT.out b hb).1; exact ⟨by omega, by omega⟩
  · exact ⟨by omega, by omega⟩
set_option maxHeartbeats 1000000 in
theorem made8_ok (A B C : Option Addr) (n m k c d e : Nat) (N : NetD) (w : World) (h : RdNet w A B C n m k N) (hN : NetOk N) :
    Calls Tryz.prog 8 #[.agg #[.slice A n c, .slice B m d, .slice C k e]] w fun r w' => ∃ g, r = .returned (.pointer (some ⟨g, 0, none⟩)) ∧ GrO w' (fun b => w.heap.size ≤ b ∧ b < w'.heap.size) g N ∧ Below w.heap.size w w' := by
  have HH := Lib.hid h
  have HN := Lib.hid hN
  have hn : n ≤ 4096 := by rw [← h.1.1]; exact hN.lv
  have hm : m ≤ 16384 := by rw [← h.2.1.1]; exact hN.la
  have hk : k ≤ 256 := by rw [← h.2.2.1]; exact hN.lt
  clear h hN
  go_enter Tryz.func8, Tryz.ntmps8
  go_wp2_with fail
  (refine calls_named ?_; intro w1 hw1)
  have hb1 : Below w.heap.size w w1 := by rw [hw1]; exact (by repeat (first | exact Below.refl _ _ | assumption | apply Below.drew | apply below_drewN | apply Bel.alloc | (refine Bel.setCell_ ?_ ?_; rotate_left; omega) | (refine Bel.step ?_ (by assumption))))
  clear hw1
  with_reducible refine (netTo_any A B C n m k c d e N w1 (HH.out.below hb1) (by omega) (by omega) (by omega) HN.out.costs).mono ?_
  rintro r w2 ⟨A', B', C', c', d', e', rfl, hR, hb2⟩
  have hbw2 := Bel.step hb1 hb2
  have HC := Lib.hid (graphNew_ok A' B' C' n m k c' d' e' N w2 hR HN.out)
  clear hR
  go_wp2_with fail
  with_reducible refine HC.out.mono ?_
  rintro r w3 ⟨g, rfl, hG, hb3⟩
  have HG := Lib.hid hG
  clear hG HC
  go_wp2_with fail
  go_ret
  have h1 := hbw2.size
  exact ⟨g, rfl, HG.out.mono (fun b hb => ⟨by omega, hb.2⟩) (fun b hb => hb.2), Bel.step hbw2 hb3⟩
end Go.Proofs.YtgkeolddpielpaaGreatDoor

/- Over: how it lies in memory; starts; plain. -/
namespace Go.Proofs.YtgkeolddpielpaaGreatDoor
open Go.RowKit

theorem Own.keep {w w' : World} {B s n c : Nat} {e : TypeId} {A : Option Addr} {xs : List Value} (h : Own w B e s A n c xs) (hk : ∀ b, blkOf A = some b → w'.heap[b]? = w.heap[b]?) : Own w' B e s A n c xs := by
  refine ⟨h.1, ?_⟩
  rcases h.2 with h' | ⟨g, cap, cur, h1, h2, h3, h4⟩
  · exact .inl h'
  · refine .inr ⟨g, cap, cur, h1, h2, ?_, h4⟩
    cases h1
    exact (hk g rfl).trans h3
theorem RdK.keepB {k : IntKind} {w w' : World} {A : Option Addr} {n : Nat} {l : List Int} (h : RdK k w A n l) (hk : ∀ b, blkOf A = some b → w'.heap[b]? = w.heap[b]?) : RdK k w' A n l :=
  ⟨h.1, fun i x hx => by
    obtain ⟨b, o, e, hc⟩ := h.2 i x hx
    exact ⟨b, o, e, cell_keep (hk b (by rw [e]; rfl)) hc⟩⟩
theorem RwL.keep {W W' : World} {B n c : Nat} {A : Option Addr} {xs : List Value} {ls : List (List Int)} (h : RwL W B A n c xs ls) (hz : W.heap.size ≤ W'.heap.size) (hk : ∀ b, B ≤ b → b < W.heap.size → W'.heap[b]? = W.heap[b]?) : RwL W' B A n c xs ls :=
  ⟨h.1.keep (fun b hb => hk b (h.1.lt b hb).1 (h.1.lt b hb).2), h.2.1, fun i l hl => by
    obtain ⟨A', n', c', p1, h2, h3, h4, h5⟩ := h.2.2 i l hl
    exact ⟨A', n', c', p1, h2.keepB (fun g hg => hk g (h3 g hg).1 (h3 g hg).2.1), fun g hg => ⟨(h3 g hg).1, Nat.lt_of_lt_of_le (h3 g hg).2.1 hz, (h3 g hg).2.2⟩, h4, h5⟩⟩
/-- How many entries a cell has, cells have, levels have. -/
def szG (x : GateD) : Nat := x.1.length * x.2.length
def sumS (row : List GateD) : Nat := (row.map szG).sum
def sumA (gs : List (List GateD)) : Nat := (gs.map sumS).sum
theorem sumS_app (r : List GateD) (x : GateD) : sumS (r ++ [x]) = sumS r + szG x := by simp [sumS]
theorem sumA_app (r : List (List GateD)) (x : List GateD) : sumA (r ++ [x]) = sumA r + sumS x := by simp [sumA]
theorem sumS_next {r : List GateD} {j : Nat} {x : GateD} (h : r[j]? = some x) : sumS (r.take (j + 1)) = sumS (r.take j) + szG x := by
  rw [List.take_succ_eq_append_getElem (List.getElem?_eq_some_iff.1 h).1, (List.getElem?_eq_some_iff.1 h).2, sumS_app]
theorem sumA_next {r : List (List GateD)} {j : Nat} {x : List GateD} (h : r[j]? = some x) : sumA (r.take (j + 1)) = sumA (r.take j) + sumS x := by
  rw [List.take_succ_eq_append_getElem (List.getElem?_eq_some_iff.1 h).1, (List.getElem?_eq_some_iff.1 h).2, sumA_app]
/-- Where the entries of each cell begin. -/
def stRow (s : Nat) (row : List GateD) : List Int := (List.range row.length).map (fun j : Nat => ((s + sumS (row.take j) : Nat) : Int))
theorem stRow_len (s : Nat) (row : List GateD) : (stRow s row).length = row.length := by simp [stRow]
theorem stRow_get {s j : Nat} {row : List GateD} (h : j < row.length) : (stRow s row)[j]? = some ((s + sumS (row.take j) : Nat) : Int) := by
  unfold stRow
  rw [List.getElem?_map, List.getElem?_range h]
  rfl
def stAll (gs : List (List GateD)) : List (List Int) := (List.range gs.length).map (fun i : Nat => stRow (sumA (gs.take i)) (gs.getD i []))
theorem stAll_len (gs : List (List GateD)) : (stAll gs).length = gs.length := by simp [stAll]
theorem stAll_get {gs : List (List GateD)} {i : Nat} {row : List GateD} (h : gs[i]? = some row) : (stAll gs)[i]? = some (stRow (sumA (gs.take i)) row) := by
  unfold stAll
  rw [List.getElem?_map, List.getElem?_range (List.getElem?_eq_some_iff.1 h).1, Option.map_some, List.getD_eq_getElem?_getD, h]
  rfl
theorem stRow_next {s j : Nat} {row : List GateD} (h : j < row.length) : ((stRow s row).take j ++ List.replicate (row.length - j) 0).set j ((s + sumS (row.take j) : Nat) : Int) = (stRow s row).take (j + 1) ++ List.replicate (row.length - (j + 1)) 0 := by
  have hl : ((stRow s row).take j).length = j := by rw [List.length_take, stRow_len]; omega
  have e := stRow_get (s := s) h
  rw [List.set_append_right _ _ (by rw [hl]; exact Nat.le_refl _), hl, Nat.sub_self, List.take_succ_eq_append_getElem (by rw [stRow_len]; exact h), (List.getElem?_eq_some_iff.1 e).2]
  obtain ⟨m, hm⟩ : ∃ m, row.length - j = m + 1 := ⟨row.length - j - 1, by omega⟩
  rw [hm, show row.length - (j + 1) = m by omega]
  simp [List.replicate_succ]
structure OvV (W : World) (o : Nat) (Q F T G S : Option Addr) (L m cq cf ct cg cs : Nat) (ar : List Tri) (ls : List (List Int)) : Prop where
  n0 : W.cell? ⟨o, 0, none⟩ = some (.slice Q L cq)
  n1 : W.cell? ⟨o, 1, none⟩ = some (.slice F m cf)
  n2 : W.cell? ⟨o, 2, none⟩ = some (.slice T m ct)
  n3 : W.cell? ⟨o, 3, none⟩ = some (.slice G L cg)
  n4 : W.cell? ⟨o, 4, none⟩ = some (.slice S L cs)
  n5 : W.cell? ⟨o, 5, none⟩ = some (.int .i64 ((sumA (gatesOf ar ls) : Nat) : Int))
  part : RdT W Q L ls
  fr : RdI W F m (ar.map (·.1))
  to : RdI W T m (ar.map (·.2.1))
  gates : RdG W G L (gatesOf ar ls)
  starts : RdT W S L (stAll (gatesOf ar ls))
  c0 : L ≤ cq ∧ cq ≤ 9223372036854775807
def RdOv (W : World) (o : Nat) (ar : List Tri) (ls : List (List Int)) : Prop := ∃ (Q F T G S : Option Addr) (L m cq cf ct cg cs : Nat), OvV W o Q F T G S L m cq cf ct cg cs ar ls
theorem RdOv.le {W W' : World} {o : Nat} {ar : List Tri} {ls : List (List Int)} (h : RdOv W o ar ls) (hl : Le W W') : RdOv W' o ar ls := by
  obtain ⟨Q, F, T, G, S, L, m, cq, cf, ct, cg, cs, h⟩ := h
  exact ⟨Q, F, T, G, S, L, m, cq, cf, ct, cg, cs, hl _ _ h.n0, hl _ _ h.n1, hl _ _ h.n2, hl _ _ h.n3, hl _ _ h.n4, hl _ _ h.n5, h.part.le hl, h.fr.le hl, h.to.le hl, h.gates.le hl, h.starts.le hl, h.c0⟩
theorem RdOv.below {W W' : World} {o : Nat} {ar : List Tri} {ls : List (List Int)} (h : RdOv W o ar ls) (hb : Below W.heap.size W W') : RdOv W' o ar ls := h.le (Le.below hb)
theorem gate_in_le {ar : List Tri} {l : List Int} {c : Nat} {x : GateD} (h : (gateRow ar l)[c]? = some x) : x.1.length ≤ ar.length ∧ x.2.length ≤ ar.length := by
  have hc : c < (mostN l).toNat := by rw [← gateRow_len ar l]; exact (List.getElem?_eq_some_iff.1 h).1
  rw [gateRow_get hc] at h
  cases h
  exact ⟨Nat.le_trans (List.length_filter_le _ _) (arcP_len _ _), Nat.le_trans (List.length_filter_le _ _) (arcP_len _ _)⟩
theorem sum_le {l : List Nat} {b : Nat} (h : ∀ x ∈ l, x ≤ b) : l.sum ≤ l.length * b := by
  induction l with
  | nil => simp
  | cons x t ih =>
    have h1 := h x (List.mem_cons_self ..)
    have h2 := ih (fun y hy => h y (List.mem_cons_of_mem _ hy))
    simp only [List.sum_cons, List.length_cons, Nat.add_mul, Nat.one_mul]
    omega
theorem sumS_le {ar : List Tri} {l : List Int} {j n : Nat} (ha : ar.length ≤ 16384) (hl : LvlOk n l) (hn : n ≤ 4096) : sumS ((gateRow ar l).take j) ≤ 4096 * 268435456 := by
  unfold sumS
  refine Nat.le_trans (sum_le (b := 268435456) (fun y hy => ?_)) ?_
  · obtain ⟨x, hx, rfl⟩ := List.mem_map.1 hy
    obtain ⟨c, hc⟩ := List.getElem?_of_mem (List.mem_of_mem_take hx)
    have h1 := gate_in_le hc
    unfold szG
    exact Nat.le_trans (Nat.mul_le_mul (show x.1.length ≤ 16384 by omega) (show x.2.length ≤ 16384 by omega)) (by omega)
  · refine Nat.mul_le_mul_right _ ?_
    rw [List.length_map, List.length_take, gateRow_len]
    have := mostN_le (l := l) (n := (n : Int)) (fun x hx => hl.hi x hx) (by omega)
    omega
theorem sumA_le {ar : List Tri} {ls : List (List Int)} {i n : Nat} (ha : ar.length ≤ 16384) (hP : PartOk n ls) (hn : n ≤ 4096) : sumA ((gatesOf ar ls).take i) ≤ 6 * (4096 * 268435456) := by
  unfold sumA
  refine Nat.le_trans (sum_le (b := 4096 * 268435456) (fun y hy => ?_)) ?_
  · obtain ⟨row, hrow, rfl⟩ := List.mem_map.1 hy
    have hm := List.mem_of_mem_take hrow
    unfold gatesOf at hm
    obtain ⟨l, hl, rfl⟩ := List.mem_map.1 hm
    have := sumS_le (j := (gateRow ar l).length) ha (hP.lvl l hl) hn
    rw [List.take_length] at this
    exact this
  · refine Nat.mul_le_mul_right _ ?_
    have := hP.l6
    simp [gatesOf]
    omega
end Go.Proofs.YtgkeolddpielpaaGreatDoor

/- What Over tells: levels, cells, gates. -/
namespace Go.Proofs.YtgkeolddpielpaaGreatDoor
open Go.RowKit

attribute [local go_sem ↓] Go.wp_at_zero Go.wp_at_succ

theorem oLevels_any (o : Nat) (ar : List Tri) (ls : List (List Int)) (w : World) (h : RdOv w o ar ls) : Calls Tryz.prog 16 #[.pointer (some ⟨o, 0, none⟩)] w fun e w' => e = .returned (.int .i64 (ls.length : Int)) ∧ w = w' := by
  obtain ⟨Q, F, T, G, S, L, m, cq, cf, ct, cg, cs, h⟩ := h
  have h0 := h.n0
  have HL := Lib.hid h.part.1
  clear h
  go_enter Tryz.func16, Tryz.ntmps16
  go_wp2
  go_ret
  exact ⟨ret_int (by rw [HL.out]), rfl⟩
theorem oSize_any (o : Nat) (ar : List Tri) (ls : List (List Int)) (w : World) (h : RdOv w o ar ls) : Calls Tryz.prog 23 #[.pointer (some ⟨o, 0, none⟩)] w fun e w' => e = .returned (.int .i64 ((sumA (gatesOf ar ls) : Nat) : Int)) ∧ w = w' := by
  obtain ⟨Q, F, T, G, S, L, m, cq, cf, ct, cg, cs, h⟩ := h
  have h0 := h.n5
  clear h
  generalize sumA (gatesOf ar ls) = z at *
  go_enter Tryz.func23, Tryz.ntmps23
  go_wp2
  go_ret
  exact ⟨rfl, rfl⟩
theorem gates_get {ar : List Tri} {ls : List (List Int)} {i : Nat} {l : List Int} (h : ls[i]? = some l) : (gatesOf ar ls)[i]? = some (gateRow ar l) := by
  unfold gatesOf
  rw [List.getElem?_map, h]
  rfl
theorem oCells_ok (o i M : Nat) (ar : List Tri) (ls : List (List Int)) (l : List Int) (w : World) (h : RdOv w o ar ls) (hl : ls[i]? = some l) (hL : ls.length ≤ 1000000) (hM : (mostN l).toNat = M) : Calls Tryz.prog 19 #[.pointer (some ⟨o, 0, none⟩), .int .i64 ((i : Int) + 1)] w fun e w' => e = .returned (.int .i64 (M : Int)) ∧ w = w' := by
  obtain ⟨Q, F, T, G, S, L, m, cq, cf, ct, cg, cs, h⟩ := h
  have h0 := h.n3
  have hi : i < L := by rw [← h.part.1]; exact (List.getElem?_eq_some_iff.1 hl).1
  have hLL : L ≤ 1000000 := by rw [← h.part.1]; exact hL
  obtain ⟨row, gb, go_, A, n, c, hrow, rfl, hc, hr, _⟩ := h.gates.at_ hi
  rw [gates_get hl] at hrow
  cases hrow
  have HN := Lib.hid (show n = M by rw [← hr.1, gateRow_len, hM])
  clear hM
  have i1 : (0 : Int) ≤ (i : Int) := by omega
  have i2 : (i : Int) < (L : Int) := by omega
  have i3 : ¬ ((i : Int) + 1 < 1) := by omega
  have i4 : ¬ ((i : Int) + 1 > (L : Int)) := by omega
  have i5 : (i : Int) + 1 - 1 = (i : Int) := by omega
  clear h hl hr hL
  go_enter Tryz.func19, Tryz.ntmps19
  go_wp2
  go_ret
  exact ⟨ret_int (by rw [HN.out]), rfl⟩
theorem oHas_ok (o i k M : Nat) (ar : List Tri) (ls : List (List Int)) (l : List Int) (w : World) (h : RdOv w o ar ls) (hl : ls[i]? = some l) (hL : ls.length ≤ 1000000) (hM : (mostN l).toNat = M) (hk : k < M) : Calls Tryz.prog 50 #[.pointer (some ⟨o, 0, none⟩), .int .i64 ((i : Int) + 1), .int .i64 k] w fun e w' => e = .returned (.bool true) ∧ w = w' := by
  have HC := Lib.hid (oCells_ok o i M ar ls l w h hl hL hM)
  clear h hl hL hM
  have i1 : (0 : Int) ≤ (k : Int) := by omega
  have i2 : (k : Int) < (M : Int) := by omega
  go_enter Tryz.func50, Tryz.ntmps50
  go_wp2_with fail
  with_reducible refine HC.out.mono ?_
  rintro e w' ⟨rfl, rfl⟩
  go_wp2_with fail
  go_ret
  exact ⟨ret_bool (by first | (simp; done) | (simp; omega)), rfl⟩
set_option maxHeartbeats 1000000 in
theorem oGate_ok (o i k : Nat) (ar : List Tri) (ls : List (List Int)) (l : List Int) (x : GateD) (w : World) (h : RdOv w o ar ls) (hl : ls[i]? = some l) (hL : ls.length ≤ 1000000) (hx : (gateRow ar l)[k]? = some x) (ha : ar.length ≤ 1000000) :
    Calls Tryz.prog 20 #[.pointer (some ⟨o, 0, none⟩), .int .i64 ((i : Int) + 1), .int .i64 k] w fun e w' => ∃ A1 n1 c1 A2 n2 c2, e = .returned (.agg #[.slice A1 n1 c1, .slice A2 n2 c2]) ∧ RdI w' A1 n1 x.1 ∧ RdI w' A2 n2 x.2 ∧ Below w.heap.size w w' := by
  have hk : k < (mostN l).toNat := by rw [← gateRow_len ar l]; exact (List.getElem?_eq_some_iff.1 hx).1
  have HH := Lib.hid (show ∀ V, Below w.heap.size w V → Calls Tryz.prog 50 #[.pointer (some ⟨o, 0, none⟩), .int .i64 ((i : Int) + 1), .int .i64 k] V fun e w' => e = .returned (.bool true) ∧ V = w' from fun V hV => oHas_ok o i k _ ar ls l V (h.below hV) hl hL rfl hk)
  obtain ⟨Q, F, T, G, S, L, m, cq, cf, ct, cg, cs, h⟩ := h
  have h0 := h.n3
  have hi : i < L := by rw [← h.part.1]; exact (List.getElem?_eq_some_iff.1 hl).1
  have hLL : L ≤ 1000000 := by rw [← h.part.1]; exact hL
  obtain ⟨row, gb, go_, A, n, c, hrow, rfl, hc, hr, _⟩ := h.gates.at_ hi
  rw [gates_get hl] at hrow
  cases hrow
  have hn : n = (mostN l).toNat := by rw [← hr.1, gateRow_len]
  obtain ⟨y, cb, co, A1, n1, c1, A2, n2, c2, hy, rfl, hc1, hr1, hc2, hr2, _⟩ := hr.at_ (c := k) (by omega)
  rw [hx] at hy
  cases hy
  have hg := gate_in_le hx
  have HR1 := Lib.hid hr1
  have HR2 := Lib.hid hr2
  have hn1 : n1 ≤ 1000000 := by rw [← hr1.1]; omega
  have hn2 : n2 ≤ 1000000 := by rw [← hr2.1]; omega
  have h0a := fun ob => Below.cellOf (show Below w.heap.size w (w.alloc ob) from (by repeat (first | exact Below.refl _ _ | assumption | apply Below.drew | apply below_drewN | apply Bel.alloc | (refine Bel.setCell_ ?_ ?_; rotate_left; omega) | (refine Bel.step ?_ (by assumption))))) (Nat.le_refl _) h0
  have hca := fun ob => Below.cellOf (show Below w.heap.size w (w.alloc ob) from (by repeat (first | exact Below.refl _ _ | assumption | apply Below.drew | apply below_drewN | apply Bel.alloc | (refine Bel.setCell_ ?_ ?_; rotate_left; omega) | (refine Bel.step ?_ (by assumption))))) (Nat.le_refl _) hc
  have hc1a := fun ob => Below.cellOf (show Below w.heap.size w (w.alloc ob) from (by repeat (first | exact Below.refl _ _ | assumption | apply Below.drew | apply below_drewN | apply Bel.alloc | (refine Bel.setCell_ ?_ ?_; rotate_left; omega) | (refine Bel.step ?_ (by assumption))))) (Nat.le_refl _) hc1
  have hc2a := fun ob => Below.cellOf (show Below w.heap.size w (w.alloc ob) from (by repeat (first | exact Below.refl _ _ | assumption | apply Below.drew | apply below_drewN | apply Bel.alloc | (refine Bel.setCell_ ?_ ?_; rotate_left; omega) | (refine Bel.step ?_ (by assumption))))) (Nat.le_refl _) hc2
  have i1 : (0 : Int) ≤ (i : Int) := by omega
  have i2 : (i : Int) < (L : Int) := by omega
  have i5 : (i : Int) + 1 - 1 = (i : Int) := by omega
  have i6 : (0 : Int) ≤ (k : Int) := by omega
  have i7 : (k : Int) < (n : Int) := by omega
  clear h hl hr hL hx hr1 hr2 hn hk
  go_enter Tryz.func20, Tryz.ntmps20
  go_wp2_with fail
  with_reducible refine (HH.out _ (by repeat (first | exact Below.refl _ _ | assumption | apply Below.drew | apply below_drewN | apply Bel.alloc | (refine Bel.setCell_ ?_ ?_; rotate_left; omega) | (refine Bel.step ?_ (by assumption))))).mono ?_
  rintro e w' ⟨rfl, rfl⟩
  go_wp2_with fail
  (refine wp_named ?_; intro w3 hw3)
  have hb3 : Below w.heap.size w w3 := by rw [hw3]; exact (by repeat (first | exact Below.refl _ _ | assumption | apply Below.drew | apply below_drewN | apply Bel.alloc | (refine Bel.setCell_ ?_ ?_; rotate_left; omega) | (refine Bel.step ?_ (by assumption))))
  have hZ : Blk w3 w.heap.size 60 #[.slice none 0 0, .slice none 0 0] := by rw [hw3]; exact (by repeat (first | assumption | (refine Blk.new' _ _ _ ?_; first | with_unfolding_all rfl | (simp; done)) | apply Blk.drewN | apply Blk.drew | apply Blk.alloc | (refine Blk.far_ ?_ ?_ _; rotate_left; omega)))
  have hX : Blk w3 (w.heap.size + 1) 60 #[.slice A1 n1 c1, .slice A2 n2 c2] := by rw [hw3]; exact (by repeat (first | assumption | (refine Blk.new' _ _ _ ?_; first | with_unfolding_all rfl | (simp; done)) | apply Blk.drewN | apply Blk.drew | apply Blk.alloc | (refine Blk.far_ ?_ ?_ _; rotate_left; omega)))
  clear hw3 h0a hca hc1a hc2a
  have HSX := Lib.hid (show ∀ V, Blk V (w.heap.size + 1) 60 #[.slice A1 n1 c1, .slice A2 n2 c2] → V.cell? ⟨w.heap.size + 1, 0, none⟩ = some (.slice A1 n1 c1) ∧ V.cell? ⟨w.heap.size + 1, 1, none⟩ = some (.slice A2 n2 c2) from fun V hV => ⟨hV.two.1, hV.two.2.1⟩)
  refine wp_region_held_drew (S := fun V => Blk V (w.heap.size + 1) 60 #[.slice A1 n1 c1, .slice A2 n2 c2]) (by kernel_rfl) hX.drew (fun _ => ?_)
  refine take_ (i := 0) (d := some 25) (v := ?_) rfl rfl (by kernel_rfl) (by kernel_rfl) (by kernel_rfl) (fun _ _ _ h => h) (by rfl) ?_ (by first | rfl | trivial | assumption) ?_
  rotate_left
  · (intro V hSw; (try (have hF := HSX.out V hSw)); (try (cases hSw)); (try go_split_ands); go_simp; try with_reducible rfl)
  simp only [Act.put, List.setIfInBounds_toArray, List.set_cons_zero, List.set_cons_succ]
  refine take_ (i := 1) (d := some 26) (v := ?_) rfl rfl (by kernel_rfl) (by kernel_rfl) (by kernel_rfl) (fun _ _ _ h => h) (by rfl) ?_ (by first | rfl | trivial | assumption) ?_
  rotate_left
  · (intro V hSw; (try (have hF := HSX.out V hSw)); (try (cases hSw)); (try go_split_ands); go_simp; try with_reducible rfl)
  simp only [Act.put, List.setIfInBounds_toArray, List.set_cons_zero, List.set_cons_succ]
  refine take_ (i := 3) (d := some 28) (v := ?_) rfl rfl (by kernel_rfl) (by kernel_rfl) (by kernel_rfl) (fun _ _ _ h => h) (by rfl) ?_ (by first | rfl | trivial | assumption) ?_
  rotate_left
  · (intro V hSw; (try (have hF := HSX.out V hSw)); (try (cases hSw)); (try go_split_ands); go_simp; try with_reducible rfl)
  simp only [Act.put, List.setIfInBounds_toArray, List.set_cons_zero, List.set_cons_succ]
  refine take_ (i := 4) (d := some 29) (v := ?_) rfl rfl (by kernel_rfl) (by kernel_rfl) (by kernel_rfl) (fun _ _ _ h => h) (by rfl) ?_ (by first | rfl | trivial | assumption) ?_
  rotate_left
  · (intro V hSw; (try (have hF := HSX.out V hSw)); (try (cases hSw)); (try go_split_ands); go_simp; try with_reducible rfl)
  simp only [Act.put, List.setIfInBounds_toArray, List.set_cons_zero, List.set_cons_succ]
  refine wpAnyH_ready (rs := [2]) (by kernel_rfl) (by simp) ?_
  refine AllReadyH.cons (o := _) rfl (fun K hK => ?_) AllReadyH.nil
  go_simp
  with_reducible refine (fresh_any A1 n1 c1 x.1 _ (HR1.out.below (show Below w.heap.size w w3.drew from (by repeat (first | exact Below.refl _ _ | assumption | apply Below.drew | apply below_drewN | apply Bel.alloc | (refine Bel.setCell_ ?_ ?_; rotate_left; omega) | (refine Bel.step ?_ (by assumption)))))) hn1).mono ?_
  rintro e w4 ⟨B1, d1, rfl, ho1, hb4⟩
  have hb34 : Below w3.heap.size w3 w4 := (Below.refl _ w3).drew.trans hb4
  have hX4 := hX.below hb34 hX.lt
  have hZ4 := hZ.below hb34 hZ.lt
  have hb4' := Bel.step hb3 hb34
  clear hb4
  go_wp2_with fail
  refine hK.out _ _ hX4 (fun _ => ?_)
  clear hK K
  refine wpAnyH_ready (rs := [5]) (by kernel_rfl) (by simp) ?_
  refine AllReadyH.cons (o := _) rfl (fun K hK => ?_) AllReadyH.nil
  go_simp
  with_reducible refine (fresh_any A2 n2 c2 x.2 w4 (HR2.out.below hb4') hn2).mono ?_
  rintro e w5 ⟨B2, d2, rfl, ho2, hb5⟩
  have hX5 := hX4.below hb5 hX4.lt
  have hZ5 := hZ4.below hb5 hZ4.lt
  have hb5' := Bel.step hb4' hb5
  have ho1' := ho1.below hb5
  have hz3 := hb34.size
  have hzX := hX.lt
  replace ho1' : Own w5 w3.heap.size 3 1 B1 n1 d1 (icells x.1) := ho1'
  clear ho1 hb5
  go_wp2_with fail
  refine hK.out _ _ hX5 (fun _ => ?_)
  clear hK K
  refine take_ (i := 6) (d := some 31) (v := ?_) rfl rfl (by kernel_rfl) (by kernel_rfl) (by kernel_rfl) (fun _ _ _ h => h) (by rfl) ?_ (by first | rfl | trivial | assumption) ?_
  rotate_left
  · (intro V hSw; (try (have hF := HSX.out V hSw)); (try (cases hSw)); (try go_split_ands); go_simp; try with_reducible rfl)
  simp only [Act.put, List.setIfInBounds_toArray, List.set_cons_zero, List.set_cons_succ]
  obtain ⟨z0, z1, zf0, zf1⟩ := hZ5.two
  refine wpAnyH_ready (rs := [7]) (by kernel_rfl) (by simp) ?_
  refine AllReadyH.cons (o := _) rfl (fun K hK => ?_) AllReadyH.nil
  go_simp
  refine hK.out _ _ ((hX5.far_ (by omega) _).far_ (by omega) _) (fun _ => ?_)
  clear hK K
  refine wpAnyH_done (by kernel_rfl) ?_ _
  have HF1 := Lib.hid (((ho1'.far (grownBy_set w5 w.heap.size 0 (.slice B1 n1 d1)) (.inr (ho1'.ne (by omega)))).far (grownBy_set _ w.heap.size 1 (.slice B2 n2 d2)) (.inr (ho1'.ne (by omega)))).rds.rdI)
  have HF2 := Lib.hid (((ho2.far (grownBy_set w5 w.heap.size 0 (.slice B1 n1 d1)) (.inr (ho2.ne (by omega)))).far (grownBy_set _ w.heap.size 1 (.slice B2 n2 d2)) (.inr (ho2.ne (by omega)))).rds.rdI)
  clear ho1' ho2
  go_wp2_with fail
  refine bodyPost_ret (v := .agg #[.slice B1 n1 d1, .slice B2 n2 d2]) (by simp [results, Tryz.results20, go_sem, z0, z1]) rfl ?_
  exact ⟨B1, n1, d1, B2, n2, d2, rfl, HF1.out, HF2.out, (by repeat (first | exact Below.refl _ _ | assumption | apply Below.drew | apply below_drewN | apply Bel.alloc | (refine Bel.setCell_ ?_ ?_; rotate_left; omega) | (refine Bel.step ?_ (by assumption))))⟩
/-- gate.Place of a row that rises. -/
theorem count_lt {l : List Int} (h : l.Pairwise (· < ·)) {k : Nat} {v : Int} (hk : l[k]? = some v) : l.countP (· < v) = k := by
  induction l generalizing k with
  | nil => simp at hk
  | cons x t ih =>
    rw [List.pairwise_cons] at h
    cases k with
    | zero =>
      simp at hk
      subst hk
      rw [List.countP_eq_zero]
      intro y hy
      rcases List.mem_cons.1 hy with rfl | hy
      · simp
      · have := h.1 y hy
        simp
        omega
    | succ k =>
      simp at hk
      have hx := h.1 v (List.mem_of_getElem? hk)
      rw [List.countP_cons, ih h.2 hk]
      simp [hx]
theorem plI_sorted {l : List Int} (h : l.Pairwise (· < ·)) {k : Nat} {v : Int} (hk : l[k]? = some v) : plI l v = k := by
  refine plI_hit hk (fun j x hj hx e => ?_)
  subst e
  rw [List.pairwise_iff_getElem] at h
  have h1 := (List.getElem?_eq_some_iff.1 hx)
  have h2 := (List.getElem?_eq_some_iff.1 hk)
  have := h j k h1.1 h2.1 hj
  rw [h1.2, h2.2] at this
  omega
set_option maxHeartbeats 400000 in
theorem gPlace_ok (A : Option Addr) (n c : Nat) (l : List Int) (v : Int) (w : World) (h : RdI w A n l) (hs : l.Pairwise (· < ·)) (hn : n ≤ 1000000) :
    Calls Tryz.prog 56 #[.slice A n c, .int .i64 v] w fun e w' => e = .returned (.int .i64 (plI l v)) ∧ Below w.heap.size w w' := by
  have hb : ∃ (p : Nat) (t : Bool), Calls Tryz.prog 87 #[.slice A n c, .int .i64 v] w (fun e w' => e = .returned (.tuple #[.int .i64 (p : Int), .bool t]) ∧ Below w.heap.size w w') ∧ plI l v = if t then (p : Int) else -1 := by
    cases n with
    | zero =>
      have hl : l = [] := List.eq_nil_of_length_eq_zero h.1
      subst hl
      refine ⟨0, false, ?_, by simp [plI_miss]⟩
      refine Calls.mono (show Calls Tryz.prog 87 _ _ _ from Any.slices_BinarySearch_int_empty Tryz.searchL A c v w) ?_
      rintro e w' ⟨rfl, rfl⟩
      exact ⟨rfl, Below.refl _ _⟩
    | succ n =>
      obtain ⟨b, o, x, rfl, hx, hc⟩ := h.at_ (i := 0) (by omega)
      have hcon := Any.slices_BinarySearch_int Tryz.searchL b o (n + 1) c l v w (by rw [h.1]; exact Nat.le_refl _) (by omega) (fun j hj => by
        obtain ⟨b', o', y, e, hy, hc'⟩ := h.at_ (i := j) (by rw [← h.1]; exact hj)
        cases e
        rw [List.getD_eq_getElem?_getD, hy]
        exact hc') (by rw [List.take_of_length_le (by rw [h.1]; exact Nat.le_refl _)]; exact hs.imp (fun h => by omega))
      rw [List.take_of_length_le (by rw [h.1]; exact Nat.le_refl _)] at hcon
      refine ⟨l.countP (· < v), l.contains v, ?_, ?_⟩
      · refine Calls.mono (show Calls Tryz.prog 87 _ _ _ from hcon) ?_
        rintro e w' ⟨rfl, q, rfl⟩
        exact ⟨rfl, below_drewN (Below.refl _ _) q⟩
      · by_cases hm : v ∈ l
        · obtain ⟨k, hk⟩ := List.getElem?_of_mem hm
          rw [plI_sorted hs hk, count_lt hs hk, if_pos (by simpa using hm)]
        · rw [plI_miss hm, if_neg (by simpa using hm)]
  obtain ⟨p, t, hcall, hp⟩ := hb
  have HC := Lib.hid hcall
  have HP := Lib.hid hp
  clear hcall hp h hs
  go_enter Tryz.func56, Tryz.ntmps56
  go_wp2_with fail
  with_reducible refine HC.out.mono ?_
  rintro e w' ⟨rfl, hb⟩
  cases t
  · go_wp2_with fail
    go_ret
    exact ⟨ret_int (by rw [HP.out]; rfl), hb⟩
  · go_wp2_with fail
    go_ret
    exact ⟨ret_int (by rw [HP.out]; rfl), hb⟩
end Go.Proofs.YtgkeolddpielpaaGreatDoor

/- Sums of first parts; where an entry lies: the plain part. -/
namespace Go.Proofs.YtgkeolddpielpaaGreatDoor

theorem sum_take_le (l : List Nat) : ∀ {a b : Nat}, a ≤ b → (l.take a).sum ≤ (l.take b).sum := by
  induction l with
  | nil => intro a b _; simp
  | cons x t ih =>
    intro a b h
    cases a with
    | zero => simp
    | succ a =>
      cases b with
      | zero => omega
      | succ b =>
        have := ih (a := a) (b := b) (by omega)
        simp only [List.take_succ_cons, List.sum_cons]
        omega
theorem sumS_mono (row : List GateD) {a b : Nat} (h : a ≤ b) : sumS (row.take a) ≤ sumS (row.take b) := by
  unfold sumS
  rw [List.map_take, List.map_take]
  exact sum_take_le _ h
theorem sumA_mono (gs : List (List GateD)) {a b : Nat} (h : a ≤ b) : sumA (gs.take a) ≤ sumA (gs.take b) := by
  unfold sumA
  rw [List.map_take, List.map_take]
  exact sum_take_le _ h
theorem sumS_all (row : List GateD) (a : Nat) : sumS (row.take a) ≤ sumS row := by
  have := sumS_mono row (a := a) (b := max a row.length) (by omega)
  rw [List.take_of_length_le (l := row) (i := max a row.length) (by omega)] at this
  exact this
theorem sumA_all (gs : List (List GateD)) (a : Nat) : sumA (gs.take a) ≤ sumA gs := by
  have := sumA_mono gs (a := a) (b := max a gs.length) (by omega)
  rw [List.take_of_length_le (l := gs) (i := max a gs.length) (by omega)] at this
  exact this
/-- The number of an entry. -/
def enAt (gs : List (List GateD)) (row : List GateD) (i c : Nat) (x : GateD) (a b : Nat) : Nat := sumA (gs.take i) + sumS (row.take c) + (a * x.2.length + b)
theorem enAt_lt {gs : List (List GateD)} {row : List GateD} {i c a b : Nat} {x : GateD} (hx : row[c]? = some x) (ha : a < x.1.length) (hb : b < x.2.length) : enAt gs row i c x a b < sumA (gs.take i) + sumS (row.take (c + 1)) := by
  unfold enAt
  rw [sumS_next hx]
  have : a * x.2.length + b < szG x := by
    unfold szG
    have h1 : (a + 1) * x.2.length ≤ x.1.length * x.2.length := Nat.mul_le_mul_right _ ha
    rw [Nat.add_mul, Nat.one_mul] at h1
    omega
  omega
theorem enAt_lt2 {gs : List (List GateD)} {row : List GateD} {i c a b : Nat} {x : GateD} (hr : gs[i]? = some row) (hx : row[c]? = some x) (ha : a < x.1.length) (hb : b < x.2.length) : enAt gs row i c x a b < sumA (gs.take (i + 1)) := by
  have h := enAt_lt (gs := gs) (i := i) hx ha hb
  have h2 := sumS_all row (c + 1)
  rw [sumA_next hr]
  omega
end Go.Proofs.YtgkeolddpielpaaGreatDoor
