/- Parts of the proof: At, Ri, Ki. -/
import Derived.Test.YtgkeolddpielpaaGreatDoorM21
import Derived.Test.YtgkeolddpielpaaGreatDoorShelf
import Derived.Test.YtgkeolddpielpaaGreatDoorShelf2
import Derived.Sort.OwnSortedInts
import Derived.Lib.RowBridge
/- (*Over).At. -/
namespace Go.Proofs.YtgkeolddpielpaaGreatDoor
open Go.RowKit

attribute [local go_sem ↓] Go.wp_at_zero Go.wp_at_succ

set_option maxHeartbeats 1000000 in
/-- Where an entry stands. -/
theorem at_ok (o i c a b : Nat) (ar : List Tri) (ls : List (List Int)) (l : List Int) (x : GateD) (w : World) (h : RdOv w o ar ls) (hl : ls[i]? = some l) (hx : (gateRow ar l)[c]? = some x) (ha : a < x.1.length) (hb : b < x.2.length) (hL : ls.length ≤ 1000000) (hS : sumA (gatesOf ar ls) ≤ 1000000000000) :
    Calls Tryz.prog 22 #[.pointer (some ⟨o, 0, none⟩), .int .i64 ((i : Int) + 1), .int .i64 c, .int .i64 a, .int .i64 b] w fun e w' => e = .returned (.int .i64 ((enAt (gatesOf ar ls) (gateRow ar l) i c x a b : Nat) : Int)) ∧ Below w.heap.size w w' := by
  obtain ⟨z, hz⟩ : ∃ z, z = enAt (gatesOf ar ls) (gateRow ar l) i c x a b := ⟨_, rfl⟩
  have hrow := gates_get (ar := ar) hl
  have z3 := enAt_lt2 hrow hx ha hb
  have z4 := sumA_all (gatesOf ar ls) (i + 1)
  have hcM : c < (mostN l).toNat := by rw [← gateRow_len ar l]; exact (List.getElem?_eq_some_iff.1 hx).1
  rw [← hz] at z3 ⊢
  have HH := Lib.hid (oHas_ok o i c _ ar ls l w h hl hL rfl hcM)
  obtain ⟨Q, F, T, G, S, L, m, cq, cf, ct, cg, cs, h⟩ := h
  have h4 := h.n4
  have h3 := h.n3
  have hiL : i < L := by rw [← h.part.1]; exact (List.getElem?_eq_some_iff.1 hl).1
  have hLL : L ≤ 1000000 := by rw [← h.part.1]; exact hL
  obtain ⟨row, gb, go_, Ag, ng, cA, hrowg, rfl, hcg, hrg, _⟩ := h.gates.at_ hiL
  rw [hrow] at hrowg
  cases hrowg
  have hcng : c < ng := by rw [← hrg.1]; exact (List.getElem?_eq_some_iff.1 hx).1
  obtain ⟨x', cb, co, A1, n1, c1, A2, n2, c2, hx', rfl, hc1, hr1, hc2, hr2, hc21⟩ := hrg.at_ (c := c) hcng
  rw [hx] at hx'
  cases hx'
  have hn1 : x.1.length = n1 := hr1.1
  have hn2 : x.2.length = n2 := hr2.1
  obtain ⟨sb, so, Ar, n, c', lr, rfl, elr, hrc, hrr, hrn⟩ := h.starts.at_ hiL
  rw [stAll_get hrow] at elr
  cases elr
  have hnM : n = (mostN l).toNat := by rw [← hrr.1, stRow_len, gateRow_len]
  have hcn : c < n := by omega
  obtain ⟨rb, ro, y0, rfl, ey0, hy0⟩ := hrr.at_ hcn
  rw [stRow_get (by rw [gateRow_len]; exact hcM)] at ey0
  obtain ⟨s, hs⟩ : ∃ s, s = sumA ((gatesOf ar ls).take i) + sumS ((gateRow ar l).take c) := ⟨_, rfl⟩
  rw [← hs] at ey0
  cases ey0
  have hzd : z = s + (a * n2 + b) := by rw [hz, hs, ← hn2]; rfl
  obtain ⟨p, hp⟩ : ∃ p, p = a * n2 := ⟨_, rfl⟩
  rw [← hp] at hzd
  have m1 : (a : Int) * (n2 : Int) = (p : Int) := by rw [hp]; simp
  have wp_ : IntKind.i64.wrap (p : Int) = (p : Int) := IntWalk.i64_in _ (by omega)
  obtain ⟨t, ht⟩ : ∃ t, t = s + p := ⟨_, rfl⟩
  have m2 : (s : Int) + (p : Int) = (t : Int) := by omega
  have wt : IntKind.i64.wrap (t : Int) = (t : Int) := IntWalk.i64_in _ (by omega)
  have m3 : (t : Int) + (b : Int) = (z : Int) := by omega
  have m3' : (b : Int) + (t : Int) = (z : Int) := by omega
  have wz : IntKind.i64.wrap (z : Int) = (z : Int) := IntWalk.i64_in _ (by omega)
  have wi : IntKind.i64.wrap (i : Int) = (i : Int) := IntWalk.i64_in _ (by omega)
  have i1 : (0 : Int) ≤ (i : Int) := by omega
  have i2 : (i : Int) < (L : Int) := by omega
  have i5 : (i : Int) + 1 - 1 = (i : Int) := by omega
  have i6 : (0 : Int) ≤ (c : Int) := by omega
  have i7 : (c : Int) < (ng : Int) := by omega
  have i8 : (c : Int) < (n : Int) := by omega
  have i9 : ¬ ((a : Int) < 0) := by omega
  have i10 : ¬ ((n1 : Int) ≤ (a : Int)) := by omega
  have i11 : ¬ ((b : Int) < 0) := by omega
  have i12 : ¬ ((n2 : Int) ≤ (b : Int)) := by omega
  have ho : o < w.heap.size := World.block_lt_of_cell? _ _ h3
  clear h hl hrow hx ha hb hL hS hz z3 z4 hrg hr1 hr2 hc21 hn1 hn2 hrr hs hzd hp ht hnM hcM hrn
  go_enter Tryz.func22, Tryz.ntmps22
  go_wp2_with fail
  with_reducible refine HH.out.mono ?_
  rintro e w' ⟨rfl, rfl⟩
  go_wp2_with fail
  (refine wp_named ?_; intro W hW)
  have hb1 : Below w.heap.size w W := by rw [hW]; exact (by repeat (first | exact Below.refl _ _ | assumption | apply Below.drew | apply below_drewN | apply Bel.alloc | (refine Bel.setCell_ ?_ ?_; rotate_left; omega) | (refine Bel.step ?_ (by assumption))))
  have hX : Blk W w.heap.size 60 #[.slice A1 n1 c1, .slice A2 n2 c2] := by rw [hW]; exact (by repeat (first | assumption | (refine Blk.new' _ _ _ ?_; first | with_unfolding_all rfl | (simp; done)) | apply Blk.drewN | apply Blk.drew | apply Blk.alloc | (refine Blk.far_ ?_ ?_ _; rotate_left; omega)))
  clear hW
  have g3 := Below.cellOf hb1 (Nat.le_refl _) h3
  have g4 := Below.cellOf hb1 (Nat.le_refl _) h4
  have gr := Below.cellOf hb1 (Nat.le_refl _) hrc
  have gy := Below.cellOf hb1 (Nat.le_refl _) hy0
  have x0 := hX.cell 0
  have x1 := hX.cell 1
  simp only [List.getElem?_toArray, List.getElem?_cons_zero, List.getElem?_cons_succ] at x0 x1
  clear hX
  go_wp2_with fail
  go_quiet (fail)
  go_wp2_with fail
  go_ret
  exact ⟨rfl, below_drewN hb1 _⟩
/-- Of a cell that no arc enters: none. -/
theorem at_no (o i c a b : Nat) (ar : List Tri) (ls : List (List Int)) (l : List Int) (x : GateD) (w : World) (h : RdOv w o ar ls) (hl : ls[i]? = some l) (hx : (gateRow ar l)[c]? = some x) (ha : x.1.length ≤ a) (hL : ls.length ≤ 1000000) :
    Calls Tryz.prog 22 #[.pointer (some ⟨o, 0, none⟩), .int .i64 ((i : Int) + 1), .int .i64 c, .int .i64 a, .int .i64 b] w fun e w' => e = .returned (.int .i64 (-1)) ∧ Below w.heap.size w w' := by
  have hrow := gates_get (ar := ar) hl
  have hcM : c < (mostN l).toNat := by rw [← gateRow_len ar l]; exact (List.getElem?_eq_some_iff.1 hx).1
  have HH := Lib.hid (oHas_ok o i c _ ar ls l w h hl hL rfl hcM)
  obtain ⟨Q, F, T, G, S, L, m, cq, cf, ct, cg, cs, h⟩ := h
  have h3 := h.n3
  have hiL : i < L := by rw [← h.part.1]; exact (List.getElem?_eq_some_iff.1 hl).1
  have hLL : L ≤ 1000000 := by rw [← h.part.1]; exact hL
  obtain ⟨row, gb, go_, Ag, ng, cA, hrowg, rfl, hcg, hrg, _⟩ := h.gates.at_ hiL
  rw [hrow] at hrowg
  cases hrowg
  have hcng : c < ng := by rw [← hrg.1]; exact (List.getElem?_eq_some_iff.1 hx).1
  obtain ⟨x', cb, co, A1, n1, c1, A2, n2, c2, hx', rfl, hc1, hr1, hc2, hr2, hc21⟩ := hrg.at_ (c := c) hcng
  rw [hx] at hx'
  cases hx'
  have hn1 : x.1.length = n1 := hr1.1
  have i1 : (0 : Int) ≤ (i : Int) := by omega
  have i2 : (i : Int) < (L : Int) := by omega
  have i5 : (i : Int) + 1 - 1 = (i : Int) := by omega
  have i6 : (0 : Int) ≤ (c : Int) := by omega
  have i7 : (c : Int) < (ng : Int) := by omega
  have i9 : ¬ ((a : Int) < 0) := by omega
  have i10 : ((n1 : Int) ≤ (a : Int)) := by omega
  have ho : o < w.heap.size := World.block_lt_of_cell? _ _ h3
  clear h hl hrow hx ha hL hrg hr1 hr2 hc21 hn1 hcM
  go_enter Tryz.func22, Tryz.ntmps22
  go_wp2_with fail
  with_reducible refine HH.out.mono ?_
  rintro e w' ⟨rfl, rfl⟩
  go_wp2_with fail
  go_ret
  exact ⟨rfl, (by repeat (first | exact Below.refl _ _ | assumption | apply Below.drew | apply below_drewN | apply Bel.alloc | (refine Bel.setCell_ ?_ ?_; rotate_left; omega) | (refine Bel.step ?_ (by assumption))))⟩
end Go.Proofs.YtgkeolddpielpaaGreatDoor

/- The ring, the two cells: literal. -/
namespace Go.Proofs.YtgkeolddpielpaaGreatDoor
open Go.RowKit

attribute [local go_sem ↓] Go.wp_at_zero Go.wp_at_succ

def ringN : NetD := ⟨[(0, 0, 1), (10, 0, 2), (5, 8, 0)], [(0, 1, 10), (1, 2, 20), (2, 0, 30), (1, 0, 40)], [⟨1, 1, [2]⟩, ⟨2, 1, [0, 1152921504606846976]⟩, ⟨1, 2, [1, 5]⟩]⟩
def twoL : List (List Int) := [[0, 0, 1], [0, 0, 0]]
theorem ringN_ok : NetOk ringN := by
  refine ⟨by decide, by decide, by decide, ?_, ?_, ?_, ?_⟩
  · intro t ht
    simp only [ringN, List.mem_cons, List.not_mem_nil, or_false] at ht
    rcases ht with rfl | rfl | rfl <;> exact ⟨by decide, by decide, by decide, by decide, by decide, by decide⟩
  · intro t ht
    simp only [ringN, List.mem_cons, List.not_mem_nil, or_false] at ht
    rcases ht with rfl | rfl | rfl <;> exact ⟨by decide, by decide, by decide, by decide⟩
  · intro t ht
    simp only [ringN, List.mem_cons, List.not_mem_nil, or_false] at ht
    rcases ht with rfl | rfl | rfl | rfl <;> exact ⟨by decide, by decide, by decide, by decide, by decide⟩
  · intro i v t hv ht
    have hi : i < 3 := (List.getElem?_eq_some_iff.1 hv).1
    rcases (by omega : i = 0 ∨ i = 1 ∨ i = 2) with rfl | rfl | rfl
    all_goals
      simp only [ringN, List.getElem?_cons_zero, List.getElem?_cons_succ, Option.some.injEq] at hv
      subst hv
      revert ht
      simp only [ringN, show (1 : Int).toNat = 1 from rfl, show (2 : Int).toNat = 2 from rfl, show (0 : Int).toNat = 0 from rfl, List.getElem?_cons_zero, List.getElem?_cons_succ, Option.some.injEq]
      rintro rfl
      exact ⟨by decide, by decide⟩
theorem get3 {P : Int → Prop} {l : List Int} (a b c : Int) (h : l = [a, b, c]) (h0 : P a) (h1 : P b) (h2 : P c) : ∀ x ∈ l, P x := by
  intro x hx
  subst h
  simp only [List.mem_cons, List.not_mem_nil, or_false] at hx
  rcases hx with rfl | rfl | rfl <;> assumption
theorem twoL_ok : PartOk 3 twoL := by
  refine ⟨by decide, by decide, ?_, ?_⟩
  · intro l hl
    simp only [twoL, List.mem_cons, List.not_mem_nil, or_false] at hl
    rcases hl with rfl | rfl
    · refine ⟨by decide, by decide, by decide, ?_⟩
      intro c hc
      have hm : mostN [0, 0, 1] = 2 := by decide
      rw [hm] at hc
      rcases (by omega : c = 0 ∨ c = 1) with rfl | rfl <;> decide
    · refine ⟨by decide, by decide, by decide, ?_⟩
      intro c hc
      have hm : mostN [0, 0, 0] = 1 := by decide
      rw [hm] at hc
      obtain rfl : c = 0 := by omega
      decide
  · intro i p l hp hl
    have hi : i + 1 < 2 := (List.getElem?_eq_some_iff.1 hl).1
    obtain rfl : i = 0 := by omega
    simp only [twoL, List.getElem?_cons_zero, List.getElem?_cons_succ, Option.some.injEq] at hp hl
    subst hp hl
    intro a b x y u v _ _ hu hv _
    have h0 : ∀ {k : Nat} {z : Int}, ([0, 0, 0] : List Int)[k]? = some z → z = 0 := by
      intro k z hz
      have hk : k < 3 := (List.getElem?_eq_some_iff.1 hz).1
      rcases (by omega : k = 0 ∨ k = 1 ∨ k = 2) with rfl | rfl | rfl <;> simpa using hz.symm
    rw [h0 hu, h0 hv]
    exact Int.le_refl _

theorem RdI.lit {w : World} {g : Nat} {t : TypeId} (l : List Int) (h : Blk w g t (icells l).toArray) : RdI w (some ⟨g, 0, none⟩) l.length l := by
  refine ⟨rfl, fun i x hx => ⟨g, 0, rfl, ?_⟩⟩
  rw [h.cell]
  simp [icells, hx]
theorem two_fact {w : World} {g1 g2 g3 : Nat} {t s : TypeId} (h1 : Blk w g1 t (icells [0, 0, 1]).toArray) (h2 : Blk w g2 t (icells [0, 0, 0]).toArray) (h3 : Blk w g3 s #[.slice (some ⟨g1, 0, none⟩) 3 3, .slice (some ⟨g2, 0, none⟩) 3 3]) : RdT w (some ⟨g3, 0, none⟩) 2 twoL := by
  refine ⟨rfl, fun i l hl => ?_⟩
  have hi : i < 2 := (List.getElem?_eq_some_iff.1 hl).1
  rcases (by omega : i = 0 ∨ i = 1) with rfl | rfl
  · simp only [twoL, List.getElem?_cons_zero, Option.some.injEq] at hl
    subst hl
    exact ⟨g3, 0, some ⟨g1, 0, none⟩, 3, 3, rfl, by rw [h3.cell]; rfl, RdI.lit _ h1, by omega, by omega⟩
  · simp only [twoL, List.getElem?_cons_zero, List.getElem?_cons_succ, Option.some.injEq] at hl
    subst hl
    exact ⟨g3, 0, some ⟨g2, 0, none⟩, 3, 3, rfl, by rw [h3.cell]; rfl, RdI.lit _ h2, by omega, by omega⟩
theorem Rd3.lit {w : World} {g : Nat} {t : TypeId} (l : List Tri) (h : Blk w g t (tcells l).toArray) : Rd3 w (some ⟨g, 0, none⟩) l.length l := by
  refine Rds.rd3 ⟨tcells_len l, fun i x hx => ⟨g, 0, rfl, ?_⟩⟩
  rw [h.cell]
  simpa using hx
theorem ring_fact {w : World} {g1 g2 g3 g4 g5 g6 : Nat} {t a b c : TypeId} (h1 : Blk w g1 t (icells [2]).toArray) (h2 : Blk w g2 t (icells [0, 1152921504606846976]).toArray) (h3 : Blk w g3 t (icells [1, 5]).toArray)
    (h4 : Blk w g4 a (tcells ringN.vs).toArray) (h5 : Blk w g5 b (tcells ringN.ar).toArray)
    (h6 : Blk w g6 c #[.int .i64 1, .int .i64 1, .slice (some ⟨g1, 0, none⟩) 1 1, .int .i64 2, .int .i64 1, .slice (some ⟨g2, 0, none⟩) 2 2, .int .i64 1, .int .i64 2, .slice (some ⟨g3, 0, none⟩) 2 2]) : RdNet w (some ⟨g4, 0, none⟩) (some ⟨g5, 0, none⟩) (some ⟨g6, 0, none⟩) 3 4 3 ringN := by
  refine ⟨Rd3.lit _ h4, Rd3.lit _ h5, rfl, fun i x hx => ?_⟩
  have hi : i < 3 := (List.getElem?_eq_some_iff.1 hx).1
  rcases (by omega : i = 0 ∨ i = 1 ∨ i = 2) with rfl | rfl | rfl
  · simp only [ringN, List.getElem?_cons_zero, Option.some.injEq] at hx
    subst hx
    exact ⟨g6, 0, rfl, by rw [h6.cell]; rfl, by rw [h6.cell]; rfl, some ⟨g1, 0, none⟩, 1, 1, by rw [h6.cell]; rfl, RdI.lit _ h1, by omega⟩
  · simp only [ringN, List.getElem?_cons_zero, List.getElem?_cons_succ, Option.some.injEq] at hx
    subst hx
    exact ⟨g6, 0, rfl, by rw [h6.cell]; rfl, by rw [h6.cell]; rfl, some ⟨g2, 0, none⟩, 2, 2, by rw [h6.cell]; rfl, RdI.lit _ h2, by omega⟩
  · simp only [ringN, List.getElem?_cons_zero, List.getElem?_cons_succ, Option.some.injEq] at hx
    subst hx
    exact ⟨g6, 0, rfl, by rw [h6.cell]; rfl, by rw [h6.cell]; rfl, some ⟨g3, 0, none⟩, 2, 2, by rw [h6.cell]; rfl, RdI.lit _ h3, by omega⟩
theorem bodyPost_named {P : Program} {f : Func} {Q : Ending → World → Prop} {x : Exit} {a : Act} {w : World} (h : ∀ W, W = w → bodyPost P f Q x a W) : bodyPost P f Q x a w := h w rfl
theorem two_any (w : World) : Calls Tryz.prog 27 #[] w fun e w' => ∃ A, e = .returned (.agg #[.slice A 2 2]) ∧ RdT w' A 2 twoL ∧ Below w.heap.size w w' := by
  go_enter Tryz.func27, Tryz.ntmps27
  go_wp2_with fail
  (refine bodyPost_named ?_; intro W hW)
  have c0 : W.cell? ⟨w.heap.size, 0, none⟩ = some (.slice (some ⟨w.heap.size + 1 + 1 + 1, 0, none⟩) 2 2) := by
    rw [hW, Blk.cell (t := 29) (cs := #[.slice (some ⟨w.heap.size + 1 + 1 + 1, 0, none⟩) 2 2]) (by repeat (first | assumption | (refine Blk.new' _ _ _ ?_; first | with_unfolding_all rfl | (simp; done)) | apply Blk.drewN | apply Blk.drew | apply Blk.alloc | (refine Blk.far_ ?_ ?_ _; rotate_left; omega)))]; rfl
  refine bodyPost_ret (v := .agg #[.slice (some ⟨w.heap.size + 1 + 1 + 1, 0, none⟩) 2 2]) (by simp [results, Tryz.results27, go_sem, c0]) rfl ?_
  rw [hW]
  exact ⟨_, rfl, two_fact (g1 := w.heap.size + 1) (g2 := w.heap.size + 1 + 1) (t := 3) (s := 47) (by repeat (first | assumption | (refine Blk.new' _ _ _ ?_; first | with_unfolding_all rfl | (simp; done)) | apply Blk.drewN | apply Blk.drew | apply Blk.alloc | (refine Blk.far_ ?_ ?_ _; rotate_left; omega))) (by repeat (first | assumption | (refine Blk.new' _ _ _ ?_; first | with_unfolding_all rfl | (simp; done)) | apply Blk.drewN | apply Blk.drew | apply Blk.alloc | (refine Blk.far_ ?_ ?_ _; rotate_left; omega))) (by repeat (first | assumption | (refine Blk.new' _ _ _ ?_; first | with_unfolding_all rfl | (simp; done)) | apply Blk.drewN | apply Blk.drew | apply Blk.alloc | (refine Blk.far_ ?_ ?_ _; rotate_left; omega))), (by repeat (first | exact Below.refl _ _ | assumption | apply Below.drew | apply below_drewN | apply Bel.alloc | (refine Bel.setCell_ ?_ ?_; rotate_left; omega) | (refine Bel.step ?_ (by assumption))))⟩
set_option maxHeartbeats 2000000 in
theorem ring_any (w : World) : Calls Tryz.prog 26 #[] w fun e w' => ∃ A B C, e = .returned (.agg #[.slice A 3 3, .slice B 4 4, .slice C 3 3]) ∧ RdNet w' A B C 3 4 3 ringN ∧ Below w.heap.size w w' := by
  go_enter Tryz.func26, Tryz.ntmps26
  go_wp2_with fail
  (refine bodyPost_named ?_; intro W hW)
  have hB : Blk W w.heap.size 26 #[.slice (some ⟨w.heap.size + 1 + 1 + 1 + 1 + 1 + 1 + 1, 0, none⟩) 3 3, .slice (some ⟨w.heap.size + 1 + 1 + 1 + 1 + 1 + 1 + 1 + 1, 0, none⟩) 4 4, .slice (some ⟨w.heap.size + 1 + 1 + 1 + 1 + 1 + 1 + 1 + 1 + 1, 0, none⟩) 3 3] := by
    rw [hW]
    refine Blk.alloc ?_ _
    refine Blk.alloc ?_ _
    refine Blk.alloc ?_ _
    refine Blk.alloc ?_ _
    refine Blk.alloc ?_ _
    refine Blk.alloc ?_ _
    refine Blk.alloc ?_ _
    refine Blk.alloc ?_ _
    refine Blk.alloc ?_ _
    refine Blk.new' _ _ _ ?_
    first | with_unfolding_all rfl | (simp; done)
  have c0 := hB.cell 0
  have c1 := hB.cell 1
  have c2 := hB.cell 2
  simp only [List.getElem?_toArray, List.getElem?_cons_zero, List.getElem?_cons_succ] at c0 c1 c2
  refine bodyPost_ret (v := .agg #[.slice (some ⟨w.heap.size + 1 + 1 + 1 + 1 + 1 + 1 + 1, 0, none⟩) 3 3, .slice (some ⟨w.heap.size + 1 + 1 + 1 + 1 + 1 + 1 + 1 + 1, 0, none⟩) 4 4, .slice (some ⟨w.heap.size + 1 + 1 + 1 + 1 + 1 + 1 + 1 + 1 + 1, 0, none⟩) 3 3]) (by simp [results, Tryz.results26, go_sem, c0, c1, c2]) rfl ?_
  have b1 : Blk W (w.heap.size + 1) 2 #[.int .i64 2] := by
    rw [hW]
    refine Blk.alloc ?_ _
    refine Blk.alloc ?_ _
    refine Blk.alloc ?_ _
    refine Blk.alloc ?_ _
    refine Blk.alloc ?_ _
    refine Blk.alloc ?_ _
    refine Blk.alloc ?_ _
    refine Blk.alloc ?_ _
    refine Blk.new' _ _ _ ?_
    first | with_unfolding_all rfl | (simp; done)
  have b2 : Blk W (w.heap.size + 1 + 1 + 1) 2 #[.int .i64 0, .int .i64 1152921504606846976] := by
    rw [hW]
    refine Blk.alloc ?_ _
    refine Blk.alloc ?_ _
    refine Blk.alloc ?_ _
    refine Blk.alloc ?_ _
    refine Blk.alloc ?_ _
    refine Blk.alloc ?_ _
    refine Blk.new' _ _ _ ?_
    first | with_unfolding_all rfl | (simp; done)
  have b3 : Blk W (w.heap.size + 1 + 1 + 1 + 1 + 1) 2 #[.int .i64 1, .int .i64 5] := by
    rw [hW]
    refine Blk.alloc ?_ _
    refine Blk.alloc ?_ _
    refine Blk.alloc ?_ _
    refine Blk.alloc ?_ _
    refine Blk.new' _ _ _ ?_
    first | with_unfolding_all rfl | (simp; done)
  have b4 : Blk W (w.heap.size + 1 + 1 + 1 + 1 + 1 + 1 + 1) 119 #[.int .i64 0, .int .i64 0, .int .i64 1, .int .i64 10, .int .i64 0, .int .i64 2, .int .i64 5, .int .i64 8, .int .i64 0] := by
    rw [hW]
    refine Blk.alloc ?_ _
    refine Blk.alloc ?_ _
    refine Blk.new' _ _ _ ?_
    first | with_unfolding_all rfl | (simp; done)
  have b5 : Blk W (w.heap.size + 1 + 1 + 1 + 1 + 1 + 1 + 1 + 1) 121 #[.int .i64 0, .int .i64 1, .int .i64 10, .int .i64 1, .int .i64 2, .int .i64 20, .int .i64 2, .int .i64 0, .int .i64 30, .int .i64 1, .int .i64 0, .int .i64 40] := by
    rw [hW]
    refine Blk.alloc ?_ _
    refine Blk.new' _ _ _ ?_
    first | with_unfolding_all rfl | (simp; done)
  have b6 : Blk W (w.heap.size + 1 + 1 + 1 + 1 + 1 + 1 + 1 + 1 + 1) 117 #[.int .i64 1, .int .i64 1, .slice (some ⟨w.heap.size + 1, 0, none⟩) 1 1, .int .i64 2, .int .i64 1, .slice (some ⟨w.heap.size + 1 + 1 + 1, 0, none⟩) 2 2, .int .i64 1, .int .i64 2, .slice (some ⟨w.heap.size + 1 + 1 + 1 + 1 + 1, 0, none⟩) 2 2] := by
    rw [hW]
    refine Blk.new' _ _ _ ?_
    first | with_unfolding_all rfl | (simp; done)
  have hbl : Below w.heap.size w W := by rw [hW]; exact (by repeat (first | exact Below.refl _ _ | assumption | apply Below.drew | apply below_drewN | apply Bel.alloc | (refine Bel.setCell_ ?_ ?_; rotate_left; omega) | (refine Bel.step ?_ (by assumption))))
  exact ⟨_, _, _, rfl, ring_fact b1 b2 b3 b4 b5 b6, hbl⟩
end Go.Proofs.YtgkeolddpielpaaGreatDoor

/- part.Kids. -/
namespace Go.Proofs.YtgkeolddpielpaaGreatDoor
open Go.RowKit

attribute [local go_sem ↓] Go.wp_at_zero Go.wp_at_succ

/-- What is sorted. -/
def srt (zs : List Int) : List Int := zs.mergeSort fun x y => decide (x ≤ y)
theorem srt_len (zs : List Int) : (srt zs).length = zs.length := by unfold srt; simp
theorem srt_mem {zs : List Int} {x : Int} : x ∈ srt zs ↔ x ∈ zs := by unfold srt; exact List.mem_mergeSort
theorem srt_le (zs : List Int) : (srt zs).Pairwise (· ≤ ·) := by
  have := List.pairwise_mergeSort (le := fun x y : Int => decide (x ≤ y)) (fun a b c h1 h2 => by simp at *; omega) (fun a b => by simp; omega) zs
  exact this.imp (fun h => by simpa using h)
theorem Own.sorted {w : World} {B g n c : Nat} {zs : List Int} (h : Own w B 3 1 (some ⟨g, 0, none⟩) n c (icells zs)) : zs.length = n ∧ g < w.heap.size ∧ B ≤ g ∧ Go.Sort.Holds (Value.int .i64) w g 0 zs.toArray ∧ n ≤ c ∧ c ≤ 9223372036854775807 ∧
    ∀ (ts : List Int) (q : Nat) (os : Array Obj), ts.length = n → Own (Go.Sort.grow (Go.Sort.putRow (Value.int .i64) (Go.Sort.ahead w q) g 0 ts.toArray) os) B 3 1 (some ⟨g, 0, none⟩) n c (icells ts) := by
  have hl : zs.length = n := by have := h.1; simpa [icells] using this
  rcases h.2 with ⟨h', _⟩ | ⟨g', cap, cur, h1, h2, h3, h4, h5, h6, h7⟩
  · cases h'
  · cases h1
    have h7' : cur.toList.take zs.length = zs.map (Value.int .i64) := by rw [hl]; simpa [icells] using h7
    refine ⟨hl, (Array.getElem?_eq_some_iff.1 h3).1, h2, holds_of_blockI h3 h7', h4, (by unfold maxLen at h5; exact h5), fun ts q os ht => ?_⟩
    have := ownsRow_sortedI (os := os) (n := q) (ss := zs) (ts := ts) (by rw [ht, hl]) h2 h3 (by rw [hl]; exact h4) h5 h6
    rw [hl] at this
    exact this
theorem sort_own (g n c B : Nat) (zs : List Int) (w : World) (h : Own w B 3 1 (some ⟨g, 0, none⟩) n c (icells zs)) (hn : n ≤ 1000000000) :
    Calls Tryz.prog 89 #[.slice (some ⟨g, 0, none⟩) n c] w fun e w' => e = .returned (.tuple #[]) ∧ Own w' B 3 1 (some ⟨g, 0, none⟩) n c (icells (srt zs)) ∧ w.grownBy w' (some g) := by
  obtain ⟨hl, hg, hB, hH, h1, h2, h3⟩ := h.sorted
  have hcon := Any.slices_Sort_int Tryz.sortIL g 0 c zs w hH hg (by omega)
  rw [hl] at hcon
  refine Calls.mono (show Calls Tryz.prog 89 _ _ _ from hcon) ?_
  rintro e w' ⟨rfl, q, os, rfl⟩
  exact ⟨rfl, h3 (srt zs) q os (by rw [srt_len, hl]), grownBy_sortedI _⟩
theorem compact_own (g n c B : Nat) (zs : List Int) (w : World) (h : Own w B 3 1 (some ⟨g, 0, none⟩) n c (icells zs)) :
    Calls Tryz.prog 90 #[.slice (some ⟨g, 0, none⟩) n c] w fun e w' => e = .returned (.slice (some ⟨g, 0, none⟩) (Lib.compact zs).length c) ∧ RdI w' (some ⟨g, 0, none⟩) (Lib.compact zs).length (Lib.compact zs) ∧ w.grownBy w' (some g) := by
  obtain ⟨hl, hg, hB, hH, h1, h2, h3⟩ := h.sorted
  have hcon := Any.slices_Compact_int Tryz.compactL g 0 c zs w hH (by omega) (by omega)
  rw [hl] at hcon
  have hcl := Lib.compact_length_le zs
  refine Calls.mono (show Calls Tryz.prog 90 _ _ _ from hcon) ?_
  rintro e w' ⟨rfl, q, rfl⟩
  have ho := h3 (Lib.compact zs ++ List.replicate (n - (Lib.compact zs).length) 0) q #[] (by simp; omega)
  rw [Go.Sort.grow_empty] at ho
  have hgr := grownBy_sortedI (w := w) (g := g) (n := q) (os := #[]) (Lib.compact zs ++ List.replicate (n - (Lib.compact zs).length) 0).toArray
  rw [Go.Sort.grow_empty] at hgr
  refine ⟨rfl, ?_, hgr⟩
  have := ho.rds.rdI.take (m := (Lib.compact zs).length) (by omega)
  rwa [List.take_append_of_le_length (Nat.le_refl _), List.take_length] at this
theorem compact_mem {zs : List Int} {x : Int} : x ∈ Lib.compact zs ↔ x ∈ zs := by
  unfold Lib.compact Lib.compactUpTo
  simp only [List.mem_map, List.mem_filter, List.mem_range]
  constructor
  · rintro ⟨j, ⟨hj, _⟩, rfl⟩
    rw [getElem!_pos _ _ (by simpa using hj)]
    simp
  · intro hx
    obtain ⟨k, hk⟩ := List.getElem?_of_mem hx
    have hkl := (List.getElem?_eq_some_iff.1 hk).1
    have hex : ∃ j, j < zs.length ∧ zs.toArray[j]! = x ∧ Lib.keeps zs.toArray j = true := by
      have hkx : zs.toArray[k]! = x := by rw [getElem!_pos _ _ (by simpa using hkl)]; simpa using (List.getElem?_eq_some_iff.1 hk).2
      clear hk
      induction k with
      | zero => exact ⟨0, hkl, hkx, by simp [Lib.keeps]⟩
      | succ k ih =>
        by_cases e : zs.toArray[k + 1]! = zs.toArray[k]!
        · exact ih (by omega) (by rw [← e]; exact hkx)
        · exact ⟨k + 1, hkl, hkx, Lib.keeps_pos e⟩
    obtain ⟨j, h1, h2, h3⟩ := hex
    exact ⟨j, ⟨h1, h3⟩, h2⟩
theorem compact_lt {zs : List Int} (h : zs.Pairwise (· ≤ ·)) : (Lib.compact zs).Pairwise (· < ·) := by
  unfold Lib.compact Lib.compactUpTo
  rw [List.pairwise_map]
  have hle : ∀ i j : Nat, i ≤ j → j < zs.length → zs.toArray[i]! ≤ zs.toArray[j]! := fun i j hij hj => by
    rw [getElem!_pos _ _ (by simp; omega), getElem!_pos _ _ (by simpa using hj)]
    simp only [List.getElem_toArray]
    rcases Nat.lt_or_ge i j with h1 | h1
    · exact List.pairwise_iff_getElem.1 h i j (by omega) hj h1
    · obtain rfl : i = j := by omega
      exact Int.le_refl _
  have hr : ((List.range zs.length).filter (Lib.keeps zs.toArray)).Pairwise (fun i j => i < j ∧ j < zs.length ∧ Lib.keeps zs.toArray j = true) := by
    rw [List.pairwise_filter]
    refine List.Pairwise.imp_of_mem ?_ (List.pairwise_lt_range (n := zs.length))
    intro i j hi hj hij _ hk
    exact ⟨hij, List.mem_range.1 hj, hk⟩
  refine hr.imp ?_
  rintro i j ⟨hij, hj, hk⟩
  have h1 := hle i (j - 1) (by omega) (by omega)
  have h2 := hle (j - 1) j (by omega) hj
  have h3 : zs.toArray[j]! ≠ zs.toArray[j - 1]! := fun e => by
    rw [Lib.keeps_neg (by omega) e] at hk
    cases hk
  omega
/-- Two rows that rise and have the same numbers are one. -/
theorem rise_ext {a b : List Int} (ha : a.Pairwise (· < ·)) (hb : b.Pairwise (· < ·)) (h : ∀ x, x ∈ a ↔ x ∈ b) : a = b := by
  have hp : a.Perm b := by
    refine (List.perm_ext_iff_of_nodup ?_ ?_).2 h
    · exact ha.imp (fun h e => by omega)
    · exact hb.imp (fun h e => by omega)
  exact List.Perm.eq_of_pairwise (le := fun x y => x < y) (fun x y _ _ h1 h2 => by omega) ha hb hp
/-- The numbers below of those that stand in a cell. -/
def kidsRaw (row below : List Int) (cell : Int) (k : Nat) : List Int := ((List.range k).filter (fun v : Nat => row.getD v 0 == cell)).map (fun v => below.getD v 0)
theorem kidsRaw_next {row below : List Int} {cell x y : Int} {k : Nat} (hx : row[k]? = some x) (hy : below[k]? = some y) : kidsRaw row below cell (k + 1) = kidsRaw row below cell k ++ (if x = cell then [y] else []) := by
  unfold kidsRaw
  have ex : row.getD k 0 = x := by rw [List.getD_eq_getElem?_getD, hx]; rfl
  have ey : below.getD k 0 = y := by rw [List.getD_eq_getElem?_getD, hy]; rfl
  rw [List.range_succ, List.filter_append, List.map_append]
  congr 1
  by_cases e : x = cell
  · rw [if_pos e]; simp only [List.filter_cons, List.filter_nil, ex, e, beq_self_eq_true, if_true, List.map_cons, List.map_nil, ey]
  · rw [if_neg e]; simp only [List.filter_cons, List.filter_nil, ex, beq_eq_false_iff_ne.2 e, Bool.false_eq_true, if_false, List.map_nil]
theorem kidsRaw_len (row below : List Int) (cell : Int) (k : Nat) : (kidsRaw row below cell k).length ≤ k := by
  unfold kidsRaw
  rw [List.length_map]
  exact Nat.le_trans (List.length_filter_le _ _) (by simp)
theorem mem_kidsRaw {row below : List Int} {cell x : Int} {n : Nat} (h1 : row.length = n) (h2 : below.length = n) : x ∈ kidsRaw row below cell n ↔ ∃ v : Nat, row[v]? = some cell ∧ below[v]? = some x := by
  unfold kidsRaw
  simp only [List.mem_map, List.mem_filter, List.mem_range, beq_iff_eq, List.getD_eq_getElem?_getD]
  constructor
  · rintro ⟨v, ⟨hv, e1⟩, e2⟩
    have a1 : row[v]? = some row[v] := List.getElem?_eq_getElem (by omega)
    have a2 : below[v]? = some below[v] := List.getElem?_eq_getElem (by omega)
    rw [a1] at e1
    rw [a2] at e2
    refine ⟨v, ?_, ?_⟩
    · rw [a1]; exact congrArg some e1
    · rw [a2]; exact congrArg some e2
  · rintro ⟨v, e1, e2⟩
    refine ⟨v, ⟨by have := (List.getElem?_eq_some_iff.1 e1).1; omega, by rw [e1]; rfl⟩, by rw [e2]; rfl⟩
/-- The cells below that are in a cell. -/
def kidsOf (row below : List Int) (cell : Int) (n : Nat) : List Int := Lib.compact (srt (kidsRaw row below cell n))
theorem kidsOf_lt (row below : List Int) (cell : Int) (n : Nat) : (kidsOf row below cell n).Pairwise (· < ·) := compact_lt (srt_le _)
theorem mem_kidsOf {row below : List Int} {cell x : Int} {n : Nat} (h1 : row.length = n) (h2 : below.length = n) : x ∈ kidsOf row below cell n ↔ ∃ v : Nat, row[v]? = some cell ∧ below[v]? = some x := by
  unfold kidsOf
  rw [compact_mem, srt_mem, mem_kidsRaw h1 h2]
theorem kidsOf_len (row below : List Int) (cell : Int) (n : Nat) : (kidsOf row below cell n).length ≤ n := by
  unfold kidsOf
  refine Nat.le_trans (Lib.compact_length_le _) ?_
  rw [srt_len]
  exact kidsRaw_len _ _ _ _
set_option maxHeartbeats 2000000 in
theorem kids_ok (Q : Option Addr) (L cq j n : Nat) (cell : Int) (ls : List (List Int)) (row below : List Int) (w : World) (h : RdT w Q L ls) (hr : ls[j + 1]? = some row) (hb : ls[j]? = some below) (hL : L ≤ 1000000) (h1 : row.length = n) (h2 : below.length = n) (hn : n ≤ 1000000) (hne : cell ∈ row) :
    Calls Tryz.prog 57 #[.agg #[.slice Q L cq], .int .i64 ((j : Int) + 1 + 1), .int .i64 cell] w fun e w' => ∃ A c, e = .returned (.slice A (kidsOf row below cell n).length c) ∧ RdI w' A (kidsOf row below cell n).length (kidsOf row below cell n) ∧ Below w.heap.size w w' := by
  have HN1 := Lib.hid (show ∀ V, Below w.heap.size w V → Calls Tryz.prog 88 #[.agg #[.slice Q L cq], .int .i64 ((j : Int) + 1)] V fun e w' => ∃ A n c, e = .returned (.slice A n c) ∧ RdI V A n below ∧ n ≤ c ∧ c ≤ 9223372036854775807 ∧ Below V.heap.size V w' from fun V hV => numbers_ok Q L cq j ls below V (h.below hV) hb hL)
  have HN2 := Lib.hid (show ∀ V, Below w.heap.size w V → Calls Tryz.prog 88 #[.agg #[.slice Q L cq], .int .i64 ((j : Int) + 1 + 1)] V fun e w' => ∃ A n c, e = .returned (.slice A n c) ∧ RdI V A n row ∧ n ≤ c ∧ c ≤ 9223372036854775807 ∧ Below V.heap.size V w' from fun V hV => by
    have := numbers_ok Q L cq (j + 1) ls row V (h.below hV) hr hL
    simpa using this)
  have HL1 := Lib.hid h1
  have HL2 := Lib.hid h2
  have HNE := Lib.hid hne
  have hjL : j + 1 < L := by rw [← h.1]; exact (List.getElem?_eq_some_iff.1 hr).1
  clear h hr hb h1 h2 hne
  have i1 : ¬ ((j : Int) + 1 + 1 < 2) := by omega
  have i2 : (j : Int) + 1 + 1 - 1 = (j : Int) + 1 := by omega
  go_enter Tryz.func57, Tryz.ntmps57
  go_wp2_with fail
  (refine calls_named ?_; intro w1 hw1)
  have hb1 : Below w.heap.size w w1 := by rw [hw1]; exact (by repeat (first | exact Below.refl _ _ | assumption | apply Below.drew | apply below_drewN | apply Bel.alloc | (refine Bel.setCell_ ?_ ?_; rotate_left; omega) | (refine Bel.step ?_ (by assumption))))
  have hQ : Blk w1 w.heap.size 35 #[.slice Q L cq] := by rw [hw1]; exact (by repeat (first | assumption | (refine Blk.new' _ _ _ ?_; first | with_unfolding_all rfl | (simp; done)) | apply Blk.drewN | apply Blk.drew | apply Blk.alloc | (refine Blk.far_ ?_ ?_ _; rotate_left; omega)))
  clear hw1
  with_reducible refine (HN1.out w1 hb1).mono ?_
  rintro e w2 ⟨Ab, n1, cb, rfl, hrb, _, _, hb2⟩
  obtain rfl : n = n1 := by rw [← hrb.1]; exact HL2.out.symm
  have hbw2 := Bel.step hb1 hb2
  have HRB := Lib.hid (hrb.below hb2)
  have y0 := (hQ.below hb2 hQ.lt).cell 0
  simp only [List.getElem?_toArray, List.getElem?_cons_zero] at y0
  clear hrb hb2 hQ
  go_wp2_with fail
  with_reducible refine (HN2.out w2 hbw2).mono ?_
  rintro e w3 ⟨Ar, n2, cr, rfl, hrr, _, _, hb3⟩
  obtain rfl : n = n2 := by rw [← hrr.1]; exact HL1.out.symm
  have hbw3 := Bel.step hbw2 hb3
  have HRR := Lib.hid (hrr.below hb3)
  have HRB3 := Lib.hid (HRB.out.below hb3)
  have hz0 := hbw3.size
  clear hrr hb3 y0 HRB
  go_wp2_with fail
  go_loopw [8, 21] (fun x q W => w3.heap.size ≤ W.heap.size ∧ Below w3.heap.size w3 W ∧ ∃ (k : Nat) (X : Option Addr) (m cx : Nat), k ≤ n ∧ q = .int .i64 k ∧ x = .slice X m cx ∧ m ≤ k ∧ Own W w3.heap.size 3 1 X m cx (icells (kidsRaw row below cell k))) (fun _ q _ => n - (intOf q).toNat)
  case atStart => exact ⟨Nat.le_refl _, Below.refl _ _, 0, none, 0, 0, Nat.zero_le _, rfl, rfl, Nat.le_refl _, Own.nil _ _ _ _⟩
  case round =>
    obtain ⟨hsz, hbl, k, X, m, cx, hk, rfl, rfl, hmk, hown⟩ := hrel
    by_cases hlt : k < n
    · obtain ⟨rb, ro, x, rfl, hx, hcx⟩ := HRR.out.at_ hlt
      obtain ⟨bb, bo, y, rfl, hy, hcy⟩ := HRB3.out.at_ hlt
      have hcx2 := Below.cellOf hbl (Nat.le_refl _) hcx
      have hcy2 := Below.cellOf hbl (Nat.le_refl _) hcy
      have HNX := Lib.hid (kidsRaw_next (cell := cell) hx hy)
      have k1 : (0 : Int) ≤ (k : Int) := by omega
      have k2 : (k : Int) < (n : Int) := by omega
      clear hx hy hcx hcy
      by_cases hxc : x = cell
      · have e1 : (x == cell) = true := by simpa using hxc
        have HXC := Lib.hid hxc
        clear hxc
        have hr4 : Below wr.heap.size wr (wr.alloc (.cells #[.int .i64 y] 3)) := (by repeat (first | exact Below.refl _ _ | assumption | apply Below.drew | apply below_drewN | apply Bel.alloc | (refine Bel.setCell_ ?_ ?_; rotate_left; omega) | (refine Bel.step ?_ (by assumption))))
        have hownA := hown.below hr4
        have hrA : Rds (wr.alloc (.cells #[.int .i64 y] 3)) 1 (some ⟨wr.heap.size, 0, none⟩) 1 (icells [y]) := (Blk.new wr 3 (ints [y])).rds rfl
        have hblA := Bel.step hbl hr4
        go_wp2_with (at_builtin; with_reducible refine wpList_app rfl (.tmp 35) (.tmp 40) 47 rfl 3 _ 1 8 infoInt Tryz.underlying47 rfl (by omega) rfl rfl hownA hrA (icells_one _) (by omega) (by omega) (by simp; omega) ?_)
        intro A' c' w' hown' hg _
        have hbl5 : Below w3.heap.size w3 w' := Bel.grownOwn hblA hg hownA (by simp; omega)
        have hsz5 := hbl5.size
        have HO := Lib.hid hown'
        clear hown' hg hownA hrA hblA hr4 hown hbl
        go_wp2
        go_roundw
        case rel => exact ⟨hsz5, hbl5, k + 1, A', m + 1, c', by omega, by go_num, rfl, by omega, by rw [HNX.out, if_pos HXC.out, icells_app]; exact HO.out⟩
        case measure => simp [intOf]; omega
      · have e1 : (x == cell) = false := by simpa using hxc
        have HXC := Lib.hid hxc
        clear hxc
        go_wp2_with fail
        go_roundw
        case rel => exact ⟨hsz, hbl, k + 1, X, m, cx, by omega, by go_num, rfl, by omega, by rw [HNX.out, if_neg HXC.out]; simpa using hown⟩
        case measure => simp [intOf]; omega
    · obtain rfl : n = k := by omega
      have hm : (kidsRaw row below cell n).length = m := by have := hown.1; simpa [icells] using this
      have hm0 : 0 < m := by
        obtain ⟨v, hv⟩ := List.getElem?_of_mem HNE.out
        have hvn := (List.getElem?_eq_some_iff.1 hv).1
        rw [HL1.out] at hvn
        obtain ⟨z, hz⟩ : ∃ z, below[v]? = some z := ⟨_, List.getElem?_eq_getElem (by rw [HL2.out]; exact hvn)⟩
        have hmem := (mem_kidsRaw HL1.out HL2.out).2 ⟨v, hv, hz⟩
        rw [← hm]
        exact List.length_pos_of_mem hmem
      obtain ⟨gk, cur, rfl, hgk, _⟩ := hown.block hm0
      have HS := Lib.hid (sort_own gk m cx w3.heap.size _ wr hown (by omega))
      clear hown hm hm0 HNE
      go_wp2_with fail
      with_reducible refine HS.out.mono ?_
      rintro e w5 ⟨rfl, hown5, hg5⟩
      have hbl5 : Below w3.heap.size w3 w5 := hbl.grown hg5 hsz (fun k hk => by cases hk; exact hgk)
      have hz5 := hg5.size
      have HC := Lib.hid (compact_own gk m cx w3.heap.size _ w5 hown5)
      clear hown5 hg5 HS
      go_wp2_with fail
      with_reducible refine HC.out.mono ?_
      rintro e w6 ⟨rfl, hr6, hg6⟩
      have hbl6 : Below w3.heap.size w3 w6 := hbl5.grown hg6 (by omega) (fun k hk => by cases hk; exact hgk)
      have HR6 := Lib.hid hr6
      clear hr6 hg6 HC
      go_wp2_with fail
      go_ret
      exact ⟨_, _, rfl, HR6.out, Bel.step hbw3 hbl6⟩
end Go.Proofs.YtgkeolddpielpaaGreatDoor
