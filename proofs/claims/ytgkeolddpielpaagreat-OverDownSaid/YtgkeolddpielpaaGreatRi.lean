/- The ring, the two cells: literal. -/
import Derived.Test.YtgkeolddpielpaaGreatNt1
import Derived.Test.YtgkeolddpielpaaGreatNv
import Derived.Test.YtgkeolddpielpaaGreatPt
namespace Go.Proofs.YtgkeolddpielpaaGreat
open Go.RowKit

attribute [local go_sem ↓] Go.wp_at_zero Go.wp_at_succ

def ringN : NetD := ⟨[(0, 0, 1), (10, 0, 2), (5, 8, 0)], [(0, 1, 10), (1, 2, 20), (2, 0, 30), (1, 0, 40)], [⟨1, 1, [2]⟩, ⟨2, 1, [0, 1152921504606846976]⟩, ⟨1, 2, [1, 5]⟩]⟩
def twoL : List (List Int) := [[0, 0, 1], [0, 0, 0]]
theorem ringN_ok : NetOk ringN := by
  refine ⟨by decide, by decide, by decide, ?_, ?_, ?_, ?_⟩
  · intro t ht
    simp only [ringN, List.mem_cons, List.not_mem_nil, or_false] at ht
    rcases ht with rfl | rfl | rfl <;> exact ⟨by decide, by decide, by decide, by decide, by decide, by decide⟩
  · intro t ht
    simp only [ringN, List.mem_cons, List.not_mem_nil, or_false] at ht
    rcases ht with rfl | rfl | rfl <;> exact ⟨by decide, by decide, by decide, by decide⟩
  · intro t ht
    simp only [ringN, List.mem_cons, List.not_mem_nil, or_false] at ht
    rcases ht with rfl | rfl | rfl | rfl <;> exact ⟨by decide, by decide, by decide, by decide, by decide⟩
  · intro i v t hv ht
    have hi : i < 3 := (List.getElem?_eq_some_iff.1 hv).1
    rcases (by omega : i = 0 ∨ i = 1 ∨ i = 2) with rfl | rfl | rfl
    all_goals
      simp only [ringN, List.getElem?_cons_zero, List.getElem?_cons_succ, Option.some.injEq] at hv
      subst hv
      revert ht
      simp only [ringN, show (1 : Int).toNat = 1 from rfl, show (2 : Int).toNat = 2 from rfl, show (0 : Int).toNat = 0 from rfl, List.getElem?_cons_zero, List.getElem?_cons_succ, Option.some.injEq]
      rintro rfl
      exact ⟨by decide, by decide⟩
theorem get3 {P : Int → Prop} {l : List Int} (a b c : Int) (h : l = [a, b, c]) (h0 : P a) (h1 : P b) (h2 : P c) : ∀ x ∈ l, P x := by
  intro x hx
  subst h
  simp only [List.mem_cons, List.not_mem_nil, or_false] at hx
  rcases hx with rfl | rfl | rfl <;> assumption
theorem twoL_ok : PartOk 3 twoL := by
  refine ⟨by decide, by decide, ?_, ?_⟩
  · intro l hl
    simp only [twoL, List.mem_cons, List.not_mem_nil, or_false] at hl
    rcases hl with rfl | rfl
    · refine ⟨by decide, by decide, by decide, ?_⟩
      intro c hc
      have hm : mostN [0, 0, 1] = 2 := by decide
      rw [hm] at hc
      rcases (by omega : c = 0 ∨ c = 1) with rfl | rfl <;> decide
    · refine ⟨by decide, by decide, by decide, ?_⟩
      intro c hc
      have hm : mostN [0, 0, 0] = 1 := by decide
      rw [hm] at hc
      obtain rfl : c = 0 := by omega
      decide
  · intro i p l hp hl
    have hi : i + 1 < 2 := (List.getElem?_eq_some_iff.1 hl).1
    obtain rfl : i = 0 := by omega
    simp only [twoL, List.getElem?_cons_zero, List.getElem?_cons_succ, Option.some.injEq] at hp hl
    subst hp hl
    intro a b x y u v _ _ hu hv _
    have h0 : ∀ {k : Nat} {z : Int}, ([0, 0, 0] : List Int)[k]? = some z → z = 0 := by
      intro k z hz
      have hk : k < 3 := (List.getElem?_eq_some_iff.1 hz).1
      rcases (by omega : k = 0 ∨ k = 1 ∨ k = 2) with rfl | rfl | rfl <;> simpa using hz.symm
    rw [h0 hu, h0 hv]
    exact Int.le_refl _

theorem RdI.lit {w : World} {g : Nat} {t : TypeId} (l : List Int) (h : Blk w g t (icells l).toArray) : RdI w (some ⟨g, 0, none⟩) l.length l := by
  refine ⟨rfl, fun i x hx => ⟨g, 0, rfl, ?_⟩⟩
  rw [h.cell]
  simp [icells, hx]
theorem two_fact {w : World} {g1 g2 g3 : Nat} {t s : TypeId} (h1 : Blk w g1 t (icells [0, 0, 1]).toArray) (h2 : Blk w g2 t (icells [0, 0, 0]).toArray) (h3 : Blk w g3 s #[.slice (some ⟨g1, 0, none⟩) 3 3, .slice (some ⟨g2, 0, none⟩) 3 3]) : RdT w (some ⟨g3, 0, none⟩) 2 twoL := by
  refine ⟨rfl, fun i l hl => ?_⟩
  have hi : i < 2 := (List.getElem?_eq_some_iff.1 hl).1
  rcases (by omega : i = 0 ∨ i = 1) with rfl | rfl
  · simp only [twoL, List.getElem?_cons_zero, Option.some.injEq] at hl
    subst hl
    exact ⟨g3, 0, some ⟨g1, 0, none⟩, 3, 3, rfl, by rw [h3.cell]; rfl, RdI.lit _ h1, by omega, by omega⟩
  · simp only [twoL, List.getElem?_cons_zero, List.getElem?_cons_succ, Option.some.injEq] at hl
    subst hl
    exact ⟨g3, 0, some ⟨g2, 0, none⟩, 3, 3, rfl, by rw [h3.cell]; rfl, RdI.lit _ h2, by omega, by omega⟩
theorem Rd3.lit {w : World} {g : Nat} {t : TypeId} (l : List Tri) (h : Blk w g t (tcells l).toArray) : Rd3 w (some ⟨g, 0, none⟩) l.length l := by
  refine Rds.rd3 ⟨tcells_len l, fun i x hx => ⟨g, 0, rfl, ?_⟩⟩
  rw [h.cell]
  simpa using hx
theorem ring_fact {w : World} {g1 g2 g3 g4 g5 g6 : Nat} {t a b c : TypeId} (h1 : Blk w g1 t (icells [2]).toArray) (h2 : Blk w g2 t (icells [0, 1152921504606846976]).toArray) (h3 : Blk w g3 t (icells [1, 5]).toArray)
    (h4 : Blk w g4 a (tcells ringN.vs).toArray) (h5 : Blk w g5 b (tcells ringN.ar).toArray)
    (h6 : Blk w g6 c #[.int .i64 1, .int .i64 1, .slice (some ⟨g1, 0, none⟩) 1 1, .int .i64 2, .int .i64 1, .slice (some ⟨g2, 0, none⟩) 2 2, .int .i64 1, .int .i64 2, .slice (some ⟨g3, 0, none⟩) 2 2]) : RdNet w (some ⟨g4, 0, none⟩) (some ⟨g5, 0, none⟩) (some ⟨g6, 0, none⟩) 3 4 3 ringN := by
  refine ⟨Rd3.lit _ h4, Rd3.lit _ h5, rfl, fun i x hx => ?_⟩
  have hi : i < 3 := (List.getElem?_eq_some_iff.1 hx).1
  rcases (by omega : i = 0 ∨ i = 1 ∨ i = 2) with rfl | rfl | rfl
  · simp only [ringN, List.getElem?_cons_zero, Option.some.injEq] at hx
    subst hx
    exact ⟨g6, 0, rfl, by rw [h6.cell]; rfl, by rw [h6.cell]; rfl, some ⟨g1, 0, none⟩, 1, 1, by rw [h6.cell]; rfl, RdI.lit _ h1, by omega⟩
  · simp only [ringN, List.getElem?_cons_zero, List.getElem?_cons_succ, Option.some.injEq] at hx
    subst hx
    exact ⟨g6, 0, rfl, by rw [h6.cell]; rfl, by rw [h6.cell]; rfl, some ⟨g2, 0, none⟩, 2, 2, by rw [h6.cell]; rfl, RdI.lit _ h2, by omega⟩
  · simp only [ringN, List.getElem?_cons_zero, List.getElem?_cons_succ, Option.some.injEq] at hx
    subst hx
    exact ⟨g6, 0, rfl, by rw [h6.cell]; rfl, by rw [h6.cell]; rfl, some ⟨g3, 0, none⟩, 2, 2, by rw [h6.cell]; rfl, RdI.lit _ h3, by omega⟩
theorem bodyPost_named {P : Program} {f : Func} {Q : Ending → World → Prop} {x : Exit} {a : Act} {w : World} (h : ∀ W, W = w → bodyPost P f Q x a W) : bodyPost P f Q x a w := h w rfl
theorem two_any (w : World) : Calls Tryz.prog 32 #[] w fun e w' => ∃ A, e = .returned (.agg #[.slice A 2 2]) ∧ RdT w' A 2 twoL ∧ Below w.heap.size w w' := by
  go_enter Tryz.func32, Tryz.ntmps32
  go_wp2_with fail
  (refine bodyPost_named ?_; intro W hW)
  have c0 : W.cell? ⟨w.heap.size, 0, none⟩ = some (.slice (some ⟨w.heap.size + 1 + 1 + 1, 0, none⟩) 2 2) := by
    rw [hW, Blk.cell (t := 29) (cs := #[.slice (some ⟨w.heap.size + 1 + 1 + 1, 0, none⟩) 2 2]) (by repeat (first | assumption | (refine Blk.new' _ _ _ ?_; first | with_unfolding_all rfl | (simp; done)) | apply Blk.drewN | apply Blk.drew | apply Blk.alloc | (refine Blk.far_ ?_ ?_ _; rotate_left; omega)))]; rfl
  refine bodyPost_ret (v := .agg #[.slice (some ⟨w.heap.size + 1 + 1 + 1, 0, none⟩) 2 2]) (by simp [results, Tryz.results32, go_sem, c0]) rfl ?_
  rw [hW]
  exact ⟨_, rfl, two_fact (g1 := w.heap.size + 1) (g2 := w.heap.size + 1 + 1) (t := 3) (s := 36) (by repeat (first | assumption | (refine Blk.new' _ _ _ ?_; first | with_unfolding_all rfl | (simp; done)) | apply Blk.drewN | apply Blk.drew | apply Blk.alloc | (refine Blk.far_ ?_ ?_ _; rotate_left; omega))) (by repeat (first | assumption | (refine Blk.new' _ _ _ ?_; first | with_unfolding_all rfl | (simp; done)) | apply Blk.drewN | apply Blk.drew | apply Blk.alloc | (refine Blk.far_ ?_ ?_ _; rotate_left; omega))) (by repeat (first | assumption | (refine Blk.new' _ _ _ ?_; first | with_unfolding_all rfl | (simp; done)) | apply Blk.drewN | apply Blk.drew | apply Blk.alloc | (refine Blk.far_ ?_ ?_ _; rotate_left; omega))), (by repeat (first | exact Below.refl _ _ | assumption | apply Below.drew | apply below_drewN | apply Bel.alloc | (refine Bel.setCell_ ?_ ?_; rotate_left; omega) | (refine Bel.step ?_ (by assumption))))⟩
set_option maxHeartbeats 2000000 in
theorem ring_any (w : World) : Calls Tryz.prog 31 #[] w fun e w' => ∃ A B C, e = .returned (.agg #[.slice A 3 3, .slice B 4 4, .slice C 3 3]) ∧ RdNet w' A B C 3 4 3 ringN ∧ Below w.heap.size w w' := by
  go_enter Tryz.func31, Tryz.ntmps31
  go_wp2_with fail
  (refine bodyPost_named ?_; intro W hW)
  have hB : Blk W w.heap.size 26 #[.slice (some ⟨w.heap.size + 1 + 1 + 1 + 1 + 1 + 1 + 1, 0, none⟩) 3 3, .slice (some ⟨w.heap.size + 1 + 1 + 1 + 1 + 1 + 1 + 1 + 1, 0, none⟩) 4 4, .slice (some ⟨w.heap.size + 1 + 1 + 1 + 1 + 1 + 1 + 1 + 1 + 1, 0, none⟩) 3 3] := by
    rw [hW]
    refine Blk.alloc ?_ _
    refine Blk.alloc ?_ _
    refine Blk.alloc ?_ _
    refine Blk.alloc ?_ _
    refine Blk.alloc ?_ _
    refine Blk.alloc ?_ _
    refine Blk.alloc ?_ _
    refine Blk.alloc ?_ _
    refine Blk.alloc ?_ _
    refine Blk.new' _ _ _ ?_
    first | with_unfolding_all rfl | (simp; done)
  have c0 := hB.cell 0
  have c1 := hB.cell 1
  have c2 := hB.cell 2
  simp only [List.getElem?_toArray, List.getElem?_cons_zero, List.getElem?_cons_succ] at c0 c1 c2
  refine bodyPost_ret (v := .agg #[.slice (some ⟨w.heap.size + 1 + 1 + 1 + 1 + 1 + 1 + 1, 0, none⟩) 3 3, .slice (some ⟨w.heap.size + 1 + 1 + 1 + 1 + 1 + 1 + 1 + 1, 0, none⟩) 4 4, .slice (some ⟨w.heap.size + 1 + 1 + 1 + 1 + 1 + 1 + 1 + 1 + 1, 0, none⟩) 3 3]) (by simp [results, Tryz.results31, go_sem, c0, c1, c2]) rfl ?_
  have b1 : Blk W (w.heap.size + 1) 2 #[.int .i64 2] := by
    rw [hW]
    refine Blk.alloc ?_ _
    refine Blk.alloc ?_ _
    refine Blk.alloc ?_ _
    refine Blk.alloc ?_ _
    refine Blk.alloc ?_ _
    refine Blk.alloc ?_ _
    refine Blk.alloc ?_ _
    refine Blk.alloc ?_ _
    refine Blk.new' _ _ _ ?_
    first | with_unfolding_all rfl | (simp; done)
  have b2 : Blk W (w.heap.size + 1 + 1 + 1) 2 #[.int .i64 0, .int .i64 1152921504606846976] := by
    rw [hW]
    refine Blk.alloc ?_ _
    refine Blk.alloc ?_ _
    refine Blk.alloc ?_ _
    refine Blk.alloc ?_ _
    refine Blk.alloc ?_ _
    refine Blk.alloc ?_ _
    refine Blk.new' _ _ _ ?_
    first | with_unfolding_all rfl | (simp; done)
  have b3 : Blk W (w.heap.size + 1 + 1 + 1 + 1 + 1) 2 #[.int .i64 1, .int .i64 5] := by
    rw [hW]
    refine Blk.alloc ?_ _
    refine Blk.alloc ?_ _
    refine Blk.alloc ?_ _
    refine Blk.alloc ?_ _
    refine Blk.new' _ _ _ ?_
    first | with_unfolding_all rfl | (simp; done)
  have b4 : Blk W (w.heap.size + 1 + 1 + 1 + 1 + 1 + 1 + 1) 121 #[.int .i64 0, .int .i64 0, .int .i64 1, .int .i64 10, .int .i64 0, .int .i64 2, .int .i64 5, .int .i64 8, .int .i64 0] := by
    rw [hW]
    refine Blk.alloc ?_ _
    refine Blk.alloc ?_ _
    refine Blk.new' _ _ _ ?_
    first | with_unfolding_all rfl | (simp; done)
  have b5 : Blk W (w.heap.size + 1 + 1 + 1 + 1 + 1 + 1 + 1 + 1) 107 #[.int .i64 0, .int .i64 1, .int .i64 10, .int .i64 1, .int .i64 2, .int .i64 20, .int .i64 2, .int .i64 0, .int .i64 30, .int .i64 1, .int .i64 0, .int .i64 40] := by
    rw [hW]
    refine Blk.alloc ?_ _
    refine Blk.new' _ _ _ ?_
    first | with_unfolding_all rfl | (simp; done)
  have b6 : Blk W (w.heap.size + 1 + 1 + 1 + 1 + 1 + 1 + 1 + 1 + 1) 119 #[.int .i64 1, .int .i64 1, .slice (some ⟨w.heap.size + 1, 0, none⟩) 1 1, .int .i64 2, .int .i64 1, .slice (some ⟨w.heap.size + 1 + 1 + 1, 0, none⟩) 2 2, .int .i64 1, .int .i64 2, .slice (some ⟨w.heap.size + 1 + 1 + 1 + 1 + 1, 0, none⟩) 2 2] := by
    rw [hW]
    refine Blk.new' _ _ _ ?_
    first | with_unfolding_all rfl | (simp; done)
  have hbl : Below w.heap.size w W := by rw [hW]; exact (by repeat (first | exact Below.refl _ _ | assumption | apply Below.drew | apply below_drewN | apply Bel.alloc | (refine Bel.setCell_ ?_ ?_; rotate_left; omega) | (refine Bel.step ?_ (by assumption))))
  exact ⟨_, _, _, rfl, ring_fact b1 b2 b3 b4 b5 b6, hbl⟩
end Go.Proofs.YtgkeolddpielpaaGreat
