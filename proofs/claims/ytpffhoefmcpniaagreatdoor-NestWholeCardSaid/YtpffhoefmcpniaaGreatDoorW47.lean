/- Parts of the proof: RiP, QRi, NeK, NeG. -/
import Derived.Test.YtpffhoefmcpniaaGreatDoorW1
import Derived.Test.YtpffhoefmcpniaaGreatDoorW4
import Derived.Test.YtpffhoefmcpniaaGreatDoorW15
import Derived.Test.YtpffhoefmcpniaaGreatDoorW17
import Derived.Test.YtpffhoefmcpniaaGreatDoorW19
import Derived.Test.YtpffhoefmcpniaaGreatDoorW35
import Derived.Test.YtpffhoefmcpniaaGreatDoorW41
import Derived.Test.YtpffhoefmcpniaaGreatDoorW43
import Derived.Test.YtpffhoefmcpniaaGreatDoorW45
import Derived.Test.YtpffhoefmcpniaaGreatDoorW46
/- The ring, the two cells: what they are, plain. -/
namespace Go.Proofs.YtpffhoefmcpniaaGreatDoor
open Go.RowKit

attribute [local go_sem ↓] Go.wp_at_zero Go.wp_at_succ

def ringN : NetD := ⟨[(0, 0, 1), (10, 0, 2), (5, 8, 0)], [(0, 1, 10), (1, 2, 20), (2, 0, 30), (1, 0, 40)], [⟨1, 1, [2]⟩, ⟨2, 1, [0, 1152921504606846976]⟩, ⟨1, 2, [1, 5]⟩]⟩
def twoL : List (List Int) := [[0, 0, 1], [0, 0, 0]]
theorem ringN_ok : NetOk ringN := by
  refine ⟨by decide, by decide, by decide, ?_, ?_, ?_, ?_⟩
  · intro t ht
    simp only [ringN, List.mem_cons, List.not_mem_nil, or_false] at ht
    rcases ht with rfl | rfl | rfl <;> exact ⟨by decide, by decide, by decide, by decide, by decide, by decide⟩
  · intro t ht
    simp only [ringN, List.mem_cons, List.not_mem_nil, or_false] at ht
    rcases ht with rfl | rfl | rfl <;> exact ⟨by decide, by decide, by decide, by decide⟩
  · intro t ht
    simp only [ringN, List.mem_cons, List.not_mem_nil, or_false] at ht
    rcases ht with rfl | rfl | rfl | rfl <;> exact ⟨by decide, by decide, by decide, by decide, by decide⟩
  · intro i v t hv ht
    have hi : i < 3 := (List.getElem?_eq_some_iff.1 hv).1
    rcases (by omega : i = 0 ∨ i = 1 ∨ i = 2) with rfl | rfl | rfl
    all_goals
      simp only [ringN, List.getElem?_cons_zero, List.getElem?_cons_succ, Option.some.injEq] at hv
      subst hv
      revert ht
      simp only [ringN, show (1 : Int).toNat = 1 from rfl, show (2 : Int).toNat = 2 from rfl, show (0 : Int).toNat = 0 from rfl, List.getElem?_cons_zero, List.getElem?_cons_succ, Option.some.injEq]
      rintro rfl
      exact ⟨by decide, by decide⟩
theorem get3 {P : Int → Prop} {l : List Int} (a b c : Int) (h : l = [a, b, c]) (h0 : P a) (h1 : P b) (h2 : P c) : ∀ x ∈ l, P x := by
  intro x hx
  subst h
  simp only [List.mem_cons, List.not_mem_nil, or_false] at hx
  rcases hx with rfl | rfl | rfl <;> assumption
theorem twoL_ok : PartOk 3 twoL := by
  refine ⟨by decide, by decide, ?_, ?_⟩
  · intro l hl
    simp only [twoL, List.mem_cons, List.not_mem_nil, or_false] at hl
    rcases hl with rfl | rfl
    · refine ⟨by decide, by decide, by decide, ?_⟩
      intro c hc
      have hm : mostN [0, 0, 1] = 2 := by decide
      rw [hm] at hc
      rcases (by omega : c = 0 ∨ c = 1) with rfl | rfl <;> decide
    · refine ⟨by decide, by decide, by decide, ?_⟩
      intro c hc
      have hm : mostN [0, 0, 0] = 1 := by decide
      rw [hm] at hc
      obtain rfl : c = 0 := by omega
      decide
  · intro i p l hp hl
    have hi : i + 1 < 2 := (List.getElem?_eq_some_iff.1 hl).1
    obtain rfl : i = 0 := by omega
    simp only [twoL, List.getElem?_cons_zero, List.getElem?_cons_succ, Option.some.injEq] at hp hl
    subst hp hl
    intro a b x y u v _ _ hu hv _
    have h0 : ∀ {k : Nat} {z : Int}, ([0, 0, 0] : List Int)[k]? = some z → z = 0 := by
      intro k z hz
      have hk : k < 3 := (List.getElem?_eq_some_iff.1 hz).1
      rcases (by omega : k = 0 ∨ k = 1 ∨ k = 2) with rfl | rfl | rfl <;> simpa using hz.symm
    rw [h0 hu, h0 hv]
    exact Int.le_refl _

theorem RdI.lit {w : World} {g : Nat} {t : TypeId} (l : List Int) (h : Blk w g t (icells l).toArray) : RdI w (some ⟨g, 0, none⟩) l.length l := by
  refine ⟨rfl, fun i x hx => ⟨g, 0, rfl, ?_⟩⟩
  rw [h.cell]
  simp [icells, hx]
theorem two_fact {w : World} {g1 g2 g3 : Nat} {t s : TypeId} (h1 : Blk w g1 t (icells [0, 0, 1]).toArray) (h2 : Blk w g2 t (icells [0, 0, 0]).toArray) (h3 : Blk w g3 s #[.slice (some ⟨g1, 0, none⟩) 3 3, .slice (some ⟨g2, 0, none⟩) 3 3]) : RdT w (some ⟨g3, 0, none⟩) 2 twoL := by
  refine ⟨rfl, fun i l hl => ?_⟩
  have hi : i < 2 := (List.getElem?_eq_some_iff.1 hl).1
  rcases (by omega : i = 0 ∨ i = 1) with rfl | rfl
  · simp only [twoL, List.getElem?_cons_zero, Option.some.injEq] at hl
    subst hl
    exact ⟨g3, 0, some ⟨g1, 0, none⟩, 3, 3, rfl, by rw [h3.cell]; rfl, RdI.lit _ h1, by omega, by omega⟩
  · simp only [twoL, List.getElem?_cons_zero, List.getElem?_cons_succ, Option.some.injEq] at hl
    subst hl
    exact ⟨g3, 0, some ⟨g2, 0, none⟩, 3, 3, rfl, by rw [h3.cell]; rfl, RdI.lit _ h2, by omega, by omega⟩
theorem Rd3.lit {w : World} {g : Nat} {t : TypeId} (l : List Tri) (h : Blk w g t (tcells l).toArray) : Rd3 w (some ⟨g, 0, none⟩) l.length l := by
  refine Rds.rd3 ⟨tcells_len l, fun i x hx => ⟨g, 0, rfl, ?_⟩⟩
  rw [h.cell]
  simpa using hx
theorem ring_fact {w : World} {g1 g2 g3 g4 g5 g6 : Nat} {t a b c : TypeId} (h1 : Blk w g1 t (icells [2]).toArray) (h2 : Blk w g2 t (icells [0, 1152921504606846976]).toArray) (h3 : Blk w g3 t (icells [1, 5]).toArray)
    (h4 : Blk w g4 a (tcells ringN.vs).toArray) (h5 : Blk w g5 b (tcells ringN.ar).toArray)
    (h6 : Blk w g6 c #[.int .i64 1, .int .i64 1, .slice (some ⟨g1, 0, none⟩) 1 1, .int .i64 2, .int .i64 1, .slice (some ⟨g2, 0, none⟩) 2 2, .int .i64 1, .int .i64 2, .slice (some ⟨g3, 0, none⟩) 2 2]) : RdNet w (some ⟨g4, 0, none⟩) (some ⟨g5, 0, none⟩) (some ⟨g6, 0, none⟩) 3 4 3 ringN := by
  refine ⟨Rd3.lit _ h4, Rd3.lit _ h5, rfl, fun i x hx => ?_⟩
  have hi : i < 3 := (List.getElem?_eq_some_iff.1 hx).1
  rcases (by omega : i = 0 ∨ i = 1 ∨ i = 2) with rfl | rfl | rfl
  · simp only [ringN, List.getElem?_cons_zero, Option.some.injEq] at hx
    subst hx
    exact ⟨g6, 0, rfl, by rw [h6.cell]; rfl, by rw [h6.cell]; rfl, some ⟨g1, 0, none⟩, 1, 1, by rw [h6.cell]; rfl, RdI.lit _ h1, by omega⟩
  · simp only [ringN, List.getElem?_cons_zero, List.getElem?_cons_succ, Option.some.injEq] at hx
    subst hx
    exact ⟨g6, 0, rfl, by rw [h6.cell]; rfl, by rw [h6.cell]; rfl, some ⟨g2, 0, none⟩, 2, 2, by rw [h6.cell]; rfl, RdI.lit _ h2, by omega⟩
  · simp only [ringN, List.getElem?_cons_zero, List.getElem?_cons_succ, Option.some.injEq] at hx
    subst hx
    exact ⟨g6, 0, rfl, by rw [h6.cell]; rfl, by rw [h6.cell]; rfl, some ⟨g3, 0, none⟩, 2, 2, by rw [h6.cell]; rfl, RdI.lit _ h3, by omega⟩
theorem bodyPost_named {P : Program} {f : Func} {Q : Ending → World → Prop} {x : Exit} {a : Act} {w : World} (h : ∀ W, W = w → bodyPost P f Q x a W) : bodyPost P f Q x a w := h w rfl
end Go.Proofs.YtpffhoefmcpniaaGreatDoor

/- The ring, the two cells: literal. -/
namespace Go.Proofs.YtpffhoefmcpniaaGreatDoor
open Go.RowKit

attribute [local go_sem ↓] Go.wp_at_zero Go.wp_at_succ

set_option maxHeartbeats 2000000 in
theorem ring_any (w : World) : Calls Tryz.prog 27 #[] w fun e w' => ∃ A B C, e = .returned (.agg #[.slice A 3 3, .slice B 4 4, .slice C 3 3]) ∧ RdNet w' A B C 3 4 3 ringN ∧ Below w.heap.size w w' := by
  go_enter Tryz.func27, Tryz.ntmps27
  go_wp2_with fail
  (refine bodyPost_named ?_; intro W hW)
  have hB : Blk W w.heap.size 26 #[.slice (some ⟨w.heap.size + 1 + 1 + 1 + 1 + 1 + 1 + 1, 0, none⟩) 3 3, .slice (some ⟨w.heap.size + 1 + 1 + 1 + 1 + 1 + 1 + 1 + 1, 0, none⟩) 4 4, .slice (some ⟨w.heap.size + 1 + 1 + 1 + 1 + 1 + 1 + 1 + 1 + 1, 0, none⟩) 3 3] := by
    rw [hW]
    refine Blk.alloc ?_ _
    refine Blk.alloc ?_ _
    refine Blk.alloc ?_ _
    refine Blk.alloc ?_ _
    refine Blk.alloc ?_ _
    refine Blk.alloc ?_ _
    refine Blk.alloc ?_ _
    refine Blk.alloc ?_ _
    refine Blk.alloc ?_ _
    refine Blk.new' _ _ _ ?_
    first | with_unfolding_all rfl | (simp; done)
  have c0 := hB.cell 0
  have c1 := hB.cell 1
  have c2 := hB.cell 2
  simp only [List.getElem?_toArray, List.getElem?_cons_zero, List.getElem?_cons_succ] at c0 c1 c2
  refine bodyPost_ret (v := .agg #[.slice (some ⟨w.heap.size + 1 + 1 + 1 + 1 + 1 + 1 + 1, 0, none⟩) 3 3, .slice (some ⟨w.heap.size + 1 + 1 + 1 + 1 + 1 + 1 + 1 + 1, 0, none⟩) 4 4, .slice (some ⟨w.heap.size + 1 + 1 + 1 + 1 + 1 + 1 + 1 + 1 + 1, 0, none⟩) 3 3]) (by simp [results, Tryz.results27, go_sem, c0, c1, c2]) rfl ?_
  have b1 : Blk W (w.heap.size + 1) 2 #[.int .i64 2] := by
    rw [hW]
    refine Blk.alloc ?_ _
    refine Blk.alloc ?_ _
    refine Blk.alloc ?_ _
    refine Blk.alloc ?_ _
    refine Blk.alloc ?_ _
    refine Blk.alloc ?_ _
    refine Blk.alloc ?_ _
    refine Blk.alloc ?_ _
    refine Blk.new' _ _ _ ?_
    first | with_unfolding_all rfl | (simp; done)
  have b2 : Blk W (w.heap.size + 1 + 1 + 1) 2 #[.int .i64 0, .int .i64 1152921504606846976] := by
    rw [hW]
    refine Blk.alloc ?_ _
    refine Blk.alloc ?_ _
    refine Blk.alloc ?_ _
    refine Blk.alloc ?_ _
    refine Blk.alloc ?_ _
    refine Blk.alloc ?_ _
    refine Blk.new' _ _ _ ?_
    first | with_unfolding_all rfl | (simp; done)
  have b3 : Blk W (w.heap.size + 1 + 1 + 1 + 1 + 1) 2 #[.int .i64 1, .int .i64 5] := by
    rw [hW]
    refine Blk.alloc ?_ _
    refine Blk.alloc ?_ _
    refine Blk.alloc ?_ _
    refine Blk.alloc ?_ _
    refine Blk.new' _ _ _ ?_
    first | with_unfolding_all rfl | (simp; done)
  have b4 : Blk W (w.heap.size + 1 + 1 + 1 + 1 + 1 + 1 + 1) 64 #[.int .i64 0, .int .i64 0, .int .i64 1, .int .i64 10, .int .i64 0, .int .i64 2, .int .i64 5, .int .i64 8, .int .i64 0] := by
    rw [hW]
    refine Blk.alloc ?_ _
    refine Blk.alloc ?_ _
    refine Blk.new' _ _ _ ?_
    first | with_unfolding_all rfl | (simp; done)
  have b5 : Blk W (w.heap.size + 1 + 1 + 1 + 1 + 1 + 1 + 1 + 1) 115 #[.int .i64 0, .int .i64 1, .int .i64 10, .int .i64 1, .int .i64 2, .int .i64 20, .int .i64 2, .int .i64 0, .int .i64 30, .int .i64 1, .int .i64 0, .int .i64 40] := by
    rw [hW]
    refine Blk.alloc ?_ _
    refine Blk.new' _ _ _ ?_
    first | with_unfolding_all rfl | (simp; done)
  have b6 : Blk W (w.heap.size + 1 + 1 + 1 + 1 + 1 + 1 + 1 + 1 + 1) 61 #[.int .i64 1, .int .i64 1, .slice (some ⟨w.heap.size + 1, 0, none⟩) 1 1, .int .i64 2, .int .i64 1, .slice (some ⟨w.heap.size + 1 + 1 + 1, 0, none⟩) 2 2, .int .i64 1, .int .i64 2, .slice (some ⟨w.heap.size + 1 + 1 + 1 + 1 + 1, 0, none⟩) 2 2] := by
    rw [hW]
    refine Blk.new' _ _ _ ?_
    first | with_unfolding_all rfl | (simp; done)
  have hbl : Below w.heap.size w W := by rw [hW]; exact bELt
  exact ⟨_, _, _, rfl, ring_fact b1 b2 b3 b4 b5 b6, hbl⟩
end Go.Proofs.YtpffhoefmcpniaaGreatDoor

/- What known asks of the ring. -/
namespace Go.Proofs.YtpffhoefmcpniaaGreatDoor
open Go.RowKit

theorem natsOf_nats (l : List Nat) : natsOf (nats l) = l := by
  unfold natsOf nats
  rw [List.map_map]
  conv => rhs; rw [← List.map_id l]
  apply List.map_congr_left
  intro x _
  simp
/-- The cells of a level: none holds more than its bound. -/
theorem rows_cnt (N : NetD) {bs : List Nat} (hp : ∀ b ∈ bs, 1 ≤ b) : ∀ (i : Nat) l y, (rowsN N bs)[i]? = some l → (nats bs)[i]? = some y → ∀ x ∈ cntI l (mostN l).toNat, x ≤ y := by
  intro i l y hl hy x hx
  have hi : i < bs.length := by
    have := (List.getElem?_eq_some_iff.1 hl).1
    rwa [rowsN_len] at this
  rw [rowsN_get N bs i hi] at hl
  have hl := (Option.some.inj hl).symm
  have hbi : bs[i]? = some bs[i] := List.getElem?_eq_getElem hi
  have ey : y = ((bs[i] : Nat) : Int) := by
    simp only [nats, List.getElem?_map, hbi] at hy
    exact (Option.some.inj hy).symm
  have hd := downP_drop N hbi
  have hcv : Cov N.vs.length (downP N (bs.drop i)) := by rw [hd]; exact nxt_cov (downP_perm N _).1 (downP_perm N _).2
  have hrow : IsRow N.vs.length (downP N (bs.drop i)) l := by rw [hl]; exact rowN_is hcv
  rw [hrow.most hcv] at hx
  unfold cntI at hx
  obtain ⟨c, hc, rfl⟩ := List.mem_map.1 hx
  have hc : c < (downP N (bs.drop i)).length := by have := List.mem_range.1 hc; omega
  have hq := List.getElem?_eq_getElem hc
  rw [hrow.countP hcv hq, ey]
  have hm := List.getElem_mem hc
  have hle : ∀ q ∈ downP N (bs.drop i), q.length ≤ bs[i] := by rw [hd]; exact nxt_le N (hp _ (List.getElem_mem hi))
  have := hle _ hm
  omega
theorem ring_pcs : (pcs ringN 2 [0, 1, 2]).length = 2 := by
  have h2 : 2 ≤ ([0, 1, 2] : List Nat).length := by decide
  have h3 : ([0, 1, 2] : List Nat).length = 3 := rfl
  rw [pcs_two ringN (by decide) h2]
  have a1 := hlf_len ringN true h2
  have a2 := hlf_len ringN false h2
  rw [h3] at a1 a2
  rw [pcs_one ringN (by omega) (.inl (by omega)), pcs_one ringN (by omega) (.inl (by omega))]
  rfl
theorem ring_d3 : downP ringN [3] = [List.range 3] := by
  show nxt ringN 3 (allV 3) = _
  show pcs ringN 3 (List.range 3) ++ [] = _
  rw [pcs_one ringN (by decide) (.inl (by decide))]
  rfl
theorem ring_d1 : (downP ringN [1, 3]).length = 3 := by
  show (nxt ringN 1 (downP ringN [3])).length = 3
  exact nxt_ones (downP_perm ringN [3]).1 (downP_perm ringN [3]).2
theorem ring_row (bs : List Nat) (b : Nat) : mostN (rowN 3 (downP ringN (b :: bs))) = ((downP ringN (b :: bs)).length : Int) := by
  have hc := downP_cov ringN b bs
  exact (rowN_is hc).most hc
theorem ring_r0 : (rowsN ringN [1, 3])[0]? = some (rowN 3 (downP ringN [1, 3])) := rowsN_get ringN [1, 3] 0 (by decide)
theorem ring_r1 : (rowsN ringN [1, 3])[1]? = some (rowN 3 (downP ringN [3])) := rowsN_get ringN [1, 3] 1 (by decide)
theorem ring_c0 : mostN (rowN 3 (downP ringN [1, 3])) = 3 := by rw [ring_row, ring_d1]; rfl
theorem ring_c1 : mostN (rowN 3 (downP ringN [3])) = 1 := by rw [ring_row, ring_d3]; rfl
theorem rows_rng (N : NetD) (bs : List Nat) : ∀ l ∈ rowsN N bs, ∀ x ∈ l, 0 ≤ x ∧ x < N.vs.length := by
  intro l hl x hx
  by_cases h : 1 ≤ bs.length ∧ bs.length ≤ 6
  · have := (rows_partOk N h.1 h.2).lvl l hl
    exact ⟨this.lo x hx, this.hi x hx⟩
  · obtain ⟨i, hi, e⟩ := List.getElem_of_mem hl
    rw [rowsN_len] at hi
    have hg := rowsN_get N bs i hi
    have hcv : Cov N.vs.length (downP N (bs.drop i)) := by rw [downP_drop N (List.getElem?_eq_getElem hi)]; exact nxt_cov (downP_perm N _).1 (downP_perm N _).2
    have e2 : l = rowN N.vs.length (downP N (bs.drop i)) := by
      have := List.getElem?_eq_getElem (show i < (rowsN N bs).length by rw [rowsN_len]; exact hi)
      rw [hg, e] at this
      exact (Option.some.inj this).symm
    have hlv := (rowN_is hcv).lvl hcv
    rw [← e2] at hlv
    exact ⟨hlv.lo x hx, hlv.hi x hx⟩
end Go.Proofs.YtpffhoefmcpniaaGreatDoor

/- law14.known. -/
namespace Go.Proofs.YtpffhoefmcpniaaGreatDoor
open Go.RowKit

attribute [local go_sem ↓] Go.wp_at_zero Go.wp_at_succ

theorem k_vok : VrtOk ringN.vs.length (nats [0, 1, 2]) := by
  intro j hj
  rcases j with _ | _ | _ | j
  · exact ⟨0, rfl, by decide, by decide, fun y h => by simp at h⟩
  · exact ⟨1, rfl, by decide, by decide, fun y _ h => by cases h; decide⟩
  · exact ⟨2, rfl, by decide, by decide, fun y _ h => by cases h; decide⟩
  · simp [nats] at hj
    omega
theorem k_bok : BndOk (nats [1, 3]) := ⟨by decide, by decide, fun i hi => by
  rcases i with _ | _ | i
  · exact ⟨1, rfl, by decide, fun a h => absurd rfl h⟩
  · exact ⟨3, rfl, by decide, fun a _ h => by cases h; decide⟩
  · simp [nats] at hi
    omega⟩
theorem k_bbad : BndBad (nats [2, 2]) 1 1 := .inr (.inr ⟨by decide, by decide, 1, by decide, fun j hj => by
  obtain rfl : j = 0 := by omega
  exact ⟨2, rfl, by decide, fun a h => absurd rfl h⟩, fun ⟨b, h1, _, h3⟩ => by
  cases h1
  have := h3 2 (by decide) rfl
  revert this
  decide, rfl, rfl⟩)
theorem k_bnil : BndBad [] 0 1 := .inl ⟨rfl, rfl, rfl⟩
theorem k_vbad : VrtBad ringN.vs.length 5 6 (nats [1, 1]) 1 6 := ⟨by decide, fun j hj => by
  obtain rfl : j = 0 := by omega
  exact ⟨1, rfl, by decide, by decide, fun a h => absurd rfl h⟩, 1, rfl, .inr ⟨by decide, by decide, by decide, rfl, 1, rfl, by decide⟩⟩
set_option maxHeartbeats 8000000 in
set_option maxRecDepth 20000 in
theorem known14_ok (w : World) (hg : w.cell? ⟨0, 0, none⟩ = some errT) : Calls Tryz.prog 8 #[] w fun e w' => e = .returned (.bool true) ∧ Below w.heap.size w w' := by
  have HGE := Lib.hid hg
  clear hg
  go_enter Tryz.func8, Tryz.ntmps8
  go_wp2_with fail
  with_reducible refine (ring_any w).mono ?_
  rintro e w1 ⟨A, B, C, rfl, hN, hb1⟩
  have HM := Lib.hid (made8_ok A B C 3 4 3 3 4 3 ringN w1 hN ringN_ok)
  clear hN
  go_wp2_with fail
  with_reducible refine HM.out.mono ?_
  rintro e w2 ⟨g, rfl, hG, hb2⟩
  have HG2 := Lib.hid hG.rd
  have HB2 := Lib.hid (Bel.step hb1 hb2)
  clear hG hb1 hb2 HM
  go_wp2_with fail
  (refine calls_named ?_; intro w3 hw3)
  have hb3 : Below w2.heap.size w2 w3 := by rw [hw3]; exact bELt
  have h3 : RdI w3 (some ⟨w2.heap.size, 0, none⟩) 3 (nats [0, 1, 2]) := by rw [hw3]; exact (Blk.new w2 3 (ints (nats [0, 1, 2]))).rdI rfl
  have HP3 := Lib.hid (show Calls Tryz.prog 19 #[.pointer (some ⟨g, 0, none⟩), .slice (some ⟨w2.heap.size, 0, none⟩) 3 3, .int .i64 2] w3 (PcPost (pcs ringN 2 (natsOf (nats [0, 1, 2]))) w3) from nestPieces_ok g 2 3 3 ringN _ (nats [0, 1, 2]) w3 (HG2.out.below hb3) h3 k_vok (by omega) (by omega))
  have HB3 := Lib.hid (Bel.step HB2.out hb3)
  have HG3 := Lib.hid (HG2.out.below hb3)
  clear hw3 hb3 h3
  with_reducible refine HP3.out.mono ?_
  rintro e w4 ⟨A4, c4, he, _, _, _, hb4⟩
  rw [natsOf_nats, ring_pcs] at he
  subst he
  have HB4 := Lib.hid (Bel.step HB3.out hb4)
  have HG4 := Lib.hid (HG3.out.below hb4)
  clear hb4 HP3
  go_wp2_with fail
  (refine calls_named ?_; intro w5 hw5)
  have hb5 : Below w4.heap.size w4 w5 := by rw [hw5]; exact bELt
  have h5 : RdI w5 (some ⟨w4.heap.size, 0, none⟩) 2 (nats [1, 3]) := by rw [hw5]; exact (Blk.new w4 3 (ints (nats [1, 3]))).rdI rfl
  have HP5 := Lib.hid (nestBuild_ok g 2 2 ringN _ (nats [1, 3]) w5 (HG4.out.below hb5) h5 k_bok (by rw [natsOf_nats]; decide))
  have HB5 := Lib.hid (Bel.step HB4.out hb5)
  have HG5 := Lib.hid (HG4.out.below hb5)
  clear hw5 hb5 h5
  with_reducible refine HP5.out.mono ?_
  rintro e w6 ⟨Q, rfl, hT, hb6⟩
  rw [natsOf_nats] at hT
  have HB6 := Lib.hid (Bel.step HB5.out hb6)
  have HG6 := Lib.hid (HG5.out.below hb6)
  have HT6 := Lib.hid hT
  clear hb6 HP5 hT
  go_wp2_with fail
  (refine calls_named ?_; intro w7 hw7)
  have hb7 : Below w6.heap.size w6 w7 := by rw [hw7]; exact bELt
  have q7 : Blk w7 w6.heap.size 34 #[.slice Q 2 2] := by rw [hw7]; exact bLNt
  have h7 : RdI w7 (some ⟨w6.heap.size + 1, 0, none⟩) 2 (nats [2, 2]) := by
    have hb : Blk w7 (w6.heap.size + 1) 3 (ints (nats [2, 2])) := by rw [hw7]; exact bLNt
    exact hb.rdI rfl
  have HP7 := Lib.hid (nestBuild_bad g 2 2 _ (nats [2, 2]) 1 1 w7 h7 k_bbad)
  have HB7 := Lib.hid (Bel.step HB6.out hb7)
  have HG7 := Lib.hid (HG6.out.below hb7)
  have HT7 := Lib.hid (HT6.out.below hb7)
  have HQ7 := Lib.hid q7
  clear hw7 hb7 h7 q7
  with_reducible refine HP7.out.mono ?_
  rintro e w8 ⟨v8, rfl, hc8, hb8⟩
  obtain ⟨tv8, xv8, rfl⟩ := chain_not_nil hc8
  have HB8 := Lib.hid (Bel.step HB7.out hb8)
  have HG8 := Lib.hid (HG7.out.below hb8)
  have HT8 := Lib.hid (HT7.out.below hb8)
  have HQ8 := Lib.hid (HQ7.out.below hb8 HQ7.out.lt)
  have HC8 := Lib.hid hc8
  clear hb8 HP7 hc8
  go_wp2_with fail
  (refine calls_named ?_; intro w9 hw9)
  have hb9 : Below w8.heap.size w8 w9 := by rw [hw9]; exact bELt
  have h9 : RdI w9 (some ⟨w8.heap.size + 1, 0, none⟩) 2 (nats [1, 1]) := by
    have hb : Blk w9 (w8.heap.size + 1) 3 (ints (nats [1, 1])) := by rw [hw9]; exact bLNt
    exact hb.rdI rfl
  have HP9 := Lib.hid (show Calls Tryz.prog 19 #[.pointer (some ⟨g, 0, none⟩), .slice (some ⟨w8.heap.size + 1, 0, none⟩) 2 2, .int .i64 2] w9 _ from nestPieces_bad g 2 2 2 1 6 ringN _ (nats [1, 1]) w9 (HG8.out.below hb9) h9 k_vbad (by omega) (by omega))
  have HB9 := Lib.hid (Bel.step HB8.out hb9)
  have HT9 := Lib.hid (HT8.out.below hb9)
  have HQ9 := Lib.hid (HQ8.out.below hb9 HQ8.out.lt)
  have HC9 := Lib.hid (HC8.out.below hb9)
  clear hw9 hb9 h9
  with_reducible refine HP9.out.mono ?_
  rintro e wa ⟨va, rfl, hca, hba⟩
  obtain ⟨tva, xva, rfl⟩ := chain_not_nil hca
  have HBa := Lib.hid (Bel.step HB9.out hba)
  have HTa := Lib.hid (HT9.out.below hba)
  have HQa := Lib.hid (HQ9.out.below hba HQ9.out.lt)
  have HC8a := Lib.hid (HC9.out.below hba)
  have HCa := Lib.hid hca
  have d0 : wa.cell? ⟨w6.heap.size, 0, none⟩ = some (.slice Q 2 2) := by rw [HQa.out.cell]; rfl
  clear hba HP9 hca
  go_wp2_with fail
  (refine calls_named ?_; intro wb hwb)
  have hbb : Below wa.heap.size wa wb := by rw [hwb]; exact bELt
  have hbi : RdI wb (some ⟨wa.heap.size, 0, none⟩) 2 (nats [1, 3]) := by
    have hb : Blk wb wa.heap.size 3 (ints (nats [1, 3])) := by rw [hwb]; exact bLNt
    exact hb.rdI rfl
  have HPb := Lib.hid (show Calls Tryz.prog 18 #[.int .i64 3, .agg #[.slice Q 2 2], .slice (some ⟨wa.heap.size, 0, none⟩) 2 2] wb _ from partCheckB_ok Q _ 3 2 2 2 (rowsN ringN [1, 3]) (nats [1, 3]) wb (HTa.out.below hbb) (rows_partOk ringN (by decide) (by decide)) (by omega) hbi (rows_cnt ringN (by decide)))
  have HBb := Lib.hid (Bel.step HBa.out hbb)
  have HTb := Lib.hid (HTa.out.below hbb)
  have HQb := Lib.hid (HQa.out.below hbb HQa.out.lt)
  have HC8b := Lib.hid (HC8a.out.below hbb)
  have HCb := Lib.hid (HCa.out.below hbb)
  clear hwb hbb hbi d0
  with_reducible refine HPb.out.mono ?_
  rintro e wc ⟨rfl, hbc⟩
  have HBc := Lib.hid (Bel.step HBb.out hbc)
  have HTc := Lib.hid (HTb.out.below hbc)
  have HQc := Lib.hid (HQb.out.below hbc HQb.out.lt)
  have HC8c := Lib.hid (HC8b.out.below hbc)
  have HCc := Lib.hid (HCb.out.below hbc)
  have d0 : wc.cell? ⟨w6.heap.size, 0, none⟩ = some (.slice Q 2 2) := by rw [HQc.out.cell]; rfl
  have HK0 := Lib.hid (show Calls Tryz.prog 22 #[.agg #[.slice Q 2 2], .int .i64 1] wc _ from count_ok Q 2 2 0 (rowsN ringN [1, 3]) _ wc HTc.out ring_r0 (by omega) (fun x hx => by
    have h := rows_rng ringN [1, 3] _ (List.mem_of_getElem? ring_r0) x hx
    have h3 : ringN.vs.length = 3 := rfl
    omega))
  clear hbc HPb
  go_wp2_with fail
  with_reducible refine HK0.out.mono ?_
  rintro e wd ⟨rfl, hbd⟩
  rw [ring_c0]
  have HBd := Lib.hid (Bel.step HBc.out hbd)
  have HTd := Lib.hid (HTc.out.below hbd)
  have HQd := Lib.hid (HQc.out.below hbd HQc.out.lt)
  have HC8d := Lib.hid (HC8c.out.below hbd)
  have HCd := Lib.hid (HCc.out.below hbd)
  clear d0
  have d0 : wd.cell? ⟨w6.heap.size, 0, none⟩ = some (.slice Q 2 2) := by rw [HQd.out.cell]; rfl
  have HK1 := Lib.hid (show Calls Tryz.prog 22 #[.agg #[.slice Q 2 2], .int .i64 2] wd _ from count_ok Q 2 2 1 (rowsN ringN [1, 3]) _ wd HTd.out ring_r1 (by omega) (fun x hx => by
    have h := rows_rng ringN [1, 3] _ (List.mem_of_getElem? ring_r1) x hx
    have h3 : ringN.vs.length = 3 := rfl
    omega))
  clear hbd HK0
  go_wp2_with fail
  with_reducible refine HK1.out.mono ?_
  rintro e we ⟨rfl, hbe⟩
  rw [ring_c1]
  have HBe := Lib.hid (Bel.step HBd.out hbe)
  have HC8e := Lib.hid (HC8d.out.below hbe)
  have HCe := Lib.hid (HCd.out.below hbe)
  clear d0 hbe HK1
  go_wp2_with fail
  with_reducible refine (refAt_any (⟨#[110, 101, 115, 116]⟩ : ByteArray) 1 1 we).mono ?_
  rintro e wf ⟨_, rfl, ⟨A5, n5, m5, rfl, hr5, hn5⟩, hbf⟩
  have HBf := Lib.hid (Bel.step HBe.out hbf)
  have HCf := Lib.hid (HCe.out.below hbf)
  have HTL := Lib.hid (tells_any (.iface tv8 xv8) A5 n5 m5 _ 1 wf (HC8e.out.below hbf) hr5 (by omega) (Below.cellOf HBf.out (Nat.le_refl _) HGE.out) (by omega))
  clear hbf hr5
  go_wp2_with fail
  with_reducible refine HTL.out.mono ?_
  rintro e wg ⟨rfl, hbg⟩
  have HBg := Lib.hid (Bel.step HBf.out hbg)
  have HCg := Lib.hid (HCf.out.below hbg)
  clear hbg HTL
  go_wp2_with fail
  with_reducible refine (refAt_any (⟨#[118, 101, 114, 116]⟩ : ByteArray) 1 6 wg).mono ?_
  rintro e wh ⟨_, rfl, ⟨A6, n6, m6, rfl, hr6, hn6⟩, hbh⟩
  have HBh := Lib.hid (Bel.step HBg.out hbh)
  have HTL := Lib.hid (tells_any (.iface tva xva) A6 n6 m6 _ 6 wh (HCg.out.below hbh) hr6 (by omega) (Below.cellOf HBh.out (Nat.le_refl _) HGE.out) (by omega))
  clear hbh hr6
  go_wp2_with fail
  with_reducible refine HTL.out.mono ?_
  rintro e wi ⟨rfl, hbi⟩
  have HBi := Lib.hid (Bel.step HBh.out hbi)
  clear hbi HTL
  go_wp2_with fail
  with_reducible refine (nestCheck_bad none 0 0 [] 0 1 wi (Rds.rdI (l := []) (by simpa [icells] using (Own.nil wi 0 1 3).rds)) k_bnil).mono ?_
  rintro e wj ⟨vj, rfl, hcj, hbj⟩
  obtain ⟨tvj, xvj, rfl⟩ := chain_not_nil hcj
  have HBj := Lib.hid (Bel.step HBi.out hbj)
  have HCj := Lib.hid hcj
  clear hbj hcj
  go_wp2_with fail
  with_reducible refine (refAt_any (⟨#[110, 101, 115, 116]⟩ : ByteArray) 0 1 wj).mono ?_
  rintro e wk ⟨_, rfl, ⟨A7, n7, m7, rfl, hr7, hn7⟩, hbk⟩
  have HBk := Lib.hid (Bel.step HBj.out hbk)
  have HTL := Lib.hid (tells_any (.iface tvj xvj) A7 n7 m7 _ 1 wk (HCj.out.below hbk) hr7 (by omega) (Below.cellOf HBk.out (Nat.le_refl _) HGE.out) (by omega))
  clear hbk hr7
  go_wp2_with fail
  with_reducible refine HTL.out.mono ?_
  rintro e wl ⟨rfl, hbl⟩
  have HBl := Lib.hid (Bel.step HBk.out hbl)
  clear hbl HTL
  go_wp2_with fail
  go_ret
  exact ⟨rfl, HBl.out⟩
end Go.Proofs.YtpffhoefmcpniaaGreatDoor
