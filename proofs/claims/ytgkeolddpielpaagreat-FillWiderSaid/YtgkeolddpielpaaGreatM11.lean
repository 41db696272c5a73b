/- Parts of the proof: Pa, Gw, Rm, Ls. -/
import Derived.Test.YtgkeolddpielpaaGreatM10
/- Parts: numbers, row, Count. -/
namespace Go.Proofs.YtgkeolddpielpaaGreat
open Go.RowKit

attribute [local go_sem ↓] Go.wp_at_zero Go.wp_at_succ

theorem numbers_ok (Q : Option Addr) (L cq i : Nat) (ls : List (List Int)) (l : List Int) (w : World) (h : RdT w Q L ls) (hl : ls[i]? = some l) (hL : L ≤ 1000000) :
    Calls Tryz.prog 71 #[.agg #[.slice Q L cq], .int .i64 ((i : Int) + 1)] w fun e w' => ∃ A n c, e = .returned (.slice A n c) ∧ RdI w A n l ∧ n ≤ c ∧ c ≤ 9223372036854775807 ∧ Below w.heap.size w w' := by
  have hi : i < L := by rw [← h.1]; exact (List.getElem?_eq_some_iff.1 hl).1
  obtain ⟨b, o, A, n, c, l', rfl, hl', hc, hr, q1, q2⟩ := h.at_ hi
  rw [hl] at hl'
  cases hl'
  have HR := Lib.hid hr
  have i1 : (0 : Int) ≤ (i : Int) := by omega
  have i2 : (i : Int) < (L : Int) := by omega
  have i3 : ¬ ((i : Int) + 1 < 1) := by omega
  have i4 : ¬ ((i : Int) + 1 > (L : Int)) := by omega
  have i5 : (i : Int) + 1 - 1 = (i : Int) := by omega
  have hca := fun ob => Below.cellOf (show Below w.heap.size w (w.alloc ob) from bELt) (Nat.le_refl _) hc
  clear h hl hr hc
  go_enter Tryz.func71, Tryz.ntmps71
  go_wp2
  go_ret
  exact ⟨_, _, _, rfl, HR.out, q1, q2, bELt⟩
theorem row_ok (Q : Option Addr) (L cq i : Nat) (ls : List (List Int)) (l : List Int) (w : World) (h : RdT w Q L ls) (hl : ls[i]? = some l) (hL : L ≤ 1000000) :
    Calls Tryz.prog 115 #[.agg #[.slice Q L cq], .int .i64 ((i : Int) + 1)] w fun e w' => ∃ A n c, e = .returned (.slice A n c) ∧ RdI w A n l ∧ n ≤ c ∧ c ≤ 9223372036854775807 ∧ Below w.heap.size w w' := by
  have hi : i < L := by rw [← h.1]; exact (List.getElem?_eq_some_iff.1 hl).1
  obtain ⟨b, o, A, n, c, l', rfl, hl', hc, hr, q1, q2⟩ := h.at_ hi
  rw [hl] at hl'
  cases hl'
  have HR := Lib.hid hr
  have i1 : (0 : Int) ≤ (i : Int) := by omega
  have i2 : (i : Int) < (L : Int) := by omega
  have i3 : ¬ ((i : Int) + 1 < 1) := by omega
  have i4 : ¬ ((i : Int) + 1 > (L : Int)) := by omega
  have i5 : (i : Int) + 1 - 1 = (i : Int) := by omega
  have hca := fun ob => Below.cellOf (show Below w.heap.size w (w.alloc ob) from bELt) (Nat.le_refl _) hc
  clear h hl hr hc
  go_enter Tryz.func115, Tryz.ntmps115
  go_wp2
  go_ret
  exact ⟨_, _, _, rfl, HR.out, q1, q2, bELt⟩
theorem mostN_take_le (l : List Int) (k : Nat) : mostN (l.take k) ≤ mostN l := by
  by_cases h0 : 0 < mostN (l.take k)
  · obtain ⟨x, hx, e⟩ := mostN_mem h0
    have := lt_mostN (List.mem_of_mem_take hx)
    omega
  · have := mostN_nonneg l
    omega
theorem mostN_next {l : List Int} {k : Nat} {x : Int} (h : l[k]? = some x) : mostN (l.take (k + 1)) = max (mostN (l.take k)) (x + 1) := by
  rw [List.take_succ_eq_append_getElem (List.getElem?_eq_some_iff.1 h).1, (List.getElem?_eq_some_iff.1 h).2, mostN_app]
set_option maxHeartbeats 1000000 in
theorem count_ok (Q : Option Addr) (L cq i : Nat) (ls : List (List Int)) (l : List Int) (w : World) (h : RdT w Q L ls) (hl : ls[i]? = some l) (hL : L ≤ 1000000) (hb : ∀ x ∈ l, 0 ≤ x ∧ x ≤ 1000000) :
    Calls Tryz.prog 98 #[.agg #[.slice Q L cq], .int .i64 ((i : Int) + 1)] w fun e w' => e = .returned (.int .i64 (mostN l)) ∧ Below w.heap.size w w' := by
  have HN := Lib.hid (show ∀ V, Below w.heap.size w V → Calls Tryz.prog 71 #[.agg #[.slice Q L cq], .int .i64 ((i : Int) + 1)] V fun e w' => ∃ A n c, e = .returned (.slice A n c) ∧ RdI V A n l ∧ n ≤ c ∧ c ≤ 9223372036854775807 ∧ Below V.heap.size V w' from fun V hV => numbers_ok Q L cq i ls l V (h.below hV) hl hL)
  have HB := Lib.hid hb
  clear h hl hb
  go_enter Tryz.func98, Tryz.ntmps98
  go_wp2_with fail
  (refine calls_named ?_; intro w1 hw1)
  have hb1 : Below w.heap.size w w1 := by rw [hw1]; exact bELt
  clear hw1
  with_reducible refine (HN.out w1 hb1).mono ?_
  rintro e w2 ⟨A, n, c, rfl, hr, q1, q2, hb2⟩
  have hr2 := hr.below hb2
  have HLEN := Lib.hid hr.1
  have hbw2 := Bel.step hb1 hb2
  clear hr
  go_wp2_with fail
  go_loop [5, 12] (fun m q => ∃ k : Nat, k ≤ n ∧ q = .int .i64 k ∧ m = .int .i64 (mostN (l.take k))) (fun _ q => n - (intOf q).toNat)
  case atStart => exact ⟨0, Nat.zero_le _, rfl, rfl⟩
  case round =>
    obtain ⟨k, hk, rfl, rfl⟩ := hrel
    by_cases hlt : k < n
    · obtain ⟨b, o, x, rfl, hx, hc⟩ := hr2.at_ hlt
      have hxb := HB.out x (List.mem_of_getElem? hx)
      have HNX := Lib.hid (mostN_next hx)
      have i1 : (0 : Int) ≤ (k : Int) := by omega
      have i2 : (k : Int) < (n : Int) := by omega
      clear hx
      generalize mostN (l.take k) = m at *
      by_cases hge : x ≥ m
      · go_wp2_with fail
        go_round
        case rel => exact ⟨k + 1, by omega, by go_num, by rw [HNX.out, show max m (x + 1) = x + 1 by omega]⟩
        case measure => simp [intOf]; omega
      · go_wp2_with fail
        go_round
        case rel => exact ⟨k + 1, by omega, by go_num, by rw [HNX.out, show max m (x + 1) = m by omega]⟩
        case measure => simp [intOf]; omega
    · obtain rfl : n = k := by omega
      have HE := Lib.hid (show mostN (l.take n) = mostN l by rw [List.take_of_length_le (by rw [HLEN.out]; exact Nat.le_refl _)])
      go_wp2
      go_ret
      exact ⟨ret_int HE.out, hbw2⟩
end Go.Proofs.YtgkeolddpielpaaGreat

/- Cells' gates: rows of numbers in the cells of one block; which arcs cross; plain. -/
namespace Go.Proofs.YtgkeolddpielpaaGreat
open Go.RowKit

/-! Rows of ints, each of the call's own, as the cells of one block. -/
def IkG (t : TypeId) (W : World) (B g n : Nat) (ls : List (List Int)) : Prop :=
  ls.length = n ∧ g < B ∧ ∃ cs, Blk W g t cs ∧ cs.size = n ∧ (∀ (v : Nat) (l : List Int), ls[v]? = some l → ∃ A c, cs[v]? = some (.slice A l.length c) ∧ Own W B 3 1 A l.length c (icells l)) ∧
    ∀ (v v' : Nat) A m c A' m' c', v ≠ v' → cs[v]? = some (.slice A m c) → cs[v']? = some (.slice A' m' c') → Dj A A'
theorem IkG.start {t : TypeId} {W : World} {B g n : Nat} (hg : g < B) (h : Blk W g t (zeros (.slice none 0 0) n)) : IkG t W B g n (List.replicate n []) := by
  refine ⟨by simp, hg, _, h, by simp [zeros], fun v l hl => ?_, fun v v' A m c A' m' c' _ h1 _ => ?_⟩
  · obtain ⟨hv, e⟩ := List.getElem?_eq_some_iff.1 hl
    simp at e
    subst e
    refine ⟨none, 0, ?_, Own.nil _ _ _ _⟩
    simp at hv
    simp [zeros, hv]
  · have e := (Array.getElem?_eq_some_iff.1 h1).2
    simp [zeros] at e
    obtain ⟨rfl, _, _⟩ := e
    exact .inl rfl
theorem IkG.grown {t : TypeId} {W W' : World} {B g n : Nat} {r : Option Nat} {ls : List (List Int)} (h : IkG t W B g n ls) (hg : W.grownBy W' r) (hr : ∀ b, r = some b → b ≠ g ∧ b < B) : IkG t W' B g n ls := by
  obtain ⟨h1, h2, cs, h3, h4, h5, h6⟩ := h
  refine ⟨h1, h2, cs, h3.grown hg (fun e => (hr g e).1 rfl), h4, fun v l hl => ?_, h6⟩
  obtain ⟨A, c, k1, k2⟩ := h5 v l hl
  refine ⟨A, c, k1, k2.far hg ?_⟩
  cases hA : blkOf A with
  | none => exact .inl rfl
  | some b =>
    refine .inr (fun e => ?_)
    have h8 := (k2.lt b hA).1
    have h9 := (hr b e.symm).2
    omega
theorem IkG.below {t : TypeId} {W W' : World} {B g n : Nat} {ls : List (List Int)} (h : IkG t W B g n ls) (hb : Below W.heap.size W W') : IkG t W' B g n ls := by
  obtain ⟨h1, h2, cs, h3, h4, h5, h6⟩ := h
  exact ⟨h1, h2, cs, h3.below hb h3.lt, h4, fun v l hl => by
    obtain ⟨A, c, k1, k2⟩ := h5 v l hl
    exact ⟨A, c, k1, k2.below hb⟩, h6⟩
theorem IkG.row {t : TypeId} {W : World} {B g n u : Nat} {ls : List (List Int)} (h : IkG t W B g n ls) (hu : u < n) : ∃ A c l, ls[u]? = some l ∧ W.cell? ⟨g, u, none⟩ = some (.slice A l.length c) ∧ W.frozen? ⟨g, u, none⟩ = false ∧ Own W B 3 1 A l.length c (icells l) := by
  obtain ⟨h1, h2, cs, h3, h4, h5, h6⟩ := h
  have hl : ls[u]? = some ls[u] := List.getElem?_eq_getElem (by omega)
  obtain ⟨A, c, k1, k2⟩ := h5 u _ hl
  exact ⟨A, c, _, hl, by rw [h3.cell]; exact k1, h3.frozen u, k2⟩
theorem IkG.lt {t : TypeId} {W : World} {B g n : Nat} {ls : List (List Int)} (h : IkG t W B g n ls) : g < W.heap.size := by
  obtain ⟨_, _, cs, h3, _⟩ := h
  exact h3.lt
/-- One number more. -/
theorem IkG.push {t : TypeId} {W w' : World} {B g n u c c' : Nat} {A A' : Option Addr} {ls : List (List Int)} {l : List Int} {k : Int} (h : IkG t W B g n ls) (hl : ls[u]? = some l) (hc : W.cell? ⟨g, u, none⟩ = some (.slice A l.length c))
    (hown : Own w' B 3 1 A' (l.length + 1) c' (icells l ++ icells [k])) (hg : W.grownBy w' (blkOf A)) (hat : blkOf A' = blkOf A ∨ blkOf A' = some W.heap.size) :
    IkG t (w'.setCell ⟨g, u, none⟩ (.slice A' (l.length + 1) c')) B g n (ls.set u (l ++ [k])) := by
  obtain ⟨h1, h2, cs, h3, h4, h5, h6⟩ := h
  have hu := (List.getElem?_eq_some_iff.1 hl).1
  have hcs : cs[u]? = some (.slice A l.length c) := by rw [← h3.cell]; exact hc
  obtain ⟨A0, c0, k1, hown0⟩ := h5 u l hl
  rw [hcs] at k1
  cases k1
  have hgA : blkOf A ≠ some g := hown0.ne h2
  have hgA' : blkOf A' ≠ some g := hown.ne h2
  refine ⟨by rw [List.length_set]; exact h1, h2, _, (h3.grown hg hgA).set_ u (.slice A' (l.length + 1) c'), by simpa using h4, fun v l' hl' => ?_, fun v v' X m d X' m' d' hne e1 e2 => ?_⟩
  · by_cases e : u = v
    · subst e
      rw [List.getElem?_set_self hu] at hl'
      cases hl'
      refine ⟨A', c', by rw [Array.getElem?_setIfInBounds_self_of_lt (by omega), List.length_append]; rfl, ?_⟩
      rw [List.length_append, icells_app]
      exact hown.far (grownBy_set _ _ _ _) (.inr hgA')
    · rw [List.getElem?_set_ne e] at hl'
      obtain ⟨X, d, k1, k2⟩ := h5 v l' hl'
      refine ⟨X, d, by rw [Array.getElem?_setIfInBounds_ne e]; exact k1, (k2.far hg (h6 u v _ _ _ _ _ _ e hcs k1).far).far (grownBy_set _ _ _ _) (.inr (k2.ne h2))⟩
  · have old : ∀ v X m d, u ≠ v → cs[v]? = some (.slice X m d) → Dj A' X := fun v X m d hv e3 => by
      have hv2 := (Array.getElem?_eq_some_iff.1 e3).1
      obtain ⟨X0, d0, k1, k2⟩ := h5 v _ (List.getElem?_eq_getElem (show v < ls.length by omega))
      rw [e3] at k1
      cases k1
      exact (h6 u v _ _ _ _ _ _ hv hcs e3).next k2 hat
    by_cases a1 : u = v
    · subst a1
      rw [Array.getElem?_setIfInBounds_self_of_lt (by omega)] at e1
      cases e1
      rw [Array.getElem?_setIfInBounds_ne hne] at e2
      exact old v' X' m' d' hne e2
    · rw [Array.getElem?_setIfInBounds_ne a1] at e1
      by_cases a2 : u = v'
      · subst a2
        rw [Array.getElem?_setIfInBounds_self_of_lt (by omega)] at e2
        cases e2
        exact (old v X m d a1 e1).symm
      · rw [Array.getElem?_setIfInBounds_ne a2] at e2
        exact h6 v v' X m d X' m' d' hne e1 e2
theorem IkG.cellG {t : TypeId} {W w' : World} {B g n u : Nat} {r : Option Nat} {ls : List (List Int)} (h : IkG t W B g n ls) (hu : u < n) (hg : W.grownBy w' r) (hr : r ≠ some g) : ∃ v, w'.cell? ⟨g, u, none⟩ = some v ∧ w'.frozen? ⟨g, u, none⟩ = false := by
  obtain ⟨h1, h2, cs, h3, h4, h5, h6⟩ := h
  have hb := h3.grown hg hr
  exact ⟨_, by rw [hb.cell]; exact Array.getElem?_eq_getElem (by omega), hb.frozen u⟩
theorem IkG.rdT {t : TypeId} {W : World} {B g n : Nat} {ls : List (List Int)} (h : IkG t W B g n ls) : RdT W (some ⟨g, 0, none⟩) n ls := by
  obtain ⟨h1, h2, cs, h3, h4, h5, h6⟩ := h
  refine ⟨h1, fun i l hl => ?_⟩
  obtain ⟨A, c, k1, k2⟩ := h5 i l hl
  exact ⟨g, 0, A, l.length, c, rfl, by rw [Nat.zero_add, h3.cell]; exact k1, k2.rds.rdI, k2.cap, k2.capMax⟩
theorem IkG.rdM {t : TypeId} {W : World} {G : Nat → Prop} {B g n : Nat} {ls : List (List Int)} (h : IkG t W B g n ls) (hg : G g) (hB : ∀ b, B ≤ b → b < W.heap.size → G b) : RdT (msk W G) (some ⟨g, 0, none⟩) n ls := by
  obtain ⟨h1, h2, cs, h3, h4, h5, h6⟩ := h
  refine ⟨h1, fun i l hl => ?_⟩
  obtain ⟨A, c, k1, k2⟩ := h5 i l hl
  exact ⟨g, 0, A, l.length, c, rfl, msk_cell.2 ⟨hg, by rw [Nat.zero_add, h3.cell]; exact k1⟩, (k2.rds.rdI).msk (fun b hb => hB b (k2.lt b hb).1 (k2.lt b hb).2), k2.cap, k2.capMax⟩


/-! Arcs of a row that are marked. -/
def arcP (P : Tri → Bool) (l : List Tri) : List Int := (l.zipIdx.filter (fun p => P p.1)).map (fun p => (p.2 : Int))
theorem arcP_snoc (P : Tri → Bool) (l : List Tri) (a : Tri) : arcP P (l ++ [a]) = arcP P l ++ (if P a then [(l.length : Int)] else []) := by
  unfold arcP
  rw [List.zipIdx_append, List.filter_append, List.map_append]
  congr 1
  cases h : P a <;> simp [h]
theorem arcP_take {P : Tri → Bool} {l : List Tri} {a : Tri} {k : Nat} (h : l[k]? = some a) : arcP P (l.take (k + 1)) = arcP P (l.take k) ++ (if P a then [(k : Int)] else []) := by
  have hlt := (List.getElem?_eq_some_iff.1 h).1
  rw [List.take_succ_eq_append_getElem hlt, (List.getElem?_eq_some_iff.1 h).2, arcP_snoc, List.length_take, Nat.min_eq_left (by omega)]
theorem arcP_len (P : Tri → Bool) (l : List Tri) : (arcP P l).length ≤ l.length := by
  unfold arcP
  rw [List.length_map]
  refine Nat.le_trans (List.length_filter_le _ _) ?_
  simp
theorem mem_arcP {P : Tri → Bool} {l : List Tri} {x : Int} : x ∈ arcP P l ↔ ∃ (i : Nat) (a : Tri), x = (i : Int) ∧ l[i]? = some a ∧ P a = true := by
  unfold arcP
  simp only [List.mem_map, List.mem_filter]
  constructor
  · rintro ⟨⟨a, i⟩, ⟨h1, h2⟩, rfl⟩
    exact ⟨i, a, rfl, List.mem_zipIdx_iff_getElem?.1 h1, h2⟩
  · rintro ⟨i, a, rfl, h1, h2⟩
    exact ⟨(a, i), ⟨List.mem_zipIdx_iff_getElem?.2 h1, h2⟩, rfl⟩
theorem arcP_sorted (P : Tri → Bool) : ∀ l : List Tri, (arcP P l).Pairwise (· < ·) := by
  intro l
  unfold arcP
  rw [List.pairwise_map]
  refine List.Pairwise.filter _ ?_
  rw [List.pairwise_iff_getElem]
  intro i j hi hj hij
  simp
  exact hij
/-- The cell of a vertex. -/
def cellOf (l : List Int) (v : Int) : Int := l.getD v.toNat 0
theorem cellOf_nat {l : List Int} {v : Nat} {p : Int} (h : l[v]? = some p) : cellOf l (v : Int) = p := by
  unfold cellOf
  rw [Int.toNat_natCast, List.getD_eq_getElem?_getD, h]
  rfl
/-- Does an arc cross? -/
def crossB (l : List Int) (a : Tri) : Bool := cellOf l a.1 != cellOf l a.2.1
def crossL (ar : List Tri) (l : List Int) : List Int := arcP (crossB l) ar
/-- The cells of an arc's ends. -/
def toC (ar : List Tri) (l : List Int) (a : Int) : Int := cellOf l (ar.getD a.toNat (0, 0, 0)).2.1
def frC (ar : List Tri) (l : List Int) (a : Int) : Int := cellOf l (ar.getD a.toNat (0, 0, 0)).1
theorem toC_nat {ar : List Tri} {l : List Int} {a : Nat} {x : Tri} (h : ar[a]? = some x) : toC ar l (a : Int) = cellOf l x.2.1 := by
  unfold toC
  rw [Int.toNat_natCast, List.getD_eq_getElem?_getD, h]
  rfl
theorem frC_nat {ar : List Tri} {l : List Int} {a : Nat} {x : Tri} (h : ar[a]? = some x) : frC ar l (a : Int) = cellOf l x.1 := by
  unfold frC
  rw [Int.toNat_natCast, List.getD_eq_getElem?_getD, h]
  rfl
/-- Of each cell who enters, who leaves, side by side. -/
def gRows (t f : Int → Int) (X : List Int) (n : Nat) : List (List Int) := (List.range (n * 2)).map (fun i : Nat => if i % 2 = 0 then X.filter (fun a => t a == ((i / 2 : Nat) : Int)) else X.filter (fun a => f a == ((i / 2 : Nat) : Int)))
theorem gRows_len (t f : Int → Int) (X : List Int) (n : Nat) : (gRows t f X n).length = n * 2 := by simp [gRows]
theorem gRows_in {t f : Int → Int} {X : List Int} {n c : Nat} (h : c < n) : (gRows t f X n)[c * 2]? = some (X.filter (fun a => t a == (c : Int))) := by
  unfold gRows
  rw [List.getElem?_map, List.getElem?_range (by omega)]
  simp
theorem gRows_out {t f : Int → Int} {X : List Int} {n c : Nat} (h : c < n) : (gRows t f X n)[c * 2 + 1]? = some (X.filter (fun a => f a == (c : Int))) := by
  unfold gRows
  rw [List.getElem?_map, List.getElem?_range (by omega), Option.map_some, if_neg (by omega), show (c * 2 + 1) / 2 = c by omega]
theorem gRows_nil (t f : Int → Int) (n : Nat) : gRows t f [] n = List.replicate (n * 2) [] := by
  apply List.ext_getElem?
  intro i
  rcases Nat.lt_or_ge i (n * 2) with h | h
  · unfold gRows
    rw [List.getElem?_map, List.getElem?_range h]
    simp [h]
  · rw [List.getElem?_eq_none (by rw [gRows_len]; exact h), List.getElem?_eq_none (by simpa using h)]
theorem gRows_next {t f : Int → Int} {X : List Int} {n p q : Nat} {a : Int} (hp : t a = (p : Int)) (hq : f a = (q : Int)) (h1 : p < n) (h2 : q < n) :
    ((gRows t f X n).set (p * 2) (X.filter (fun a => t a == (p : Int)) ++ [a])).set (q * 2 + 1) (X.filter (fun a => f a == (q : Int)) ++ [a]) = gRows t f (X ++ [a]) n := by
  apply List.ext_getElem?
  intro i
  rcases Nat.lt_or_ge i (n * 2) with hi | hi
  · have hl : ∀ Y, (gRows t f Y n)[i]? = some (if i % 2 = 0 then Y.filter (fun a => t a == ((i / 2 : Nat) : Int)) else Y.filter (fun a => f a == ((i / 2 : Nat) : Int))) := fun Y => by
      unfold gRows
      rw [List.getElem?_map, List.getElem?_range hi]
      rfl
    by_cases e1 : q * 2 + 1 = i
    · subst e1
      rw [List.getElem?_set_self (by rw [List.length_set, gRows_len]; exact hi), gRows_out h2, List.filter_append]
      simp [hq]
    · rw [List.getElem?_set_ne e1]
      by_cases e2 : p * 2 = i
      · subst e2
        rw [List.getElem?_set_self (by rw [gRows_len]; exact hi), gRows_in h1, List.filter_append]
        simp [hp]
      · rw [List.getElem?_set_ne e2, hl, hl]
        congr 1
        rcases Nat.mod_two_eq_zero_or_one i with h0 | h0
        · rw [if_pos h0, if_pos h0, List.filter_append]
          simp [hp]
          omega
        · rw [if_neg (by omega), if_neg (by omega), List.filter_append]
          simp [hq]
          omega
  · rw [List.getElem?_eq_none (by rw [List.length_set, List.length_set, gRows_len]; exact hi), List.getElem?_eq_none (by rw [gRows_len]; exact hi)]

/-- Gates of a level: of each cell who enters, who leaves. -/
abbrev GateD := List Int × List Int
def RdC (w : World) (A : Option Addr) (n : Nat) (row : List GateD) : Prop :=
  row.length = n ∧ ∀ c x, row[c]? = some x → ∃ b o A1 n1 c1 A2 n2 c2, A = some ⟨b, o, none⟩ ∧ w.cell? ⟨b, o + c * 2, none⟩ = some (.slice A1 n1 c1) ∧ RdI w A1 n1 x.1 ∧ w.cell? ⟨b, o + c * 2 + 1, none⟩ = some (.slice A2 n2 c2) ∧ RdI w A2 n2 x.2 ∧ (n1 ≤ c1 ∧ c1 ≤ 9223372036854775807) ∧ n2 ≤ c2 ∧ c2 ≤ 9223372036854775807
theorem RdC.le {w w' : World} {A : Option Addr} {n : Nat} {row : List GateD} (h : RdC w A n row) (hl : Le w w') : RdC w' A n row :=
  ⟨h.1, fun c x hx => by
    obtain ⟨b, o, A1, n1, c1, A2, n2, c2, e, h1, h2, h3, h4, h5⟩ := h.2 c x hx
    exact ⟨b, o, A1, n1, c1, A2, n2, c2, e, hl _ _ h1, h2.le hl, hl _ _ h3, h4.le hl, h5⟩⟩
theorem RdC.at_ {w : World} {A : Option Addr} {n c : Nat} {row : List GateD} (h : RdC w A n row) (hc : c < n) : ∃ x b o A1 n1 c1 A2 n2 c2, row[c]? = some x ∧ A = some ⟨b, o, none⟩ ∧ w.cell? ⟨b, o + c * 2, none⟩ = some (.slice A1 n1 c1) ∧ RdI w A1 n1 x.1 ∧ w.cell? ⟨b, o + c * 2 + 1, none⟩ = some (.slice A2 n2 c2) ∧ RdI w A2 n2 x.2 ∧ (n1 ≤ c1 ∧ c1 ≤ 9223372036854775807) ∧ n2 ≤ c2 ∧ c2 ≤ 9223372036854775807 := by
  have hl : c < row.length := by rw [h.1]; exact hc
  obtain ⟨b, o, A1, n1, c1, A2, n2, c2, h1⟩ := h.2 c _ (List.getElem?_eq_getElem hl)
  exact ⟨_, b, o, A1, n1, c1, A2, n2, c2, List.getElem?_eq_getElem hl, h1⟩
def RdG (w : World) (A : Option Addr) (n : Nat) (gs : List (List GateD)) : Prop :=
  gs.length = n ∧ ∀ i row, gs[i]? = some row → ∃ b o A' n' c', A = some ⟨b, o, none⟩ ∧ w.cell? ⟨b, o + i, none⟩ = some (.slice A' n' c') ∧ RdC w A' n' row ∧ n' ≤ c' ∧ c' ≤ 9223372036854775807
theorem RdG.le {w w' : World} {A : Option Addr} {n : Nat} {gs : List (List GateD)} (h : RdG w A n gs) (hl : Le w w') : RdG w' A n gs :=
  ⟨h.1, fun i row hx => by
    obtain ⟨b, o, A', n', c', e, h1, h2, h3⟩ := h.2 i row hx
    exact ⟨b, o, A', n', c', e, hl _ _ h1, h2.le hl, h3⟩⟩
theorem RdG.at_ {w : World} {A : Option Addr} {n i : Nat} {gs : List (List GateD)} (h : RdG w A n gs) (hi : i < n) : ∃ row b o A' n' c', gs[i]? = some row ∧ A = some ⟨b, o, none⟩ ∧ w.cell? ⟨b, o + i, none⟩ = some (.slice A' n' c') ∧ RdC w A' n' row ∧ n' ≤ c' ∧ c' ≤ 9223372036854775807 := by
  have hl : i < gs.length := by rw [h.1]; exact hi
  obtain ⟨b, o, A', n', c', h1⟩ := h.2 i _ (List.getElem?_eq_getElem hl)
  exact ⟨_, b, o, A', n', c', List.getElem?_eq_getElem hl, h1⟩
/-- The gates of a net under cells. -/
def gateRow (ar : List Tri) (l : List Int) : List GateD := (List.range (mostN l).toNat).map (fun c : Nat => ((crossL ar l).filter (fun a => toC ar l a == (c : Int)), (crossL ar l).filter (fun a => frC ar l a == (c : Int))))
theorem gateRow_len (ar : List Tri) (l : List Int) : (gateRow ar l).length = (mostN l).toNat := by simp [gateRow]
theorem gateRow_get {ar : List Tri} {l : List Int} {c : Nat} (h : c < (mostN l).toNat) : (gateRow ar l)[c]? = some ((crossL ar l).filter (fun a => toC ar l a == (c : Int)), (crossL ar l).filter (fun a => frC ar l a == (c : Int))) := by
  unfold gateRow
  rw [List.getElem?_map, List.getElem?_range h]
  rfl
def gatesOf (ar : List Tri) (ls : List (List Int)) : List (List GateD) := ls.map (gateRow ar)
theorem IkG.rdC {t : TypeId} {W : World} {B g : Nat} {ar : List Tri} {l : List Int} (h : IkG t W B g ((mostN l).toNat * 2) (gRows (toC ar l) (frC ar l) (crossL ar l) (mostN l).toNat)) : RdC W (some ⟨g, 0, none⟩) (mostN l).toNat (gateRow ar l) := by
  refine ⟨gateRow_len ar l, fun c x hx => ?_⟩
  have hc : c < (mostN l).toNat := by rw [← gateRow_len ar l]; exact (List.getElem?_eq_some_iff.1 hx).1
  rw [gateRow_get hc] at hx
  cases hx
  obtain ⟨A1, c1, l1, e1, e2, _, e4⟩ := h.row (u := c * 2) (by omega)
  obtain ⟨A2, c2, l2, d1, d2, _, d4⟩ := h.row (u := c * 2 + 1) (by omega)
  rw [gRows_in hc] at e1
  rw [gRows_out hc] at d1
  cases e1
  cases d1
  exact ⟨g, 0, A1, _, c1, A2, _, c2, rfl, by rw [Nat.zero_add]; exact e2, e4.rds.rdI, by rw [Nat.zero_add]; exact d2, d4.rds.rdI, ⟨e4.cap, e4.capMax⟩, d4.cap, d4.capMax⟩
end Go.Proofs.YtgkeolddpielpaaGreat

/- rim.ends, rim.Cross. -/
namespace Go.Proofs.YtgkeolddpielpaaGreat
open Go.RowKit

attribute [local go_sem ↓] Go.wp_at_zero Go.wp_at_succ

set_option maxHeartbeats 1000000 in
theorem rimEnds_ok (g a : Nat) (N : NetD) (A : Option Addr) (n c u v : Nat) (z p q : Int) (l : List Int) (w : World) (h : RdGr w g N) (hr : RdI w A n l) (hx : N.ar[a]? = some ((u : Int), (v : Int), z)) (hu : u < n) (hv : v < n) (hp : l[u]? = some p) (hq : l[v]? = some q) :
    Calls Tryz.prog 138 #[.pointer (some ⟨g, 0, none⟩), .slice A n c, .int .i64 a] w fun e w' => e = .returned (.tuple #[.int .i64 p, .int .i64 q, .bool true]) ∧ ∃ k, w' = w.drewN k := by
  have HF := Lib.hid (gFrom_ok g a N _ w h hx)
  have HT := Lib.hid (gTo_ok g a N _ w h hx)
  obtain ⟨b, o, p', rfl, hp', cp⟩ := hr.at_ hu
  rw [hp] at hp'
  cases hp'
  obtain ⟨b', o', q', e, hq', cq⟩ := hr.at_ hv
  rw [hq] at hq'
  cases hq'
  cases e
  have i1 : (0 : Int) ≤ (u : Int) := by omega
  have i2 : (u : Int) < (n : Int) := by omega
  have i3 : (0 : Int) ≤ (v : Int) := by omega
  have i4 : (v : Int) < (n : Int) := by omega
  clear h hr hx hp hq
  go_enter Tryz.func138, Tryz.ntmps138
  go_wp2_with fail
  with_reducible refine HF.out.mono ?_
  rintro e w' ⟨rfl, rfl⟩
  go_wp2_with fail
  with_reducible refine HT.out.mono ?_
  rintro e w' ⟨rfl, rfl⟩
  go_wp2_with fail
  go_quiet (fail)
  go_wp2_with fail
  go_ret3
  exact ⟨rfl, _, rfl⟩

set_option maxHeartbeats 1000000 in
theorem cross_ok (g : Nat) (N : NetD) (Q : Option Addr) (L cq i n : Nat) (ls : List (List Int)) (l : List Int) (w : World) (h : RdGr w g N) (hN : NetOk N) (hq : RdT w Q L ls) (hl : ls[i]? = some l) (hL : L ≤ 1000000) (hlo : LvlOk n l) (hn : N.vs.length = n) :
    Calls Tryz.prog 99 #[.pointer (some ⟨g, 0, none⟩), .agg #[.slice Q L cq], .int .i64 ((i : Int) + 1)] w fun e w' => ∃ A c, e = .returned (.slice A (crossL N.ar l).length c) ∧ RdI w' A (crossL N.ar l).length (crossL N.ar l) ∧ (∀ b, blkOf A = some b → w.heap.size ≤ b ∧ b < w'.heap.size) ∧ Below w.heap.size w w' := by
  have HG := Lib.hid h
  have HN := Lib.hid hN
  have hn4 : n ≤ 4096 := by rw [← hn]; exact hN.lv
  have hm : N.ar.length ≤ 16384 := hN.la
  have HR := Lib.hid (show ∀ V, Below w.heap.size w V → Calls Tryz.prog 115 #[.agg #[.slice Q L cq], .int .i64 ((i : Int) + 1)] V fun e w' => ∃ A n c, e = .returned (.slice A n c) ∧ RdI V A n l ∧ n ≤ c ∧ c ≤ 9223372036854775807 ∧ Below V.heap.size V w' from fun V hV => row_ok Q L cq i ls l V (hq.below hV) hl hL)
  have HLO := Lib.hid hlo
  have HVN := Lib.hid hn
  clear h hN hq hl hlo hn
  go_enter Tryz.func99, Tryz.ntmps99
  go_wp2_with fail
  (refine calls_named ?_; intro w1 hw1)
  have hb1 : Below w.heap.size w w1 := by rw [hw1]; exact bELt
  clear hw1
  with_reducible refine (HR.out w1 hb1).mono ?_
  rintro e w2 ⟨A, n', c, rfl, hr, q1, q2, hb2⟩
  obtain rfl : n = n' := by rw [← hr.1]; exact HLO.out.len.symm
  have hr2 := hr.below hb2
  have hbw2 := Bel.step hb1 hb2
  have hz0 := hbw2.size
  clear hr hb2 hb1
  go_wp2_with fail
  with_reducible refine (gArcs_any g N w2 (HG.out.below hbw2)).mono ?_
  rintro e w' ⟨rfl, rfl⟩
  go_wp2_with fail
  generalize hM : N.ar.length = M at *
  have HM := Lib.hid hM
  clear hM
  go_loopw [8, 18] (fun x q W => Below w.heap.size w W ∧ w2.heap.size ≤ W.heap.size ∧ Below w2.heap.size w2 W ∧ ∃ (j : Nat) (X : Option Addr) (k cx : Nat), j ≤ M ∧ q = .int .i64 j ∧ x = .slice X k cx ∧ k ≤ j ∧ Own W w2.heap.size 3 1 X k cx (icells (arcP (crossB l) (N.ar.take j)))) (fun _ q _ => M - (intOf q).toNat)
  case atStart => exact ⟨hbw2, Nat.le_refl _, Below.refl _ _, 0, none, 0, 0, Nat.zero_le _, rfl, rfl, Nat.le_refl _, Own.nil _ _ _ _⟩
  case round =>
    clear hbw2
    obtain ⟨hbl, hsz, hb2r, j, X, k, cx, hj, rfl, rfl, hkj, hown⟩ := hrel
    by_cases hlt : j < M
    · obtain ⟨⟨fx, tx, zx⟩, hx⟩ : ∃ x, N.ar[j]? = some x := ⟨_, List.getElem?_eq_getElem (by rw [HM.out]; exact hlt)⟩
      have hok := HN.out.arcs _ (List.mem_of_getElem? hx)
      have f0 := hok.f0
      have f1 := hok.f1
      have g0 := hok.g0
      have g1 := hok.g1
      simp only at f0 f1 g0 g1
      rw [HVN.out] at f1 g1
      obtain ⟨u, rfl⟩ : ∃ u : Nat, fx = u := ⟨fx.toNat, by omega⟩
      obtain ⟨v, rfl⟩ : ∃ v : Nat, tx = v := ⟨tx.toNat, by omega⟩
      have hu : u < n := by omega
      have hv : v < n := by omega
      obtain ⟨p, hp⟩ : ∃ p, l[u]? = some p := ⟨_, List.getElem?_eq_getElem (by rw [HLO.out.len]; exact hu)⟩
      obtain ⟨q, hq⟩ : ∃ q, l[v]? = some q := ⟨_, List.getElem?_eq_getElem (by rw [HLO.out.len]; exact hv)⟩
      have HE := Lib.hid (rimEnds_ok g j N A n c u v zx p q l wr (HG.out.below hbl) (hr2.below hb2r) hx hu hv hp hq)
      have HNX := Lib.hid (arcP_take (P := crossB l) hx)
      have hcb : crossB l ((u : Int), (v : Int), zx) = (p != q) := by unfold crossB; simp only; rw [cellOf_nat hp, cellOf_nat hq]
      rw [hcb] at HNX
      clear hx hok hcb hp hq
      go_wp2_with fail
      with_reducible refine HE.out.mono ?_
      rintro e w4 ⟨rfl, nq, hw4⟩
      have hbl4 : Below w.heap.size w w4 := by rw [hw4]; exact below_drewN hbl _
      have hb24 : Below w2.heap.size w2 w4 := by rw [hw4]; exact below_drewN hb2r _
      have hsz4 : w2.heap.size ≤ w4.heap.size := by rw [hw4]; exact hsz
      have hown4 : Own w4 w2.heap.size 3 1 X k cx (icells (arcP (crossB l) (N.ar.take j))) := by rw [hw4]; exact hown
      clear hw4 hbl hb2r hsz hown HE
      by_cases hpq : p = q
      · have e1 : (p != q) = false := by simpa using hpq
        have e2 : (p == q) = true := by simpa using hpq
        rw [e1] at HNX
        clear hpq
        go_wp2_with fail
        go_roundw
        case rel => exact ⟨hbl4, hsz4, hb24, j + 1, X, k, cx, by omega, by go_num, rfl, by omega, by rw [HNX.out]; simpa using hown4⟩
        case measure => simp [intOf]; omega
      · have e1 : (p != q) = true := by simpa using hpq
        have e2 : (p == q) = false := by simpa using hpq
        rw [e1] at HNX
        clear hpq
        have hlt4 : Below w4.heap.size w4 (w4.alloc (.cells #[.int .i64 (j : Int)] 3)) := bELt
        have hownA := hown4.below hlt4
        have hrA : Rds (w4.alloc (.cells #[.int .i64 (j : Int)] 3)) 1 (some ⟨w4.heap.size, 0, none⟩) 1 (icells [(j : Int)]) := (Blk.new w4 3 (ints [(j : Int)])).rds rfl
        have hblA := Bel.step hbl4 hlt4
        have hb2A := Bel.step hb24 hlt4
        go_wp2_with (at_builtin; with_reducible refine wpList_app rfl (.tmp 35) (.tmp 37) 36 rfl 3 _ 1 8 infoInt Tryz.underlying36 rfl (by omega) rfl rfl hownA hrA (icells_one _) (by omega) (by omega) (by simp; omega) ?_)
        intro A' c' w' hown' hg _
        have hbl5 : Below w.heap.size w w' := Bel.grownOwn hblA hg (hownA.mono (by omega)) (by simp; omega)
        have hb25 : Below w2.heap.size w2 w' := Bel.grownOwn hb2A hg hownA (by simp; omega)
        have hsz5 : w2.heap.size ≤ w'.heap.size := hb25.size
        have HO := Lib.hid hown'
        clear hown' hg hownA hrA hblA hb2A hlt4 hown4 hbl4 hb24 hsz4
        go_wp2
        go_roundw
        case rel => exact ⟨hbl5, hsz5, hb25, j + 1, A', k + 1, c', by omega, by go_num, rfl, by omega, by rw [HNX.out, if_pos trivial, icells_app]; exact HO.out⟩
        case measure => simp [intOf]; omega
    · obtain rfl : M = j := by omega
      rw [List.take_of_length_le (by rw [HM.out]; exact Nat.le_refl _)] at hown
      have HO := Lib.hid hown
      have hk : k = (crossL N.ar l).length := by have := hown.1; rw [Nat.mul_one] at this; rw [← this]; simp [icells, crossL]
      have HK := Lib.hid hk
      clear hown hk
      go_wp2
      go_ret
      exact ⟨X, cx, by rw [← HK.out]; rfl, by rw [← HK.out]; exact HO.out.rds.rdI, fun b hb => by have := HO.out.lt b hb; omega, hbl⟩
end Go.Proofs.YtgkeolddpielpaaGreat

/- slices.Index, slices.Contains, slices.IsSorted, the document's Place. -/
namespace Go.Proofs.YtgkeolddpielpaaGreat
open Go.RowKit

attribute [local go_sem ↓] Go.wp_at_zero Go.wp_at_succ

/-- The first place of a number, or -1. -/
def plI (l : List Int) (v : Int) : Int := match l.findIdx? (· == v) with | some i => (i : Int) | none => -1
theorem plI_hit {l : List Int} {v : Int} {k : Nat} (h : l[k]? = some v) (hj : ∀ j x, j < k → l[j]? = some x → x ≠ v) : plI l v = k := by
  unfold plI
  have hk := (List.getElem?_eq_some_iff.1 h).1
  have : l.findIdx? (· == v) = some k := by
    rw [List.findIdx?_eq_some_iff_getElem]
    refine ⟨hk, by simpa using (List.getElem?_eq_some_iff.1 h).2, fun j hjk => ?_⟩
    simpa using hj j _ hjk (List.getElem?_eq_getElem (by omega))
  rw [this]
theorem plI_miss {l : List Int} {v : Int} (h : v ∉ l) : plI l v = -1 := by
  unfold plI
  have : l.findIdx? (· == v) = none := by
    rw [List.findIdx?_eq_none_iff]
    intro x hx
    have : x ≠ v := fun e => h (e ▸ hx)
    simpa using this
  rw [this]
theorem plI_mem {l : List Int} {v : Int} (h : v ∈ l) : ∃ k : Nat, plI l v = k ∧ l[k]? = some v := by
  obtain ⟨k, hk⟩ := List.getElem?_of_mem h
  unfold plI
  cases e : l.findIdx? (· == v) with
  | none =>
    rw [List.findIdx?_eq_none_iff] at e
    have := e v h
    simp at this
  | some i =>
    rw [List.findIdx?_eq_some_iff_getElem] at e
    obtain ⟨hi, h1, _⟩ := e
    refine ⟨i, rfl, ?_⟩
    rw [List.getElem?_eq_getElem hi]
    simpa using h1
theorem plI_nn {l : List Int} {v : Int} : 0 ≤ plI l v ↔ v ∈ l := by
  constructor
  · intro h
    by_cases hm : v ∈ l
    · exact hm
    · rw [plI_miss hm] at h
      omega
  · intro h
    obtain ⟨k, e, _⟩ := plI_mem h
    omega
set_option maxHeartbeats 400000 in
theorem index_any (A : Option Addr) (n c : Nat) (l : List Int) (v : Int) (w : World) (h : RdI w A n l) (hn : n ≤ 1000000000) :
    Calls Tryz.prog 160 #[.slice A n c, .int .i64 v] w fun e w' => e = .returned (.int .i64 (plI l v)) ∧ w = w' := by
  have HR := Lib.hid h
  have HL := Lib.hid h.1
  clear h
  go_enter Tryz.func160, Tryz.ntmps160
  go_wp2_with fail
  go_loop [8] (fun q => ∃ k : Nat, k ≤ n ∧ q = .int .i64 k ∧ ∀ j x, j < k → l[j]? = some x → x ≠ v) (fun q => n - (intOf q).toNat)
  case atStart => exact ⟨0, Nat.zero_le _, rfl, fun _ _ h => absurd h (Nat.not_lt_zero _)⟩
  case round =>
    obtain ⟨k, hk, rfl, hj⟩ := hrel
    have HJ := Lib.hid hj
    clear hj
    by_cases hlt : k < n
    · obtain ⟨b, o, x, rfl, hx, hc⟩ := HR.out.at_ hlt
      have i1 : (0 : Int) ≤ (k : Int) := by omega
      have i2 : (k : Int) < (n : Int) := by omega
      by_cases e : x = v
      · have HP := Lib.hid (plI_hit (e ▸ hx) HJ.out)
        have e1 : (x == v) = true := by simpa using e
        have e2 : (v == x) = true := by simpa using e.symm
        clear e hx
        go_wp2_with fail
        go_ret
        exact ⟨ret_int HP.out.symm, rfl⟩
      · have e1 : (x == v) = false := by simpa using e
        have e2 : (v == x) = false := by simpa using (fun h : v = x => e h.symm)
        have HX := Lib.hid hx
        have HE := Lib.hid e
        clear e hx
        go_wp2_with fail
        go_round
        case rel => exact ⟨k + 1, by omega, by go_num, fun j y hj hy => by
          by_cases ej : j = k
          · subst ej
            rw [HX.out] at hy
            cases hy
            exact HE.out
          · exact HJ.out j y (by omega) hy⟩
        case measure => simp [intOf]; omega
    · obtain rfl : n = k := by omega
      have HP := Lib.hid (plI_miss (l := l) (v := v) (fun hm => by
        obtain ⟨j, hj⟩ := List.getElem?_of_mem hm
        exact HJ.out j v (by rw [← HL.out]; exact (List.getElem?_eq_some_iff.1 hj).1) hj rfl))
      go_wp2_with fail
      go_ret
      exact ⟨ret_int HP.out.symm, rfl⟩
theorem contains_any (A : Option Addr) (n c : Nat) (l : List Int) (v : Int) (w : World) (h : RdI w A n l) (hn : n ≤ 1000000000) :
    Calls Tryz.prog 135 #[.slice A n c, .int .i64 v] w fun e w' => e = .returned (.bool (decide (v ∈ l))) ∧ w = w' := by
  have HI := Lib.hid (index_any A n c l v w h hn)
  have HD := Lib.hid (show decide ((0 : Int) ≤ plI l v) = decide (v ∈ l) by simp [plI_nn])
  clear h
  go_enter Tryz.func135, Tryz.ntmps135
  go_wp2_with fail
  with_reducible refine HI.out.mono ?_
  rintro e w' ⟨rfl, rfl⟩
  generalize plI l v = p at *
  go_wp2_with fail
  go_ret
  exact ⟨ret_bool (by rw [← HD.out]), rfl⟩
theorem less_any (a b : Int) (w : World) : Calls Tryz.prog 102 #[.int .i64 a, .int .i64 b] w fun e w' => e = .returned (.bool (decide (a < b))) ∧ w = w' := by
  go_enter Tryz.func102, Tryz.ntmps102
  go_wp2
  go_ret
  exact ⟨ret_bool (by simp), rfl⟩
/-- Does a row rise? -/
def sortedB (l : List Int) : Bool := decide (l.Pairwise (· ≤ ·))
theorem sortedB_of {l : List Int} (h : ∀ (j : Nat) (x y : Int), l[j]? = some x → l[j + 1]? = some y → x ≤ y) : sortedB l = true := by
  unfold sortedB
  rw [decide_eq_true_eq, List.pairwise_iff_getElem]
  intro i j hi hj hij
  obtain ⟨d, rfl⟩ : ∃ d, j = i + 1 + d := ⟨j - i - 1, by omega⟩
  clear hij
  induction d with
  | zero => exact h i _ _ (List.getElem?_eq_getElem hi) (List.getElem?_eq_getElem hj)
  | succ d ih =>
    have := ih (by omega)
    have := h (i + 1 + d) _ _ (List.getElem?_eq_getElem (by omega)) (List.getElem?_eq_getElem hj)
    omega
theorem sortedB_not {l : List Int} {j : Nat} {x y : Int} (h1 : l[j]? = some x) (h2 : l[j + 1]? = some y) (h : y < x) : sortedB l = false := by
  unfold sortedB
  rw [decide_eq_false_iff_not, List.pairwise_iff_getElem]
  intro hp
  have := hp j (j + 1) (List.getElem?_eq_some_iff.1 h1).1 (List.getElem?_eq_some_iff.1 h2).1 (by omega)
  rw [(List.getElem?_eq_some_iff.1 h1).2, (List.getElem?_eq_some_iff.1 h2).2] at this
  omega
set_option maxHeartbeats 1000000 in
theorem isSorted_any (A : Option Addr) (n c : Nat) (l : List Int) (w : World) (h : RdI w A n l) (hn : n ≤ 1000000000) :
    Calls Tryz.prog 136 #[.slice A n c] w fun e w' => e = .returned (.bool (sortedB l)) ∧ ∃ k, w' = w.drewN k := by
  have HR := Lib.hid h
  have HL := Lib.hid h.1
  clear h
  go_enter Tryz.func136, Tryz.ntmps136
  go_wp2_with fail
  go_loopw [3] (fun q W => (∃ d, W = w.drewN d) ∧ ∃ k : Int, -1 ≤ k ∧ k < n ∧ q = .int .i64 k ∧ ∀ (j : Nat) x y, k ≤ j → l[j]? = some x → l[j + 1]? = some y → x ≤ y) (fun q _ => (intOf q).toNat)
  case atStart =>
    refine ⟨⟨0, rfl⟩, (n : Int) - 1, by omega, by omega, rfl, fun j x y hj _ hy => ?_⟩
    have := (List.getElem?_eq_some_iff.1 hy).1
    rw [HL.out] at this
    omega
  case round =>
    obtain ⟨hd, k, hk, hkn, rfl, hj⟩ := hrel
    have HW := Lib.hid hd
    have HJ := Lib.hid hj
    clear hj
    by_cases hlt : 0 < k
    · obtain ⟨m, rfl⟩ : ∃ m : Nat, k = (m : Int) + 1 := ⟨(k - 1).toNat, by omega⟩
      obtain ⟨b, o, x, rfl, hx, hc⟩ := HR.out.at_ (show m < n by omega)
      obtain ⟨b', o', y, e, hy, hc'⟩ := HR.out.at_ (show m + 1 < n by omega)
      cases e
      have hc1 : wr.cell? ⟨b, o + m, none⟩ = some (.int .i64 x) := by obtain ⟨d, rfl⟩ := hd; exact hc
      have hc2 : wr.cell? ⟨b, o + (m + 1), none⟩ = some (.int .i64 y) := by obtain ⟨d, rfl⟩ := hd; exact hc'
      have HLS := Lib.hid (fun V => less_any y x V)
      have i1 : (0 : Int) ≤ (m : Int) := by omega
      have i2 : (m : Int) < (n : Int) := by omega
      have i3 : (m : Int) + 1 < (n : Int) := by omega
      have i4 : (0 : Int) ≤ (m : Int) + 1 := by omega
      have i5 : (m : Int) + 1 - 1 = (m : Int) := by omega
      have i6 : ((m : Int) + 1).toNat = m + 1 := by omega
      have HX := Lib.hid hx
      have HY := Lib.hid hy
      clear hx hy hc hc' hd
      by_cases hyx : y < x
      · have e1 : decide (y < x) = true := by simpa using hyx
        have HS := Lib.hid (sortedB_not HX.out HY.out hyx)
        go_wp2_with fail
        go_quiet ((go_at_call 102; exact quiet_left (HLS.out _)))
        go_wp2_with fail
        go_ret
        refine ⟨ret_bool HS.out.symm, ?_⟩
        obtain ⟨d, e⟩ := HW.out
        exact ⟨d + nq, by rw [e, World.drewN_drewN]⟩
      · have e1 : decide (y < x) = false := by simpa using hyx
        have HS := Lib.hid hyx
        go_wp2_with fail
        go_quiet ((go_at_call 102; exact quiet_left (HLS.out _)))
        go_wp2_with fail
        go_roundw
        case rel =>
          obtain ⟨d, e⟩ := HW.out
          refine ⟨⟨d + nq, by rw [e, World.drewN_drewN]⟩, (m : Int), by omega, by omega, by first | rfl | go_num, fun j x' y' hj h1 h2 => ?_⟩
          by_cases ej : j = m
          · subst ej
            rw [HX.out] at h1
            rw [HY.out] at h2
            cases h1
            cases h2
            have := HS.out
            omega
          · exact HJ.out j x' y' (by omega) h1 h2
        case measure => simp [intOf]
    · have HS := Lib.hid (sortedB_of (l := l) (fun j x y h1 h2 => HJ.out j x y (by omega) h1 h2))
      go_wp2_with fail
      go_ret
      exact ⟨ret_bool HS.out.symm, HW.out⟩
end Go.Proofs.YtgkeolddpielpaaGreat
