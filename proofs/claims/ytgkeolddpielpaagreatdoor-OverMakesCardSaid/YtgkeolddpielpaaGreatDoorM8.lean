/- Parts of the proof: Ga, Gw, Rm, Cl. -/
import Derived.Test.YtgkeolddpielpaaGreatDoorM7
import Derived.Lib.SliceRun
/- What a graph tells: how many, an arc's ends, its weight. -/
namespace Go.Proofs.YtgkeolddpielpaaGreatDoor
open Go.RowKit

attribute [local go_sem ↓] Go.wp_at_zero Go.wp_at_succ

theorem NetOk.arLe {N : NetD} (h : NetOk N) {m : Nat} (e : N.ar.length = m) : m ≤ 16384 := by rw [← e]; exact h.la
theorem gVerts_any (g : Nat) (N : NetD) (w : World) (h : RdGr w g N) : Calls Tryz.prog 35 #[.pointer (some ⟨g, 0, none⟩)] w fun e w' => e = .returned (.int .i64 (N.vs.length : Int)) ∧ w = w' := by
  obtain ⟨A, B, C, I, O, P, n, m, k, c, d, e, ci, co, cp, h⟩ := h
  have h0 := h.n0
  have HL := Lib.hid h.net.1.1
  clear h
  go_enter Tryz.func35, Tryz.ntmps35
  go_wp2
  go_ret
  exact ⟨ret_int (by rw [HL.out]), rfl⟩
theorem gArcs_any (g : Nat) (N : NetD) (w : World) (h : RdGr w g N) : Calls Tryz.prog 38 #[.pointer (some ⟨g, 0, none⟩)] w fun e w' => e = .returned (.int .i64 (N.ar.length : Int)) ∧ w = w' := by
  obtain ⟨A, B, C, I, O, P, n, m, k, c, d, e, ci, co, cp, h⟩ := h
  have h1 := h.n1
  have HL := Lib.hid h.net.2.1.1
  clear h
  go_enter Tryz.func38, Tryz.ntmps38
  go_wp2
  go_ret
  exact ⟨ret_int (by rw [HL.out]), rfl⟩
theorem gArc_ok (g : Nat) (N : NetD) (a : Int) (w : World) (h : RdGr w g N) (h0 : 0 ≤ a) (h1 : a < N.ar.length) : Calls Tryz.prog 69 #[.pointer (some ⟨g, 0, none⟩), .int .i64 a] w fun e w' => e = .returned (.bool true) ∧ w = w' := by
  obtain ⟨A, B, C, I, O, P, n, m, k, c, d, e, ci, co, cp, h⟩ := h
  have hn1 := h.n1
  have hl := h.net.2.1.1
  rw [hl] at h1
  clear hl h
  go_enter Tryz.func69, Tryz.ntmps69
  go_wp2
  go_ret
  exact ⟨ret_bool (by first | (simp; done) | (simp; omega)), rfl⟩
theorem gArc_no (g : Nat) (N : NetD) (a : Int) (w : World) (h : RdGr w g N) (h1 : ¬ (0 ≤ a ∧ a < N.ar.length)) : Calls Tryz.prog 69 #[.pointer (some ⟨g, 0, none⟩), .int .i64 a] w fun e w' => e = .returned (.bool false) ∧ w = w' := by
  obtain ⟨A, B, C, I, O, P, n, m, k, c, d, e, ci, co, cp, h⟩ := h
  have hn1 := h.n1
  have hl := h.net.2.1.1
  rw [hl] at h1
  clear hl h
  by_cases h0 : 0 ≤ a
  · have h2 : ¬ a < m := by omega
    clear h1
    go_enter Tryz.func69, Tryz.ntmps69
    go_wp2
    go_ret
    exact ⟨ret_bool (by first | (simp; done) | (simp; omega)), rfl⟩
  · clear h1
    go_enter Tryz.func69, Tryz.ntmps69
    go_wp2
    go_ret
    exact ⟨ret_bool (by first | (simp; done) | (simp; omega)), rfl⟩
theorem gFrom_ok (g a : Nat) (N : NetD) (x : Tri) (w : World) (h : RdGr w g N) (hx : N.ar[a]? = some x) : Calls Tryz.prog 39 #[.pointer (some ⟨g, 0, none⟩), .int .i64 a] w fun e w' => e = .returned (.int .i64 x.1) ∧ w = w' := by
  have HA := Lib.hid (show ∀ V, V = w → Calls Tryz.prog 69 #[.pointer (some ⟨g, 0, none⟩), .int .i64 a] V fun e w' => e = .returned (.bool true) ∧ V = w' from fun V e => e ▸ gArc_ok g N a w h (by omega) (by have := (List.getElem?_eq_some_iff.1 hx).1; omega))
  obtain ⟨A, B, C, I, O, P, n, m, k, c, d, e, ci, co, cp, h⟩ := h
  have hn1 := h.n1
  have ha : a < m := by have := (List.getElem?_eq_some_iff.1 hx).1; rw [h.net.2.1.1] at this; exact this
  have hm := h.ok.arLe h.net.2.1.1
  obtain ⟨b, o, x', y', z', rfl, hx', cx, cy, cz⟩ := h.net.2.1.at_ ha
  rw [hx] at hx'
  cases hx'
  have i1 : (0 : Int) ≤ (a : Int) := by omega
  have i2 : (a : Int) < (m : Int) := by omega
  clear hx h
  go_enter Tryz.func39, Tryz.ntmps39
  go_wp2_with fail
  with_reducible refine (HA.out _ rfl).mono ?_
  rintro e w' ⟨rfl, rfl⟩
  go_wp2
  go_ret
  exact ⟨rfl, rfl⟩
theorem gTo_ok (g a : Nat) (N : NetD) (x : Tri) (w : World) (h : RdGr w g N) (hx : N.ar[a]? = some x) : Calls Tryz.prog 40 #[.pointer (some ⟨g, 0, none⟩), .int .i64 a] w fun e w' => e = .returned (.int .i64 x.2.1) ∧ w = w' := by
  have HA := Lib.hid (show ∀ V, V = w → Calls Tryz.prog 69 #[.pointer (some ⟨g, 0, none⟩), .int .i64 a] V fun e w' => e = .returned (.bool true) ∧ V = w' from fun V e => e ▸ gArc_ok g N a w h (by omega) (by have := (List.getElem?_eq_some_iff.1 hx).1; omega))
  obtain ⟨A, B, C, I, O, P, n, m, k, c, d, e, ci, co, cp, h⟩ := h
  have hn1 := h.n1
  have ha : a < m := by have := (List.getElem?_eq_some_iff.1 hx).1; rw [h.net.2.1.1] at this; exact this
  have hm := h.ok.arLe h.net.2.1.1
  obtain ⟨b, o, x', y', z', rfl, hx', cx, cy, cz⟩ := h.net.2.1.at_ ha
  rw [hx] at hx'
  cases hx'
  have i1 : (0 : Int) ≤ (a : Int) := by omega
  have i2 : (a : Int) < (m : Int) := by omega
  clear hx h
  go_enter Tryz.func40, Tryz.ntmps40
  go_wp2_with fail
  with_reducible refine (HA.out _ rfl).mono ?_
  rintro e w' ⟨rfl, rfl⟩
  go_wp2
  go_ret
  exact ⟨rfl, rfl⟩
end Go.Proofs.YtgkeolddpielpaaGreatDoor

/- Cells' gates: rows of numbers in the cells of one block; which arcs cross; plain. -/
namespace Go.Proofs.YtgkeolddpielpaaGreatDoor
open Go.RowKit

/-! Rows of ints, each of the call's own, as the cells of one block. -/
def IkG (t : TypeId) (W : World) (B g n : Nat) (ls : List (List Int)) : Prop :=
  ls.length = n ∧ g < B ∧ ∃ cs, Blk W g t cs ∧ cs.size = n ∧ (∀ (v : Nat) (l : List Int), ls[v]? = some l → ∃ A c, cs[v]? = some (.slice A l.length c) ∧ Own W B 3 1 A l.length c (icells l)) ∧
    ∀ (v v' : Nat) A m c A' m' c', v ≠ v' → cs[v]? = some (.slice A m c) → cs[v']? = some (.slice A' m' c') → Dj A A'
theorem IkG.start {t : TypeId} {W : World} {B g n : Nat} (hg : g < B) (h : Blk W g t (zeros (.slice none 0 0) n)) : IkG t W B g n (List.replicate n []) := by
  refine ⟨by simp, hg, _, h, by simp [zeros], fun v l hl => ?_, fun v v' A m c A' m' c' _ h1 _ => ?_⟩
  · obtain ⟨hv, e⟩ := List.getElem?_eq_some_iff.1 hl
    simp at e
    subst e
    refine ⟨none, 0, ?_, Own.nil _ _ _ _⟩
    simp at hv
    simp [zeros, hv]
  · have e := (Array.getElem?_eq_some_iff.1 h1).2
    simp [zeros] at e
    obtain ⟨rfl, _, _⟩ := e
    exact .inl rfl
theorem IkG.grown {t : TypeId} {W W' : World} {B g n : Nat} {r : Option Nat} {ls : List (List Int)} (h : IkG t W B g n ls) (hg : W.grownBy W' r) (hr : ∀ b, r = some b → b ≠ g ∧ b < B) : IkG t W' B g n ls := by
  obtain ⟨h1, h2, cs, h3, h4, h5, h6⟩ := h
  refine ⟨h1, h2, cs, h3.grown hg (fun e => (hr g e).1 rfl), h4, fun v l hl => ?_, h6⟩
  obtain ⟨A, c, k1, k2⟩ := h5 v l hl
  refine ⟨A, c, k1, k2.far hg ?_⟩
  cases hA : blkOf A with
  | none => exact .inl rfl
  | some b =>
    refine .inr (fun e => ?_)
    have h8 := (k2.lt b hA).1
    have h9 := (hr b e.symm).2
    omega
theorem IkG.below {t : TypeId} {W W' : World} {B g n : Nat} {ls : List (List Int)} (h : IkG t W B g n ls) (hb : Below W.heap.size W W') : IkG t W' B g n ls := by
  obtain ⟨h1, h2, cs, h3, h4, h5, h6⟩ := h
  exact ⟨h1, h2, cs, h3.below hb h3.lt, h4, fun v l hl => by
    obtain ⟨A, c, k1, k2⟩ := h5 v l hl
    exact ⟨A, c, k1, k2.below hb⟩, h6⟩
theorem IkG.row {t : TypeId} {W : World} {B g n u : Nat} {ls : List (List Int)} (h : IkG t W B g n ls) (hu : u < n) : ∃ A c l, ls[u]? = some l ∧ W.cell? ⟨g, u, none⟩ = some (.slice A l.length c) ∧ W.frozen? ⟨g, u, none⟩ = false ∧ Own W B 3 1 A l.length c (icells l) := by
  obtain ⟨h1, h2, cs, h3, h4, h5, h6⟩ := h
  have hl : ls[u]? = some ls[u] := List.getElem?_eq_getElem (by omega)
  obtain ⟨A, c, k1, k2⟩ := h5 u _ hl
  exact ⟨A, c, _, hl, by rw [h3.cell]; exact k1, h3.frozen u, k2⟩
theorem IkG.lt {t : TypeId} {W : World} {B g n : Nat} {ls : List (List Int)} (h : IkG t W B g n ls) : g < W.heap.size := by
  obtain ⟨_, _, cs, h3, _⟩ := h
  exact h3.lt
/-- One number more. -/
theorem IkG.push {t : TypeId} {W w' : World} {B g n u c c' : Nat} {A A' : Option Addr} {ls : List (List Int)} {l : List Int} {k : Int} (h : IkG t W B g n ls) (hl : ls[u]? = some l) (hc : W.cell? ⟨g, u, none⟩ = some (.slice A l.length c))
    (hown : Own w' B 3 1 A' (l.length + 1) c' (icells l ++ icells [k])) (hg : W.grownBy w' (blkOf A)) (hat : blkOf A' = blkOf A ∨ blkOf A' = some W.heap.size) :
    IkG t (w'.setCell ⟨g, u, none⟩ (.slice A' (l.length + 1) c')) B g n (ls.set u (l ++ [k])) := by
  obtain ⟨h1, h2, cs, h3, h4, h5, h6⟩ := h
  have hu := (List.getElem?_eq_some_iff.1 hl).1
  have hcs : cs[u]? = some (.slice A l.length c) := by rw [← h3.cell]; exact hc
  obtain ⟨A0, c0, k1, hown0⟩ := h5 u l hl
  rw [hcs] at k1
  cases k1
  have hgA : blkOf A ≠ some g := hown0.ne h2
  have hgA' : blkOf A' ≠ some g := hown.ne h2
  refine ⟨by rw [List.length_set]; exact h1, h2, _, (h3.grown hg hgA).set_ u (.slice A' (l.length + 1) c'), by simpa using h4, fun v l' hl' => ?_, fun v v' X m d X' m' d' hne e1 e2 => ?_⟩
  · by_cases e : u = v
    · subst e
      rw [List.getElem?_set_self hu] at hl'
      cases hl'
      refine ⟨A', c', by rw [Array.getElem?_setIfInBounds_self_of_lt (by omega), List.length_append]; rfl, ?_⟩
      rw [List.length_append, icells_app]
      exact hown.far (grownBy_set _ _ _ _) (.inr hgA')
    · rw [List.getElem?_set_ne e] at hl'
      obtain ⟨X, d, k1, k2⟩ := h5 v l' hl'
      refine ⟨X, d, by rw [Array.getElem?_setIfInBounds_ne e]; exact k1, (k2.far hg (h6 u v _ _ _ _ _ _ e hcs k1).far).far (grownBy_set _ _ _ _) (.inr (k2.ne h2))⟩
  · have old : ∀ v X m d, u ≠ v → cs[v]? = some (.slice X m d) → Dj A' X := fun v X m d hv e3 => by
      have hv2 := (Array.getElem?_eq_some_iff.1 e3).1
      obtain ⟨X0, d0, k1, k2⟩ := h5 v _ (List.getElem?_eq_getElem (show v < ls.length by omega))
      rw [e3] at k1
      cases k1
      exact (h6 u v _ _ _ _ _ _ hv hcs e3).next k2 hat
    by_cases a1 : u = v
    · subst a1
      rw [Array.getElem?_setIfInBounds_self_of_lt (by omega)] at e1
      cases e1
      rw [Array.getElem?_setIfInBounds_ne hne] at e2
      exact old v' X' m' d' hne e2
    · rw [Array.getElem?_setIfInBounds_ne a1] at e1
      by_cases a2 : u = v'
      · subst a2
        rw [Array.getElem?_setIfInBounds_self_of_lt (by omega)] at e2
        cases e2
        exact (old v X m d a1 e1).symm
      · rw [Array.getElem?_setIfInBounds_ne a2] at e2
        exact h6 v v' X m d X' m' d' hne e1 e2
theorem IkG.cellG {t : TypeId} {W w' : World} {B g n u : Nat} {r : Option Nat} {ls : List (List Int)} (h : IkG t W B g n ls) (hu : u < n) (hg : W.grownBy w' r) (hr : r ≠ some g) : ∃ v, w'.cell? ⟨g, u, none⟩ = some v ∧ w'.frozen? ⟨g, u, none⟩ = false := by
  obtain ⟨h1, h2, cs, h3, h4, h5, h6⟩ := h
  have hb := h3.grown hg hr
  exact ⟨_, by rw [hb.cell]; exact Array.getElem?_eq_getElem (by omega), hb.frozen u⟩
theorem IkG.rdT {t : TypeId} {W : World} {B g n : Nat} {ls : List (List Int)} (h : IkG t W B g n ls) : RdT W (some ⟨g, 0, none⟩) n ls := by
  obtain ⟨h1, h2, cs, h3, h4, h5, h6⟩ := h
  refine ⟨h1, fun i l hl => ?_⟩
  obtain ⟨A, c, k1, k2⟩ := h5 i l hl
  exact ⟨g, 0, A, l.length, c, rfl, by rw [Nat.zero_add, h3.cell]; exact k1, k2.rds.rdI, k2.cap, k2.capMax⟩
theorem IkG.rdM {t : TypeId} {W : World} {G : Nat → Prop} {B g n : Nat} {ls : List (List Int)} (h : IkG t W B g n ls) (hg : G g) (hB : ∀ b, B ≤ b → b < W.heap.size → G b) : RdT (msk W G) (some ⟨g, 0, none⟩) n ls := by
  obtain ⟨h1, h2, cs, h3, h4, h5, h6⟩ := h
  refine ⟨h1, fun i l hl => ?_⟩
  obtain ⟨A, c, k1, k2⟩ := h5 i l hl
  exact ⟨g, 0, A, l.length, c, rfl, msk_cell.2 ⟨hg, by rw [Nat.zero_add, h3.cell]; exact k1⟩, (k2.rds.rdI).msk (fun b hb => hB b (k2.lt b hb).1 (k2.lt b hb).2), k2.cap, k2.capMax⟩


/-! Arcs of a row that are marked. -/
def arcP (P : Tri → Bool) (l : List Tri) : List Int := (l.zipIdx.filter (fun p => P p.1)).map (fun p => (p.2 : Int))
theorem arcP_snoc (P : Tri → Bool) (l : List Tri) (a : Tri) : arcP P (l ++ [a]) = arcP P l ++ (if P a then [(l.length : Int)] else []) := by
  unfold arcP
  rw [List.zipIdx_append, List.filter_append, List.map_append]
  congr 1
  cases h : P a <;> simp [h]
theorem arcP_take {P : Tri → Bool} {l : List Tri} {a : Tri} {k : Nat} (h : l[k]? = some a) : arcP P (l.take (k + 1)) = arcP P (l.take k) ++ (if P a then [(k : Int)] else []) := by
  have hlt := (List.getElem?_eq_some_iff.1 h).1
  rw [List.take_succ_eq_append_getElem hlt, (List.getElem?_eq_some_iff.1 h).2, arcP_snoc, List.length_take, Nat.min_eq_left (by omega)]
theorem arcP_len (P : Tri → Bool) (l : List Tri) : (arcP P l).length ≤ l.length := by
  unfold arcP
  rw [List.length_map]
  refine Nat.le_trans (List.length_filter_le _ _) ?_
  simp
theorem mem_arcP {P : Tri → Bool} {l : List Tri} {x : Int} : x ∈ arcP P l ↔ ∃ (i : Nat) (a : Tri), x = (i : Int) ∧ l[i]? = some a ∧ P a = true := by
  unfold arcP
  simp only [List.mem_map, List.mem_filter]
  constructor
  · rintro ⟨⟨a, i⟩, ⟨h1, h2⟩, rfl⟩
    exact ⟨i, a, rfl, List.mem_zipIdx_iff_getElem?.1 h1, h2⟩
  · rintro ⟨i, a, rfl, h1, h2⟩
    exact ⟨(a, i), ⟨List.mem_zipIdx_iff_getElem?.2 h1, h2⟩, rfl⟩
theorem arcP_sorted (P : Tri → Bool) : ∀ l : List Tri, (arcP P l).Pairwise (· < ·) := by
  intro l
  unfold arcP
  rw [List.pairwise_map]
  refine List.Pairwise.filter _ ?_
  rw [List.pairwise_iff_getElem]
  intro i j hi hj hij
  simp
  exact hij
/-- The cell of a vertex. -/
def cellOf (l : List Int) (v : Int) : Int := l.getD v.toNat 0
theorem cellOf_nat {l : List Int} {v : Nat} {p : Int} (h : l[v]? = some p) : cellOf l (v : Int) = p := by
  unfold cellOf
  rw [Int.toNat_natCast, List.getD_eq_getElem?_getD, h]
  rfl
/-- Does an arc cross? -/
def crossB (l : List Int) (a : Tri) : Bool := cellOf l a.1 != cellOf l a.2.1
def crossL (ar : List Tri) (l : List Int) : List Int := arcP (crossB l) ar
/-- The cells of an arc's ends. -/
def toC (ar : List Tri) (l : List Int) (a : Int) : Int := cellOf l (ar.getD a.toNat (0, 0, 0)).2.1
def frC (ar : List Tri) (l : List Int) (a : Int) : Int := cellOf l (ar.getD a.toNat (0, 0, 0)).1
theorem toC_nat {ar : List Tri} {l : List Int} {a : Nat} {x : Tri} (h : ar[a]? = some x) : toC ar l (a : Int) = cellOf l x.2.1 := by
  unfold toC
  rw [Int.toNat_natCast, List.getD_eq_getElem?_getD, h]
  rfl
theorem frC_nat {ar : List Tri} {l : List Int} {a : Nat} {x : Tri} (h : ar[a]? = some x) : frC ar l (a : Int) = cellOf l x.1 := by
  unfold frC
  rw [Int.toNat_natCast, List.getD_eq_getElem?_getD, h]
  rfl
/-- Of each cell who enters, who leaves, side by side. -/
def gRows (t f : Int → Int) (X : List Int) (n : Nat) : List (List Int) := (List.range (n * 2)).map (fun i : Nat => if i % 2 = 0 then X.filter (fun a => t a == ((i / 2 : Nat) : Int)) else X.filter (fun a => f a == ((i / 2 : Nat) : Int)))
theorem gRows_len (t f : Int → Int) (X : List Int) (n : Nat) : (gRows t f X n).length = n * 2 := by simp [gRows]
theorem gRows_in {t f : Int → Int} {X : List Int} {n c : Nat} (h : c < n) : (gRows t f X n)[c * 2]? = some (X.filter (fun a => t a == (c : Int))) := by
  unfold gRows
  rw [List.getElem?_map, List.getElem?_range (by omega)]
  simp
theorem gRows_out {t f : Int → Int} {X : List Int} {n c : Nat} (h : c < n) : (gRows t f X n)[c * 2 + 1]? = some (X.filter (fun a => f a == (c : Int))) := by
  unfold gRows
  rw [List.getElem?_map, List.getElem?_range (by omega), Option.map_some, if_neg (by omega), show (c * 2 + 1) / 2 = c by omega]
theorem gRows_nil (t f : Int → Int) (n : Nat) : gRows t f [] n = List.replicate (n * 2) [] := by
  apply List.ext_getElem?
  intro i
  rcases Nat.lt_or_ge i (n * 2) with h | h
  · unfold gRows
    rw [List.getElem?_map, List.getElem?_range h]
    simp [h]
  · rw [List.getElem?_eq_none (by rw [gRows_len]; exact h), List.getElem?_eq_none (by simpa using h)]
theorem gRows_next {t f : Int → Int} {X : List Int} {n p q : Nat} {a : Int} (hp : t a = (p : Int)) (hq : f a = (q : Int)) (h1 : p < n) (h2 : q < n) :
    ((gRows t f X n).set (p * 2) (X.filter (fun a => t a == (p : Int)) ++ [a])).set (q * 2 + 1) (X.filter (fun a => f a == (q : Int)) ++ [a]) = gRows t f (X ++ [a]) n := by
  apply List.ext_getElem?
  intro i
  rcases Nat.lt_or_ge i (n * 2) with hi | hi
  · have hl : ∀ Y, (gRows t f Y n)[i]? = some (if i % 2 = 0 then Y.filter (fun a => t a == ((i / 2 : Nat) : Int)) else Y.filter (fun a => f a == ((i / 2 : Nat) : Int))) := fun Y => by
      unfold gRows
      rw [List.getElem?_map, List.getElem?_range hi]
      rfl
    by_cases e1 : q * 2 + 1 = i
    · subst e1
      rw [List.getElem?_set_self (by rw [List.length_set, gRows_len]; exact hi), gRows_out h2, List.filter_append]
      simp [hq]
    · rw [List.getElem?_set_ne e1]
      by_cases e2 : p * 2 = i
      · subst e2
        rw [List.getElem?_set_self (by rw [gRows_len]; exact hi), gRows_in h1, List.filter_append]
        simp [hp]
      · rw [List.getElem?_set_ne e2, hl, hl]
        congr 1
        rcases Nat.mod_two_eq_zero_or_one i with h0 | h0
        · rw [if_pos h0, if_pos h0, List.filter_append]
          simp [hp]
          omega
        · rw [if_neg (by omega), if_neg (by omega), List.filter_append]
          simp [hq]
          omega
  · rw [List.getElem?_eq_none (by rw [List.length_set, List.length_set, gRows_len]; exact hi), List.getElem?_eq_none (by rw [gRows_len]; exact hi)]

/-- Gates of a level: of each cell who enters, who leaves. -/
abbrev GateD := List Int × List Int
def RdC (w : World) (A : Option Addr) (n : Nat) (row : List GateD) : Prop :=
  row.length = n ∧ ∀ c x, row[c]? = some x → ∃ b o A1 n1 c1 A2 n2 c2, A = some ⟨b, o, none⟩ ∧ w.cell? ⟨b, o + c * 2, none⟩ = some (.slice A1 n1 c1) ∧ RdI w A1 n1 x.1 ∧ w.cell? ⟨b, o + c * 2 + 1, none⟩ = some (.slice A2 n2 c2) ∧ RdI w A2 n2 x.2 ∧ (n1 ≤ c1 ∧ c1 ≤ 9223372036854775807) ∧ n2 ≤ c2 ∧ c2 ≤ 9223372036854775807
theorem RdC.le {w w' : World} {A : Option Addr} {n : Nat} {row : List GateD} (h : RdC w A n row) (hl : Le w w') : RdC w' A n row :=
  ⟨h.1, fun c x hx => by
    obtain ⟨b, o, A1, n1, c1, A2, n2, c2, e, h1, h2, h3, h4, h5⟩ := h.2 c x hx
    exact ⟨b, o, A1, n1, c1, A2, n2, c2, e, hl _ _ h1, h2.le hl, hl _ _ h3, h4.le hl, h5⟩⟩
theorem RdC.at_ {w : World} {A : Option Addr} {n c : Nat} {row : List GateD} (h : RdC w A n row) (hc : c < n) : ∃ x b o A1 n1 c1 A2 n2 c2, row[c]? = some x ∧ A = some ⟨b, o, none⟩ ∧ w.cell? ⟨b, o + c * 2, none⟩ = some (.slice A1 n1 c1) ∧ RdI w A1 n1 x.1 ∧ w.cell? ⟨b, o + c * 2 + 1, none⟩ = some (.slice A2 n2 c2) ∧ RdI w A2 n2 x.2 ∧ (n1 ≤ c1 ∧ c1 ≤ 9223372036854775807) ∧ n2 ≤ c2 ∧ c2 ≤ 9223372036854775807 := by
  have hl : c < row.length := by rw [h.1]; exact hc
  obtain ⟨b, o, A1, n1, c1, A2, n2, c2, h1⟩ := h.2 c _ (List.getElem?_eq_getElem hl)
  exact ⟨_, b, o, A1, n1, c1, A2, n2, c2, List.getElem?_eq_getElem hl, h1⟩
def RdG (w : World) (A : Option Addr) (n : Nat) (gs : List (List GateD)) : Prop :=
  gs.length = n ∧ ∀ i row, gs[i]? = some row → ∃ b o A' n' c', A = some ⟨b, o, none⟩ ∧ w.cell? ⟨b, o + i, none⟩ = some (.slice A' n' c') ∧ RdC w A' n' row ∧ n' ≤ c' ∧ c' ≤ 9223372036854775807
theorem RdG.le {w w' : World} {A : Option Addr} {n : Nat} {gs : List (List GateD)} (h : RdG w A n gs) (hl : Le w w') : RdG w' A n gs :=
  ⟨h.1, fun i row hx => by
    obtain ⟨b, o, A', n', c', e, h1, h2, h3⟩ := h.2 i row hx
    exact ⟨b, o, A', n', c', e, hl _ _ h1, h2.le hl, h3⟩⟩
theorem RdG.at_ {w : World} {A : Option Addr} {n i : Nat} {gs : List (List GateD)} (h : RdG w A n gs) (hi : i < n) : ∃ row b o A' n' c', gs[i]? = some row ∧ A = some ⟨b, o, none⟩ ∧ w.cell? ⟨b, o + i, none⟩ = some (.slice A' n' c') ∧ RdC w A' n' row ∧ n' ≤ c' ∧ c' ≤ 9223372036854775807 := by
  have hl : i < gs.length := by rw [h.1]; exact hi
  obtain ⟨b, o, A', n', c', h1⟩ := h.2 i _ (List.getElem?_eq_getElem hl)
  exact ⟨_, b, o, A', n', c', List.getElem?_eq_getElem hl, h1⟩
/-- The gates of a net under cells. -/
def gateRow (ar : List Tri) (l : List Int) : List GateD := (List.range (mostN l).toNat).map (fun c : Nat => ((crossL ar l).filter (fun a => toC ar l a == (c : Int)), (crossL ar l).filter (fun a => frC ar l a == (c : Int))))
theorem gateRow_len (ar : List Tri) (l : List Int) : (gateRow ar l).length = (mostN l).toNat := by simp [gateRow]
theorem gateRow_get {ar : List Tri} {l : List Int} {c : Nat} (h : c < (mostN l).toNat) : (gateRow ar l)[c]? = some ((crossL ar l).filter (fun a => toC ar l a == (c : Int)), (crossL ar l).filter (fun a => frC ar l a == (c : Int))) := by
  unfold gateRow
  rw [List.getElem?_map, List.getElem?_range h]
  rfl
def gatesOf (ar : List Tri) (ls : List (List Int)) : List (List GateD) := ls.map (gateRow ar)
theorem IkG.rdC {t : TypeId} {W : World} {B g : Nat} {ar : List Tri} {l : List Int} (h : IkG t W B g ((mostN l).toNat * 2) (gRows (toC ar l) (frC ar l) (crossL ar l) (mostN l).toNat)) : RdC W (some ⟨g, 0, none⟩) (mostN l).toNat (gateRow ar l) := by
  refine ⟨gateRow_len ar l, fun c x hx => ?_⟩
  have hc : c < (mostN l).toNat := by rw [← gateRow_len ar l]; exact (List.getElem?_eq_some_iff.1 hx).1
  rw [gateRow_get hc] at hx
  cases hx
  obtain ⟨A1, c1, l1, e1, e2, _, e4⟩ := h.row (u := c * 2) (by omega)
  obtain ⟨A2, c2, l2, d1, d2, _, d4⟩ := h.row (u := c * 2 + 1) (by omega)
  rw [gRows_in hc] at e1
  rw [gRows_out hc] at d1
  cases e1
  cases d1
  exact ⟨g, 0, A1, _, c1, A2, _, c2, rfl, by rw [Nat.zero_add]; exact e2, e4.rds.rdI, by rw [Nat.zero_add]; exact d2, d4.rds.rdI, ⟨e4.cap, e4.capMax⟩, d4.cap, d4.capMax⟩
end Go.Proofs.YtgkeolddpielpaaGreatDoor

/- rim.ends, rim.Cross. -/
namespace Go.Proofs.YtgkeolddpielpaaGreatDoor
open Go.RowKit

attribute [local go_sem ↓] Go.wp_at_zero Go.wp_at_succ

set_option maxHeartbeats 1000000 in
theorem rimEnds_ok (g a : Nat) (N : NetD) (A : Option Addr) (n c u v : Nat) (z p q : Int) (l : List Int) (w : World) (h : RdGr w g N) (hr : RdI w A n l) (hx : N.ar[a]? = some ((u : Int), (v : Int), z)) (hu : u < n) (hv : v < n) (hp : l[u]? = some p) (hq : l[v]? = some q) :
    Calls Tryz.prog 103 #[.pointer (some ⟨g, 0, none⟩), .slice A n c, .int .i64 a] w fun e w' => e = .returned (.tuple #[.int .i64 p, .int .i64 q, .bool true]) ∧ ∃ k, w' = w.drewN k := by
  have HF := Lib.hid (gFrom_ok g a N _ w h hx)
  have HT := Lib.hid (gTo_ok g a N _ w h hx)
  obtain ⟨b, o, p', rfl, hp', cp⟩ := hr.at_ hu
  rw [hp] at hp'
  cases hp'
  obtain ⟨b', o', q', e, hq', cq⟩ := hr.at_ hv
  rw [hq] at hq'
  cases hq'
  cases e
  have i1 : (0 : Int) ≤ (u : Int) := by omega
  have i2 : (u : Int) < (n : Int) := by omega
  have i3 : (0 : Int) ≤ (v : Int) := by omega
  have i4 : (v : Int) < (n : Int) := by omega
  clear h hr hx hp hq
  go_enter Tryz.func103, Tryz.ntmps103
  go_wp2_with fail
  with_reducible refine HF.out.mono ?_
  rintro e w' ⟨rfl, rfl⟩
  go_wp2_with fail
  with_reducible refine HT.out.mono ?_
  rintro e w' ⟨rfl, rfl⟩
  go_wp2_with fail
  go_quiet (fail)
  go_wp2_with fail
  go_ret3
  exact ⟨rfl, _, rfl⟩

set_option maxHeartbeats 1000000 in
theorem cross_ok (g : Nat) (N : NetD) (Q : Option Addr) (L cq i n : Nat) (ls : List (List Int)) (l : List Int) (w : World) (h : RdGr w g N) (hN : NetOk N) (hq : RdT w Q L ls) (hl : ls[i]? = some l) (hL : L ≤ 1000000) (hlo : LvlOk n l) (hn : N.vs.length = n) :
    Calls Tryz.prog 68 #[.pointer (some ⟨g, 0, none⟩), .agg #[.slice Q L cq], .int .i64 ((i : Int) + 1)] w fun e w' => ∃ A c, e = .returned (.slice A (crossL N.ar l).length c) ∧ RdI w' A (crossL N.ar l).length (crossL N.ar l) ∧ (∀ b, blkOf A = some b → w.heap.size ≤ b ∧ b < w'.heap.size) ∧ Below w.heap.size w w' := by
  have HG := Lib.hid h
  have HN := Lib.hid hN
  have hn4 : n ≤ 4096 := by rw [← hn]; exact hN.lv
  have hm : N.ar.length ≤ 16384 := hN.la
  have HR := Lib.hid (show ∀ V, Below w.heap.size w V → Calls Tryz.prog 102 #[.agg #[.slice Q L cq], .int .i64 ((i : Int) + 1)] V fun e w' => ∃ A n c, e = .returned (.slice A n c) ∧ RdI V A n l ∧ n ≤ c ∧ c ≤ 9223372036854775807 ∧ Below V.heap.size V w' from fun V hV => row_ok Q L cq i ls l V (hq.below hV) hl hL)
  have HLO := Lib.hid hlo
  have HVN := Lib.hid hn
  clear h hN hq hl hlo hn
  go_enter Tryz.func68, Tryz.ntmps68
  go_wp2_with fail
  (refine calls_named ?_; intro w1 hw1)
  have hb1 : Below w.heap.size w w1 := by rw [hw1]; exact (by repeat (first | exact Below.refl _ _ | assumption | apply Below.drew | apply below_drewN | apply Bel.alloc | (refine Bel.setCell_ ?_ ?_; rotate_left; omega) | (refine Bel.step ?_ (by assumption))))
  clear hw1
  with_reducible refine (HR.out w1 hb1).mono ?_
  rintro e w2 ⟨A, n', c, rfl, hr, q1, q2, hb2⟩
  obtain rfl : n = n' := by rw [← hr.1]; exact HLO.out.len.symm
  have hr2 := hr.below hb2
  have hbw2 := Bel.step hb1 hb2
  have hz0 := hbw2.size
  clear hr hb2 hb1
  go_wp2_with fail
  with_reducible refine (gArcs_any g N w2 (HG.out.below hbw2)).mono ?_
  rintro e w' ⟨rfl, rfl⟩
  go_wp2_with fail
  generalize hM : N.ar.length = M at *
  have HM := Lib.hid hM
  clear hM
  go_loopw [8, 18] (fun x q W => Below w.heap.size w W ∧ w2.heap.size ≤ W.heap.size ∧ Below w2.heap.size w2 W ∧ ∃ (j : Nat) (X : Option Addr) (k cx : Nat), j ≤ M ∧ q = .int .i64 j ∧ x = .slice X k cx ∧ k ≤ j ∧ Own W w2.heap.size 3 1 X k cx (icells (arcP (crossB l) (N.ar.take j)))) (fun _ q _ => M - (intOf q).toNat)
  case atStart => exact ⟨hbw2, Nat.le_refl _, Below.refl _ _, 0, none, 0, 0, Nat.zero_le _, rfl, rfl, Nat.le_refl _, Own.nil _ _ _ _⟩
  case round =>
    clear hbw2
    obtain ⟨hbl, hsz, hb2r, j, X, k, cx, hj, rfl, rfl, hkj, hown⟩ := hrel
    by_cases hlt : j < M
    · obtain ⟨⟨fx, tx, zx⟩, hx⟩ : ∃ x, N.ar[j]? = some x := ⟨_, List.getElem?_eq_getElem (by rw [HM.out]; exact hlt)⟩
      have hok := HN.out.arcs _ (List.mem_of_getElem? hx)
      have f0 := hok.f0
      have f1 := hok.f1
      have g0 := hok.g0
      have g1 := hok.g1
      simp only at f0 f1 g0 g1
      rw [HVN.out] at f1 g1
      obtain ⟨u, rfl⟩ : ∃ u : Nat, fx = u := ⟨fx.toNat, by omega⟩
      obtain ⟨v, rfl⟩ : ∃ v : Nat, tx = v := ⟨tx.toNat, by omega⟩
      have hu : u < n := by omega
      have hv : v < n := by omega
      obtain ⟨p, hp⟩ : ∃ p, l[u]? = some p := ⟨_, List.getElem?_eq_getElem (by rw [HLO.out.len]; exact hu)⟩
      obtain ⟨q, hq⟩ : ∃ q, l[v]? = some q := ⟨_, List.getElem?_eq_getElem (by rw [HLO.out.len]; exact hv)⟩
      have HE := Lib.hid (rimEnds_ok g j N A n c u v zx p q l wr (HG.out.below hbl) (hr2.below hb2r) hx hu hv hp hq)
      have HNX := Lib.hid (arcP_take (P := crossB l) hx)
      have hcb : crossB l ((u : Int), (v : Int), zx) = (p != q) := by unfold crossB; simp only; rw [cellOf_nat hp, cellOf_nat hq]
      rw [hcb] at HNX
      clear hx hok hcb hp hq
      go_wp2_with fail
      with_reducible refine HE.out.mono ?_
      rintro e w4 ⟨rfl, nq, hw4⟩
      have hbl4 : Below w.heap.size w w4 := by rw [hw4]; exact below_drewN hbl _
      have hb24 : Below w2.heap.size w2 w4 := by rw [hw4]; exact below_drewN hb2r _
      have hsz4 : w2.heap.size ≤ w4.heap.size := by rw [hw4]; exact hsz
      have hown4 : Own w4 w2.heap.size 3 1 X k cx (icells (arcP (crossB l) (N.ar.take j))) := by rw [hw4]; exact hown
      clear hw4 hbl hb2r hsz hown HE
      by_cases hpq : p = q
      · have e1 : (p != q) = false := by simpa using hpq
        have e2 : (p == q) = true := by simpa using hpq
        rw [e1] at HNX
        clear hpq
        go_wp2_with fail
        go_roundw
        case rel => exact ⟨hbl4, hsz4, hb24, j + 1, X, k, cx, by omega, by go_num, rfl, by omega, by rw [HNX.out]; simpa using hown4⟩
        case measure => simp [intOf]; omega
      · have e1 : (p != q) = true := by simpa using hpq
        have e2 : (p == q) = false := by simpa using hpq
        rw [e1] at HNX
        clear hpq
        have hlt4 : Below w4.heap.size w4 (w4.alloc (.cells #[.int .i64 (j : Int)] 3)) := (by repeat (first | exact Below.refl _ _ | assumption | apply Below.drew | apply below_drewN | apply Bel.alloc | (refine Bel.setCell_ ?_ ?_; rotate_left; omega) | (refine Bel.step ?_ (by assumption))))
        have hownA := hown4.below hlt4
        have hrA : Rds (w4.alloc (.cells #[.int .i64 (j : Int)] 3)) 1 (some ⟨w4.heap.size, 0, none⟩) 1 (icells [(j : Int)]) := (Blk.new w4 3 (ints [(j : Int)])).rds rfl
        have hblA := Bel.step hbl4 hlt4
        have hb2A := Bel.step hb24 hlt4
        go_wp2_with (at_builtin; with_reducible refine wpList_app rfl (.tmp 35) (.tmp 37) 47 rfl 3 _ 1 8 infoInt Tryz.underlying47 rfl (by omega) rfl rfl hownA hrA (icells_one _) (by omega) (by omega) (by simp; omega) ?_)
        intro A' c' w' hown' hg _
        have hbl5 : Below w.heap.size w w' := Bel.grownOwn hblA hg (hownA.mono (by omega)) (by simp; omega)
        have hb25 : Below w2.heap.size w2 w' := Bel.grownOwn hb2A hg hownA (by simp; omega)
        have hsz5 : w2.heap.size ≤ w'.heap.size := hb25.size
        have HO := Lib.hid hown'
        clear hown' hg hownA hrA hblA hb2A hlt4 hown4 hbl4 hb24 hsz4
        go_wp2
        go_roundw
        case rel => exact ⟨hbl5, hsz5, hb25, j + 1, A', k + 1, c', by omega, by go_num, rfl, by omega, by rw [HNX.out, if_pos trivial, icells_app]; exact HO.out⟩
        case measure => simp [intOf]; omega
    · obtain rfl : M = j := by omega
      rw [List.take_of_length_le (by rw [HM.out]; exact Nat.le_refl _)] at hown
      have HO := Lib.hid hown
      have hk : k = (crossL N.ar l).length := by have := hown.1; rw [Nat.mul_one] at this; rw [← this]; simp [icells, crossL]
      have HK := Lib.hid hk
      clear hown hk
      go_wp2
      go_ret
      exact ⟨X, cx, by rw [← HK.out]; rfl, by rw [← HK.out]; exact HO.out.rds.rdI, fun b hb => by have := HO.out.lt b hb; omega, hbl⟩
end Go.Proofs.YtgkeolddpielpaaGreatDoor

/- slices.Clone: of ints, of int64s, of vertices, of arcs. -/
namespace Go.Proofs.YtgkeolddpielpaaGreatDoor
open Go.RowKit

attribute [local go_sem ↓] Go.wp_at_zero Go.wp_at_succ

theorem infoClI : (Tryz.prog.info? 3).map (fun i => (i.zero, i.size, i.bytes)) = some (some (.int .i64 0), 1, 8) := by kernel_rfl
theorem infoClL : (Tryz.prog.info? 2).map (fun i => (i.zero, i.size, i.bytes)) = some (some (.int .i64 0), 1, 8) := by kernel_rfl
set_option maxHeartbeats 1000000 in
theorem cloneL_any (A : Option Addr) (n c : Nat) (xs : List Value) (w : World) (h : Rds w 1 A n xs) (h1 : ∀ u ∈ xs, u.oneCell' = true) (hn : n ≤ 1000000000) :
    Calls Tryz.prog 96 #[.slice A n c] w fun e w' => ∃ A' c', e = .returned (.slice A' n c') ∧ Own w' w.heap.size 2 1 A' n c' xs ∧ Below w.heap.size w w' := by
  have q22 : ∀ (w : World) (a : Option Addr) (n c n' c' : Nat), (binOp .eql 115 (.slice a n c) (.slice none n' c')).run Tryz.prog w = .ok (.bool a.isNone) w := fun w a n c n' c' => Lib.run_eql_slice_nil w _ _ a n c n' c' Tryz.underlying115
  cases A with
  | none =>
    have hl : xs = [] := by
      cases hl : xs with
      | nil => rfl
      | cons p t =>
        obtain ⟨b, o, e, _⟩ := h.2 0 p (by rw [hl]; rfl)
        cases e
    subst hl
    have h0 : n = 0 := by have := h.1; simp at this; omega
    subst h0
    go_enter Tryz.func96, Tryz.ntmps96
    go_wp2
    go_ret
    exact ⟨none, 0, rfl, Own.nil _ _ _ _, (by repeat (first | exact Below.refl _ _ | assumption | apply Below.drew | apply below_drewN | apply Bel.alloc | (refine Bel.setCell_ ?_ ?_; rotate_left; omega) | (refine Bel.step ?_ (by assumption))))⟩
  | some a =>
    have hb1 : ∀ o, Below w.heap.size w (w.alloc o) := fun o => (Below.refl _ _).alloc (Nat.le_refl _) o
    have hown0 : Own (w.alloc (.cells #[] 2)) w.heap.size 2 1 (some ⟨w.heap.size, 0, none⟩) 0 0 [] := Own.lit w #[] 0 (Nat.le_refl _) (by omega) rfl
    go_enter Tryz.func96, Tryz.ntmps96
    go_wp2_with (at_builtin; with_reducible refine wpList_app rfl (.tmp 5) (.tmp 6) 115 rfl 2 _ 1 8 infoClL Tryz.underlying115 rfl (by omega) (B := w.heap.size) rfl rfl hown0 (h.below (hb1 _)) h1 (by omega) (by omega) (by simp) ?_)
    intro A' c' w' hown hg _
    have hb2 : Below w.heap.size w w' := Bel.grownOwn (hb1 _) hg hown0 (by simp)
    try simp only [Nat.zero_add, List.nil_append] at hown
    have HO := Lib.hid hown
    clear hown hg
    go_wp2
    go_ret
    exact ⟨_, _, rfl, HO.out, hb2⟩
theorem infoClV : (Tryz.prog.info? 127).map (fun i => (i.zero, i.size, i.bytes)) = some (some (.agg #[.int .i64 0, .int .i64 0, .int .i64 0]), 3, 24) := by kernel_rfl
set_option maxHeartbeats 1000000 in
theorem cloneV_any (A : Option Addr) (n c : Nat) (xs : List Value) (w : World) (h : Rds w 3 A n xs) (h1 : ∀ u ∈ xs, u.oneCell' = true) (hn : n ≤ 1000000000) :
    Calls Tryz.prog 97 #[.slice A n c] w fun e w' => ∃ A' c', e = .returned (.slice A' n c') ∧ Own w' w.heap.size 127 3 A' n c' xs ∧ Below w.heap.size w w' := by
  have q22 : ∀ (w : World) (a : Option Addr) (n c n' c' : Nat), (binOp .eql 79 (.slice a n c) (.slice none n' c')).run Tryz.prog w = .ok (.bool a.isNone) w := fun w a n c n' c' => Lib.run_eql_slice_nil w _ _ a n c n' c' Tryz.underlying79
  cases A with
  | none =>
    have hl : xs = [] := by
      cases hl : xs with
      | nil => rfl
      | cons p t =>
        obtain ⟨b, o, e, _⟩ := h.2 0 p (by rw [hl]; rfl)
        cases e
    subst hl
    have h0 : n = 0 := by have := h.1; simp at this; omega
    subst h0
    go_enter Tryz.func97, Tryz.ntmps97
    go_wp2
    go_ret
    exact ⟨none, 0, rfl, Own.nil _ _ _ _, (by repeat (first | exact Below.refl _ _ | assumption | apply Below.drew | apply below_drewN | apply Bel.alloc | (refine Bel.setCell_ ?_ ?_; rotate_left; omega) | (refine Bel.step ?_ (by assumption))))⟩
  | some a =>
    have hb1 : ∀ o, Below w.heap.size w (w.alloc o) := fun o => (Below.refl _ _).alloc (Nat.le_refl _) o
    have hown0 : Own (w.alloc (.cells #[] 127)) w.heap.size 127 3 (some ⟨w.heap.size, 0, none⟩) 0 0 [] := Own.lit w #[] 0 (Nat.le_refl _) (by omega) rfl
    go_enter Tryz.func97, Tryz.ntmps97
    go_wp2_with (at_builtin; with_reducible refine wpList_app rfl (.tmp 5) (.tmp 6) 79 rfl 127 _ 3 24 infoClV Tryz.underlying79 rfl (by omega) (B := w.heap.size) rfl rfl hown0 (h.below (hb1 _)) h1 (by omega) (by omega) (by simp) ?_)
    intro A' c' w' hown hg _
    have hb2 : Below w.heap.size w w' := Bel.grownOwn (hb1 _) hg hown0 (by simp)
    try simp only [Nat.zero_add, List.nil_append] at hown
    have HO := Lib.hid hown
    clear hown hg
    go_wp2
    go_ret
    exact ⟨_, _, rfl, HO.out, hb2⟩
theorem infoClA : (Tryz.prog.info? 128).map (fun i => (i.zero, i.size, i.bytes)) = some (some (.agg #[.int .i64 0, .int .i64 0, .int .i64 0]), 3, 24) := by kernel_rfl
set_option maxHeartbeats 1000000 in
theorem cloneA_any (A : Option Addr) (n c : Nat) (xs : List Value) (w : World) (h : Rds w 3 A n xs) (h1 : ∀ u ∈ xs, u.oneCell' = true) (hn : n ≤ 1000000000) :
    Calls Tryz.prog 98 #[.slice A n c] w fun e w' => ∃ A' c', e = .returned (.slice A' n c') ∧ Own w' w.heap.size 128 3 A' n c' xs ∧ Below w.heap.size w w' := by
  have q22 : ∀ (w : World) (a : Option Addr) (n c n' c' : Nat), (binOp .eql 80 (.slice a n c) (.slice none n' c')).run Tryz.prog w = .ok (.bool a.isNone) w := fun w a n c n' c' => Lib.run_eql_slice_nil w _ _ a n c n' c' Tryz.underlying80
  cases A with
  | none =>
    have hl : xs = [] := by
      cases hl : xs with
      | nil => rfl
      | cons p t =>
        obtain ⟨b, o, e, _⟩ := h.2 0 p (by rw [hl]; rfl)
        cases e
    subst hl
    have h0 : n = 0 := by have := h.1; simp at this; omega
    subst h0
    go_enter Tryz.func98, Tryz.ntmps98
    go_wp2
    go_ret
    exact ⟨none, 0, rfl, Own.nil _ _ _ _, (by repeat (first | exact Below.refl _ _ | assumption | apply Below.drew | apply below_drewN | apply Bel.alloc | (refine Bel.setCell_ ?_ ?_; rotate_left; omega) | (refine Bel.step ?_ (by assumption))))⟩
  | some a =>
    have hb1 : ∀ o, Below w.heap.size w (w.alloc o) := fun o => (Below.refl _ _).alloc (Nat.le_refl _) o
    have hown0 : Own (w.alloc (.cells #[] 128)) w.heap.size 128 3 (some ⟨w.heap.size, 0, none⟩) 0 0 [] := Own.lit w #[] 0 (Nat.le_refl _) (by omega) rfl
    go_enter Tryz.func98, Tryz.ntmps98
    go_wp2_with (at_builtin; with_reducible refine wpList_app rfl (.tmp 5) (.tmp 6) 80 rfl 128 _ 3 24 infoClA Tryz.underlying80 rfl (by omega) (B := w.heap.size) rfl rfl hown0 (h.below (hb1 _)) h1 (by omega) (by omega) (by simp) ?_)
    intro A' c' w' hown hg _
    have hb2 : Below w.heap.size w w' := Bel.grownOwn (hb1 _) hg hown0 (by simp)
    try simp only [Nat.zero_add, List.nil_append] at hown
    have HO := Lib.hid hown
    clear hown hg
    go_wp2
    go_ret
    exact ⟨_, _, rfl, HO.out, hb2⟩
end Go.Proofs.YtgkeolddpielpaaGreatDoor
