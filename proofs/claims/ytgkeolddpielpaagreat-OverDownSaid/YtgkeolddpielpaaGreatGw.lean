/- Cells' gates: rows of numbers in the cells of one block; which arcs cross; plain. -/
import Derived.Test.YtgkeolddpielpaaGreatPa
import Derived.Test.YtgkeolddpielpaaGreatGa
namespace Go.Proofs.YtgkeolddpielpaaGreat
open Go.RowKit

/-! Rows of ints, each of the call's own, as the cells of one block. -/
def IkG (t : TypeId) (W : World) (B g n : Nat) (ls : List (List Int)) : Prop :=
  ls.length = n ∧ g < B ∧ ∃ cs, Blk W g t cs ∧ cs.size = n ∧ (∀ (v : Nat) (l : List Int), ls[v]? = some l → ∃ A c, cs[v]? = some (.slice A l.length c) ∧ Own W B 3 1 A l.length c (icells l)) ∧
    ∀ (v v' : Nat) A m c A' m' c', v ≠ v' → cs[v]? = some (.slice A m c) → cs[v']? = some (.slice A' m' c') → Dj A A'
theorem IkG.start {t : TypeId} {W : World} {B g n : Nat} (hg : g < B) (h : Blk W g t (zeros (.slice none 0 0) n)) : IkG t W B g n (List.replicate n []) := by
  refine ⟨by simp, hg, _, h, by simp [zeros], fun v l hl => ?_, fun v v' A m c A' m' c' _ h1 _ => ?_⟩
  · obtain ⟨hv, e⟩ := List.getElem?_eq_some_iff.1 hl
    simp at e
    subst e
    refine ⟨none, 0, ?_, Own.nil _ _ _ _⟩
    simp at hv
    simp [zeros, hv]
  · have e := (Array.getElem?_eq_some_iff.1 h1).2
    simp [zeros] at e
    obtain ⟨rfl, _, _⟩ := e
    exact .inl rfl
theorem IkG.grown {t : TypeId} {W W' : World} {B g n : Nat} {r : Option Nat} {ls : List (List Int)} (h : IkG t W B g n ls) (hg : W.grownBy W' r) (hr : ∀ b, r = some b → b ≠ g ∧ b < B) : IkG t W' B g n ls := by
  obtain ⟨h1, h2, cs, h3, h4, h5, h6⟩ := h
  refine ⟨h1, h2, cs, h3.grown hg (fun e => (hr g e).1 rfl), h4, fun v l hl => ?_, h6⟩
  obtain ⟨A, c, k1, k2⟩ := h5 v l hl
  refine ⟨A, c, k1, k2.far hg ?_⟩
  cases hA : blkOf A with
  | none => exact .inl rfl
  | some b =>
    refine .inr (fun e => ?_)
    have h8 := (k2.lt b hA).1
    have h9 := (hr b e.symm).2
    omega
theorem IkG.below {t : TypeId} {W W' : World} {B g n : Nat} {ls : List (List Int)} (h : IkG t W B g n ls) (hb : Below W.heap.size W W') : IkG t W' B g n ls := by
  obtain ⟨h1, h2, cs, h3, h4, h5, h6⟩ := h
  exact ⟨h1, h2, cs, h3.below hb h3.lt, h4, fun v l hl => by
    obtain ⟨A, c, k1, k2⟩ := h5 v l hl
    exact ⟨A, c, k1, k2.below hb⟩, h6⟩
theorem IkG.row {t : TypeId} {W : World} {B g n u : Nat} {ls : List (List Int)} (h : IkG t W B g n ls) (hu : u < n) : ∃ A c l, ls[u]? = some l ∧ W.cell? ⟨g, u, none⟩ = some (.slice A l.length c) ∧ W.frozen? ⟨g, u, none⟩ = false ∧ Own W B 3 1 A l.length c (icells l) := by
  obtain ⟨h1, h2, cs, h3, h4, h5, h6⟩ := h
  have hl : ls[u]? = some ls[u] := List.getElem?_eq_getElem (by omega)
  obtain ⟨A, c, k1, k2⟩ := h5 u _ hl
  exact ⟨A, c, _, hl, by rw [h3.cell]; exact k1, h3.frozen u, k2⟩
theorem IkG.lt {t : TypeId} {W : World} {B g n : Nat} {ls : List (List Int)} (h : IkG t W B g n ls) : g < W.heap.size := by
  obtain ⟨_, _, cs, h3, _⟩ := h
  exact h3.lt
/-- One number more. -/
theorem IkG.push {t : TypeId} {W w' : World} {B g n u c c' : Nat} {A A' : Option Addr} {ls : List (List Int)} {l : List Int} {k : Int} (h : IkG t W B g n ls) (hl : ls[u]? = some l) (hc : W.cell? ⟨g, u, none⟩ = some (.slice A l.length c))
    (hown : Own w' B 3 1 A' (l.length + 1) c' (icells l ++ icells [k])) (hg : W.grownBy w' (blkOf A)) (hat : blkOf A' = blkOf A ∨ blkOf A' = some W.heap.size) :
    IkG t (w'.setCell ⟨g, u, none⟩ (.slice A' (l.length + 1) c')) B g n (ls.set u (l ++ [k])) := by
  obtain ⟨h1, h2, cs, h3, h4, h5, h6⟩ := h
  have hu := (List.getElem?_eq_some_iff.1 hl).1
  have hcs : cs[u]? = some (.slice A l.length c) := by rw [← h3.cell]; exact hc
  obtain ⟨A0, c0, k1, hown0⟩ := h5 u l hl
  rw [hcs] at k1
  cases k1
  have hgA : blkOf A ≠ some g := hown0.ne h2
  have hgA' : blkOf A' ≠ some g := hown.ne h2
  refine ⟨by rw [List.length_set]; exact h1, h2, _, (h3.grown hg hgA).set_ u (.slice A' (l.length + 1) c'), by simpa using h4, fun v l' hl' => ?_, fun v v' X m d X' m' d' hne e1 e2 => ?_⟩
  · by_cases e : u = v
    · subst e
      rw [List.getElem?_set_self hu] at hl'
      cases hl'
      refine ⟨A', c', by rw [Array.getElem?_setIfInBounds_self_of_lt (by omega), List.length_append]; rfl, ?_⟩
      rw [List.length_append, icells_app]
      exact hown.far (grownBy_set _ _ _ _) (.inr hgA')
    · rw [List.getElem?_set_ne e] at hl'
      obtain ⟨X, d, k1, k2⟩ := h5 v l' hl'
      refine ⟨X, d, by rw [Array.getElem?_setIfInBounds_ne e]; exact k1, (k2.far hg (h6 u v _ _ _ _ _ _ e hcs k1).far).far (grownBy_set _ _ _ _) (.inr (k2.ne h2))⟩
  · have old : ∀ v X m d, u ≠ v → cs[v]? = some (.slice X m d) → Dj A' X := fun v X m d hv e3 => by
      have hv2 := (Array.getElem?_eq_some_iff.1 e3).1
      obtain ⟨X0, d0, k1, k2⟩ := h5 v _ (List.getElem?_eq_getElem (show v < ls.length by omega))
      rw [e3] at k1
      cases k1
      exact (h6 u v _ _ _ _ _ _ hv hcs e3).next k2 hat
    by_cases a1 : u = v
    · subst a1
      rw [Array.getElem?_setIfInBounds_self_of_lt (by omega)] at e1
      cases e1
      rw [Array.getElem?_setIfInBounds_ne hne] at e2
      exact old v' X' m' d' hne e2
    · rw [Array.getElem?_setIfInBounds_ne a1] at e1
      by_cases a2 : u = v'
      · subst a2
        rw [Array.getElem?_setIfInBounds_self_of_lt (by omega)] at e2
        cases e2
        exact (old v X m d a1 e1).symm
      · rw [Array.getElem?_setIfInBounds_ne a2] at e2
        exact h6 v v' X m d X' m' d' hne e1 e2
theorem IkG.cellG {t : TypeId} {W w' : World} {B g n u : Nat} {r : Option Nat} {ls : List (List Int)} (h : IkG t W B g n ls) (hu : u < n) (hg : W.grownBy w' r) (hr : r ≠ some g) : ∃ v, w'.cell? ⟨g, u, none⟩ = some v ∧ w'.frozen? ⟨g, u, none⟩ = false := by
  obtain ⟨h1, h2, cs, h3, h4, h5, h6⟩ := h
  have hb := h3.grown hg hr
  exact ⟨_, by rw [hb.cell]; exact Array.getElem?_eq_getElem (by omega), hb.frozen u⟩
theorem IkG.rdT {t : TypeId} {W : World} {B g n : Nat} {ls : List (List Int)} (h : IkG t W B g n ls) : RdT W (some ⟨g, 0, none⟩) n ls := by
  obtain ⟨h1, h2, cs, h3, h4, h5, h6⟩ := h
  refine ⟨h1, fun i l hl => ?_⟩
  obtain ⟨A, c, k1, k2⟩ := h5 i l hl
  exact ⟨g, 0, A, l.length, c, rfl, by rw [Nat.zero_add, h3.cell]; exact k1, k2.rds.rdI, k2.cap, k2.capMax⟩
theorem IkG.rdM {t : TypeId} {W : World} {G : Nat → Prop} {B g n : Nat} {ls : List (List Int)} (h : IkG t W B g n ls) (hg : G g) (hB : ∀ b, B ≤ b → b < W.heap.size → G b) : RdT (msk W G) (some ⟨g, 0, none⟩) n ls := by
  obtain ⟨h1, h2, cs, h3, h4, h5, h6⟩ := h
  refine ⟨h1, fun i l hl => ?_⟩
  obtain ⟨A, c, k1, k2⟩ := h5 i l hl
  exact ⟨g, 0, A, l.length, c, rfl, msk_cell.2 ⟨hg, by rw [Nat.zero_add, h3.cell]; exact k1⟩, (k2.rds.rdI).msk (fun b hb => hB b (k2.lt b hb).1 (k2.lt b hb).2), k2.cap, k2.capMax⟩


/-! Arcs of a row that are marked. -/
def arcP (P : Tri → Bool) (l : List Tri) : List Int := (l.zipIdx.filter (fun p => P p.1)).map (fun p => (p.2 : Int))
theorem arcP_snoc (P : Tri → Bool) (l : List Tri) (a : Tri) : arcP P (l ++ [a]) = arcP P l ++ (if P a then [(l.length : Int)] else []) := by
  unfold arcP
  rw [List.zipIdx_append, List.filter_append, List.map_append]
  congr 1
  cases h : P a <;> simp [h]
theorem arcP_take {P : Tri → Bool} {l : List Tri} {a : Tri} {k : Nat} (h : l[k]? = some a) : arcP P (l.take (k + 1)) = arcP P (l.take k) ++ (if P a then [(k : Int)] else []) := by
  have hlt := (List.getElem?_eq_some_iff.1 h).1
  rw [List.take_succ_eq_append_getElem hlt, (List.getElem?_eq_some_iff.1 h).2, arcP_snoc, List.length_take, Nat.min_eq_left (by omega)]
theorem arcP_len (P : Tri → Bool) (l : List Tri) : (arcP P l).length ≤ l.length := by
  unfold arcP
  rw [List.length_map]
  refine Nat.le_trans (List.length_filter_le _ _) ?_
  simp
theorem mem_arcP {P : Tri → Bool} {l : List Tri} {x : Int} : x ∈ arcP P l ↔ ∃ (i : Nat) (a : Tri), x = (i : Int) ∧ l[i]? = some a ∧ P a = true := by
  unfold arcP
  simp only [List.mem_map, List.mem_filter]
  constructor
  · rintro ⟨⟨a, i⟩, ⟨h1, h2⟩, rfl⟩
    exact ⟨i, a, rfl, List.mem_zipIdx_iff_getElem?.1 h1, h2⟩
  · rintro ⟨i, a, rfl, h1, h2⟩
    exact ⟨(a, i), ⟨List.mem_zipIdx_iff_getElem?.2 h1, h2⟩, rfl⟩
theorem arcP_sorted (P : Tri → Bool) : ∀ l : List Tri, (arcP P l).Pairwise (· < ·) := by
  intro l
  unfold arcP
  rw [List.pairwise_map]
  refine List.Pairwise.filter _ ?_
  rw [List.pairwise_iff_getElem]
  intro i j hi hj hij
  simp
  exact hij
/-- The cell of a vertex. -/
def cellOf (l : List Int) (v : Int) : Int := l.getD v.toNat 0
theorem cellOf_nat {l : List Int} {v : Nat} {p : Int} (h : l[v]? = some p) : cellOf l (v : Int) = p := by
  unfold cellOf
  rw [Int.toNat_natCast, List.getD_eq_getElem?_getD, h]
  rfl
/-- Does an arc cross? -/
def crossB (l : List Int) (a : Tri) : Bool := cellOf l a.1 != cellOf l a.2.1
def crossL (ar : List Tri) (l : List Int) : List Int := arcP (crossB l) ar
/-- The cells of an arc's ends. -/
def toC (ar : List Tri) (l : List Int) (a : Int) : Int := cellOf l (ar.getD a.toNat (0, 0, 0)).2.1
def frC (ar : List Tri) (l : List Int) (a : Int) : Int := cellOf l (ar.getD a.toNat (0, 0, 0)).1
theorem toC_nat {ar : List Tri} {l : List Int} {a : Nat} {x : Tri} (h : ar[a]? = some x) : toC ar l (a : Int) = cellOf l x.2.1 := by
  unfold toC
  rw [Int.toNat_natCast, List.getD_eq_getElem?_getD, h]
  rfl
theorem frC_nat {ar : List Tri} {l : List Int} {a : Nat} {x : Tri} (h : ar[a]? = some x) : frC ar l (a : Int) = cellOf l x.1 := by
  unfold frC
  rw [Int.toNat_natCast, List.getD_eq_getElem?_getD, h]
  rfl
/-- Of each cell who enters, who leaves, side by side. -/
def gRows (t f : Int → Int) (X : List Int) (n : Nat) : List (List Int) := (List.range (n * 2)).map (fun i : Nat => if i % 2 = 0 then X.filter (fun a => t a == ((i / 2 : Nat) : Int)) else X.filter (fun a => f a == ((i / 2 : Nat) : Int)))
theorem gRows_len (t f : Int → Int) (X : List Int) (n : Nat) : (gRows t f X n).length = n * 2 := by simp [gRows]
theorem gRows_in {t f : Int → Int} {X : List Int} {n c : Nat} (h : c < n) : (gRows t f X n)[c * 2]? = some (X.filter (fun a => t a == (c : Int))) := by
  unfold gRows
  rw [List.getElem?_map, List.getElem?_range (by omega)]
  simp
theorem gRows_out {t f : Int → Int} {X : List Int} {n c : Nat} (h : c < n) : (gRows t f X n)[c * 2 + 1]? = some (X.filter (fun a => f a == (c : Int))) := by
  unfold gRows
  rw [List.getElem?_map, List.getElem?_range (by omega), Option.map_some, if_neg (by omega), show (c * 2 + 1) / 2 = c by omega]
theorem gRows_nil (t f : Int → Int) (n : Nat) : gRows t f [] n = List.replicate (n * 2) [] := by
  apply List.ext_getElem?
  intro i
  rcases Nat.lt_or_ge i (n * 2) with h | h
  · unfold gRows
    rw [List.getElem?_map, List.getElem?_range h]
    simp [h]
  · rw [List.getElem?_eq_none (by rw [gRows_len]; exact h), List.getElem?_eq_none (by simpa using h)]
theorem gRows_next {t f : Int → Int} {X : List Int} {n p q : Nat} {a : Int} (hp : t a = (p : Int)) (hq : f a = (q : Int)) (h1 : p < n) (h2 : q < n) :
    ((gRows t f X n).set (p * 2) (X.filter (fun a => t a == (p : Int)) ++ [a])).set (q * 2 + 1) (X.filter (fun a => f a == (q : Int)) ++ [a]) = gRows t f (X ++ [a]) n := by
  apply List.ext_getElem?
  intro i
  rcases Nat.lt_or_ge i (n * 2) with hi | hi
  · have hl : ∀ Y, (gRows t f Y n)[i]? = some (if i % 2 = 0 then Y.filter (fun a => t a == ((i / 2 : Nat) : Int)) else Y.filter (fun a => f a == ((i / 2 : Nat) : Int))) := fun Y => by
      unfold gRows
      rw [List.getElem?_map, List.getElem?_range hi]
      rfl
    by_cases e1 : q * 2 + 1 = i
    · subst e1
      rw [List.getElem?_set_self (by rw [List.length_set, gRows_len]; exact hi), gRows_out h2, List.filter_append]
      simp [hq]
    · rw [List.getElem?_set_ne e1]
      by_cases e2 : p * 2 = i
      · subst e2
        rw [List.getElem?_set_self (by rw [gRows_len]; exact hi), gRows_in h1, List.filter_append]
        simp [hp]
      · rw [List.getElem?_set_ne e2, hl, hl]
        congr 1
        rcases Nat.mod_two_eq_zero_or_one i with h0 | h0
        · rw [if_pos h0, if_pos h0, List.filter_append]
          simp [hp]
          omega
        · rw [if_neg (by omega), if_neg (by omega), List.filter_append]
          simp [hq]
          omega
  · rw [List.getElem?_eq_none (by rw [List.length_set, List.length_set, gRows_len]; exact hi), List.getElem?_eq_none (by rw [gRows_len]; exact hi)]

/-- Gates of a level: of each cell who enters, who leaves. -/
abbrev GateD := List Int × List Int
def RdC (w : World) (A : Option Addr) (n : Nat) (row : List GateD) : Prop :=
  row.length = n ∧ ∀ c x, row[c]? = some x → ∃ b o A1 n1 c1 A2 n2 c2, A = some ⟨b, o, none⟩ ∧ w.cell? ⟨b, o + c * 2, none⟩ = some (.slice A1 n1 c1) ∧ RdI w A1 n1 x.1 ∧ w.cell? ⟨b, o + c * 2 + 1, none⟩ = some (.slice A2 n2 c2) ∧ RdI w A2 n2 x.2 ∧ (n1 ≤ c1 ∧ c1 ≤ 9223372036854775807) ∧ n2 ≤ c2 ∧ c2 ≤ 9223372036854775807
theorem RdC.le {w w' : World} {A : Option Addr} {n : Nat} {row : List GateD} (h : RdC w A n row) (hl : Le w w') : RdC w' A n row :=
  ⟨h.1, fun c x hx => by
    obtain ⟨b, o, A1, n1, c1, A2, n2, c2, e, h1, h2, h3, h4, h5⟩ := h.2 c x hx
    exact ⟨b, o, A1, n1, c1, A2, n2, c2, e, hl _ _ h1, h2.le hl, hl _ _ h3, h4.le hl, h5⟩⟩
theorem RdC.at_ {w : World} {A : Option Addr} {n c : Nat} {row : List GateD} (h : RdC w A n row) (hc : c < n) : ∃ x b o A1 n1 c1 A2 n2 c2, row[c]? = some x ∧ A = some ⟨b, o, none⟩ ∧ w.cell? ⟨b, o + c * 2, none⟩ = some (.slice A1 n1 c1) ∧ RdI w A1 n1 x.1 ∧ w.cell? ⟨b, o + c * 2 + 1, none⟩ = some (.slice A2 n2 c2) ∧ RdI w A2 n2 x.2 ∧ (n1 ≤ c1 ∧ c1 ≤ 9223372036854775807) ∧ n2 ≤ c2 ∧ c2 ≤ 9223372036854775807 := by
  have hl : c < row.length := by rw [h.1]; exact hc
  obtain ⟨b, o, A1, n1, c1, A2, n2, c2, h1⟩ := h.2 c _ (List.getElem?_eq_getElem hl)
  exact ⟨_, b, o, A1, n1, c1, A2, n2, c2, List.getElem?_eq_getElem hl, h1⟩
def RdG (w : World) (A : Option Addr) (n : Nat) (gs : List (List GateD)) : Prop :=
  gs.length = n ∧ ∀ i row, gs[i]? = some row → ∃ b o A' n' c', A = some ⟨b, o, none⟩ ∧ w.cell? ⟨b, o + i, none⟩ = some (.slice A' n' c') ∧ RdC w A' n' row ∧ n' ≤ c' ∧ c' ≤ 9223372036854775807
theorem RdG.le {w w' : World} {A : Option Addr} {n : Nat} {gs : List (List GateD)} (h : RdG w A n gs) (hl : Le w w') : RdG w' A n gs :=
  ⟨h.1, fun i row hx => by
    obtain ⟨b, o, A', n', c', e, h1, h2, h3⟩ := h.2 i row hx
    exact ⟨b, o, A', n', c', e, hl _ _ h1, h2.le hl, h3⟩⟩
theorem RdG.at_ {w : World} {A : Option Addr} {n i : Nat} {gs : List (List GateD)} (h : RdG w A n gs) (hi : i < n) : ∃ row b o A' n' c', gs[i]? = some row ∧ A = some ⟨b, o, none⟩ ∧ w.cell? ⟨b, o + i, none⟩ = some (.slice A' n' c') ∧ RdC w A' n' row ∧ n' ≤ c' ∧ c' ≤ 9223372036854775807 := by
  have hl : i < gs.length := by rw [h.1]; exact hi
  obtain ⟨b, o, A', n', c', h1⟩ := h.2 i _ (List.getElem?_eq_getElem hl)
  exact ⟨_, b, o, A', n', c', List.getElem?_eq_getElem hl, h1⟩
/-- The gates of a net under cells. -/
def gateRow (ar : List Tri) (l : List Int) : List GateD := (List.range (mostN l).toNat).map (fun c : Nat => ((crossL ar l).filter (fun a => toC ar l a == (c : Int)), (crossL ar l).filter (fun a => frC ar l a == (c : Int))))
theorem gateRow_len (ar : List Tri) (l : List Int) : (gateRow ar l).length = (mostN l).toNat := by simp [gateRow]
theorem gateRow_get {ar : List Tri} {l : List Int} {c : Nat} (h : c < (mostN l).toNat) : (gateRow ar l)[c]? = some ((crossL ar l).filter (fun a => toC ar l a == (c : Int)), (crossL ar l).filter (fun a => frC ar l a == (c : Int))) := by
  unfold gateRow
  rw [List.getElem?_map, List.getElem?_range h]
  rfl
def gatesOf (ar : List Tri) (ls : List (List Int)) : List (List GateD) := ls.map (gateRow ar)
theorem IkG.rdC {t : TypeId} {W : World} {B g : Nat} {ar : List Tri} {l : List Int} (h : IkG t W B g ((mostN l).toNat * 2) (gRows (toC ar l) (frC ar l) (crossL ar l) (mostN l).toNat)) : RdC W (some ⟨g, 0, none⟩) (mostN l).toNat (gateRow ar l) := by
  refine ⟨gateRow_len ar l, fun c x hx => ?_⟩
  have hc : c < (mostN l).toNat := by rw [← gateRow_len ar l]; exact (List.getElem?_eq_some_iff.1 hx).1
  rw [gateRow_get hc] at hx
  cases hx
  obtain ⟨A1, c1, l1, e1, e2, _, e4⟩ := h.row (u := c * 2) (by omega)
  obtain ⟨A2, c2, l2, d1, d2, _, d4⟩ := h.row (u := c * 2 + 1) (by omega)
  rw [gRows_in hc] at e1
  rw [gRows_out hc] at d1
  cases e1
  cases d1
  exact ⟨g, 0, A1, _, c1, A2, _, c2, rfl, by rw [Nat.zero_add]; exact e2, e4.rds.rdI, by rw [Nat.zero_add]; exact d2, d4.rds.rdI, ⟨e4.cap, e4.capMax⟩, d4.cap, d4.capMax⟩
end Go.Proofs.YtgkeolddpielpaaGreat
