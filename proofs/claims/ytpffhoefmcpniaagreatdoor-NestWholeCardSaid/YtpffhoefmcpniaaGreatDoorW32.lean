/- Parts of the proof: QCuQ, QCu1. -/
import Derived.Test.YtpffhoefmcpniaaGreatDoorW1
import Derived.Test.YtpffhoefmcpniaaGreatDoorW15
/- Splits of the nets that the laws make: plain. -/
namespace Go.Proofs.YtpffhoefmcpniaaGreatDoor
open Go.RowKit

/-! Edges told the other way round, and from a point to itself. -/
def turnE (n : Nat) : Nat → List Edg → List Edg
  | _, [] => []
  | i, e :: E => (((i % n : Nat) : Int), ((i % n : Nat) : Int)) :: (e.2, e.1) :: turnE n (i + 1) E
theorem cross_turnE (S : Int → Bool) (n : Nat) : ∀ (E : List Edg) (i : Nat), crossN S (turnE n i E) = crossN S E
  | [], _ => rfl
  | e :: E, i => by
    unfold turnE
    rw [crossN_cons, crossN_cons, crossN_cons, cross_turnE S n E (i + 1), if_pos rfl]
    by_cases h : S e.1 = S e.2
    · rw [if_pos h, if_pos (show S (e.2, e.1).1 = S (e.2, e.1).2 from h.symm)]; omega
    · rw [if_neg h, if_neg (show ¬ S (e.2, e.1).1 = S (e.2, e.1).2 from fun g => h g.symm)]; omega
theorem turnE_app (n : Nat) : ∀ (E F : List Edg) (i : Nat), turnE n i (E ++ F) = turnE n i E ++ turnE n (i + E.length) F
  | [], F, i => by simp [turnE]
  | e :: E, F, i => by
    simp only [List.cons_append, turnE, List.length_cons]
    rw [turnE_app n E F (i + 1), show i + 1 + E.length = i + (E.length + 1) by omega]
theorem turnE_next {n k : Nat} {E : List Edg} {x y : Int} (h : E[k]? = some (x, y)) : turnE n 0 (E.take (k + 1)) = turnE n 0 (E.take k) ++ [(((k % n : Nat) : Int), ((k % n : Nat) : Int)), (y, x)] := by
  have hlt := (List.getElem?_eq_some_iff.1 h).1
  rw [List.take_succ_eq_append_getElem hlt, (List.getElem?_eq_some_iff.1 h).2, turnE_app]
  have : 0 + (E.take k).length = k := by rw [List.length_take]; omega
  rw [this]
  rfl
theorem turnE_len (n : Nat) : ∀ (E : List Edg) (i : Nat), (turnE n i E).length = 2 * E.length
  | [], _ => rfl
  | e :: E, i => by simp only [turnE, List.length_cons, turnE_len n E (i + 1)]; omega
theorem turnE_ends {n : Nat} (hn : 0 < n) : ∀ (E : List Edg) (i : Nat), Ends n E → Ends n (turnE n i E)
  | [], _, _ => fun e h => by cases h
  | e :: E, i, h => fun d hd => by
    have h0 := h e (List.mem_cons_self ..)
    have ih := turnE_ends hn E (i + 1) (fun d hd => h d (List.mem_cons_of_mem _ hd))
    unfold turnE at hd
    have hm := Nat.mod_lt i hn
    simp only [List.mem_cons] at hd
    rcases hd with rfl | rfl | hd
    · simp only; omega
    · simp only at h0 ⊢; omega
    · exact ih d hd
theorem moveP_len (dx dy : Int) (l : List (Int × Int)) : (moveP dx dy l).length = l.length := by simp [moveP]
theorem srcN_move (l : List (Int × Int)) (dx dy : Int) {d : Nat} (h : d ≤ 3) : srcN (moveP dx dy l) d = srcN l d := by
  unfold srcN; rw [order_move l dx dy d (by omega) (by omega), moveP_len]
theorem dstN_move (l : List (Int × Int)) (dx dy : Int) {d : Nat} (h : d ≤ 3) : dstN (moveP dx dy l) d = dstN l d := by
  unfold dstN; rw [order_move l dx dy d (by omega) (by omega), moveP_len]
theorem halfB_move (l : List (Int × Int)) (dx dy : Int) {d : Nat} (h : d ≤ 3) : halfB (moveP dx dy l) d = halfB l d := by
  unfold halfB hlfN; rw [order_move l dx dy d (by omega) (by omega), moveP_len]
theorem isAll_moved {E F : List Edg} {l : List (Int × Int)} {dx dy : Int} {L : List Spl} (hc : ∀ c, cr c F = cr c E) (h : IsAll E l 12 L) : IsAll F (moveP dx dy l) 12 L :=
  ⟨h.1, fun i s hs => by
    have h1 := h.2 i s hs
    have hi : i < 12 := by have := (List.getElem?_eq_some_iff.1 hs).1; rw [h.1] at this; exact this
    have h3 : i / 3 ≤ 3 := by omega
    exact ⟨h1.dir, h1.kind, by rw [hc]; exact h1.cross, fun g => by rw [srcN_move l dx dy h3, dstN_move l dx dy h3, moveP_len]; exact (h1.near g).congr hc,
      fun g => by rw [srcN_move l dx dy h3, dstN_move l dx dy h3, moveP_len]; exact (h1.far g).congr hc, fun g => by rw [halfB_move l dx dy h3]; exact h1.half g⟩⟩

/-! Two heaps. -/
def iN (b : Bool) : Nat := if b then 1 else 0
/-- How many of base .. base + t - 1 a side has. -/
def cntR (S : Int → Bool) (base : Nat) : Nat → Nat
  | 0 => 0
  | t + 1 => cntR S base t + iN (S ((base + t : Nat) : Int))
theorem cntR_succ (S : Int → Bool) (base t : Nat) : cntR S base (t + 1) = cntR S base t + iN (S ((base + t : Nat) : Int)) := rfl
theorem iN_t : iN true = 1 := rfl
theorem iN_f : iN false = 0 := rfl
theorem cntR_le (S : Int → Bool) (base : Nat) : ∀ t, cntR S base t ≤ t
  | 0 => Nat.le_refl _
  | t + 1 => by have := cntR_le S base t; rw [cntR_succ]; cases S ((base + t : Nat) : Int) <;> simp only [iN_t, iN_f] <;> omega
/-- The edges from a point to those of its heap that are ahead of it. -/
def backE (i base : Nat) : Nat → List Edg
  | 0 => []
  | t + 1 => backE i base t ++ [((i : Int), ((base + t : Nat) : Int))]
theorem cross_one (S : Int → Bool) (a b : Int) : crossN S [(a, b)] = if S a = S b then 0 else 1 := by simp [crossN]
theorem cross_back (S : Int → Bool) (i base : Nat) : ∀ t, crossN S (backE i base t) = if S (i : Int) = true then t - cntR S base t else cntR S base t
  | 0 => by simp [backE, crossN, cntR]
  | t + 1 => by
    have h := cntR_le S base t
    unfold backE
    rw [crossN_app, cross_back S i base t, cross_one, cntR_succ]
    cases S (i : Int) <;> cases S ((base + t : Nat) : Int) <;> simp [iN] <;> omega
/-- All edges within a heap's first t points. -/
def heapE (base : Nat) : Nat → List Edg
  | 0 => []
  | t + 1 => heapE base t ++ backE (base + t) base t
theorem cross_heap (S : Int → Bool) (base : Nat) : ∀ t, crossN S (heapE base t) = cntR S base t * (t - cntR S base t)
  | 0 => by simp [heapE, crossN]
  | t + 1 => by
    have h := cntR_le S base t
    unfold heapE
    rw [crossN_app, cross_heap S base t, cross_back, cntR_succ]
    cases S ((base + t : Nat) : Int)
    · simp only [Bool.false_eq_true, if_false, iN_f, Nat.add_zero]
      rw [show t + 1 - cntR S base t = (t - cntR S base t) + 1 by omega, Nat.mul_add, Nat.mul_one]
    · simp only [if_true, iN_t]
      rw [show t + 1 - (cntR S base t + 1) = t - cntR S base t by omega, Nat.add_mul, Nat.one_mul]
/-- The edges between two heaps of m points. -/
def betwE (m : Nat) : Nat → List Edg
  | 0 => []
  | k + 1 => betwE m k ++ [((k : Int), ((m + k : Nat) : Int))]
def pairE (m k : Nat) : List Edg := heapE 0 m ++ heapE m m ++ betwE m k
theorem cross_betw {S : Int → Bool} {m : Nat} : ∀ {k : Nat}, (∀ i, i < k → S (i : Int) ≠ S ((m + i : Nat) : Int)) → crossN S (betwE m k) = k
  | 0, _ => rfl
  | k + 1, h => by
    unfold betwE
    rw [crossN_app, cross_betw (fun i hi => h i (by omega)), cross_one, if_neg (h k (by omega))]
theorem cntR_all {S : Int → Bool} {base : Nat} : ∀ {t : Nat}, cntR S base t = t → ∀ i, i < t → S ((base + i : Nat) : Int) = true
  | 0, _, i, h => absurd h (by omega)
  | t + 1, e, i, h => by
    have h1 := cntR_le S base t
    rw [cntR_succ] at e
    cases hb : S ((base + t : Nat) : Int)
    · rw [hb, iN_f] at e; omega
    · rw [hb, iN_t] at e
      rcases Nat.lt_or_ge i t with h2 | h2
      · exact cntR_all (t := t) (by omega) i h2
      · obtain rfl : i = t := by omega
        exact hb
theorem cntR_none {S : Int → Bool} {base : Nat} : ∀ {t : Nat}, cntR S base t = 0 → ∀ i, i < t → S ((base + i : Nat) : Int) = false
  | 0, _, i, h => absurd h (by omega)
  | t + 1, e, i, h => by
    rw [cntR_succ] at e
    cases hb : S ((base + t : Nat) : Int)
    · rw [hb, iN_f] at e
      rcases Nat.lt_or_ge i t with h2 | h2
      · exact cntR_none (t := t) (by omega) i h2
      · obtain rfl : i = t := by omega
        exact hb
    · rw [hb, iN_t] at e; omega
theorem cntR_pos {S : Int → Bool} {base : Nat} : ∀ {t i : Nat}, i < t → S ((base + i : Nat) : Int) = true → 0 < cntR S base t
  | 0, i, h, _ => absurd h (by omega)
  | t + 1, i, h, e => by
    rw [cntR_succ]
    rcases Nat.lt_or_ge i t with h2 | h2
    · have := cntR_pos h2 e; omega
    · obtain rfl : i = t := by omega
      rw [e, iN_t]; omega
theorem cntR_less {S : Int → Bool} {base : Nat} : ∀ {t i : Nat}, i < t → S ((base + i : Nat) : Int) = false → cntR S base t < t
  | 0, i, h, _ => absurd h (by omega)
  | t + 1, i, h, e => by
    have h1 := cntR_le S base t
    rw [cntR_succ]
    rcases Nat.lt_or_ge i t with h2 | h2
    · have := cntR_less h2 e
      cases S ((base + t : Nat) : Int) <;> simp only [iN_t, iN_f] <;> omega
    · obtain rfl : i = t := by omega
      rw [e, iN_f]; omega
theorem split_cost {a m : Nat} (h0 : 0 < a) (h1 : a < m) : m - 1 ≤ a * (m - a) := by
  obtain ⟨b, rfl⟩ : ∃ b, m = a + 1 + b := ⟨m - a - 1, by omega⟩
  obtain ⟨c, rfl⟩ : ∃ c, a = c + 1 := ⟨a - 1, by omega⟩
  rw [show c + 1 + 1 + b - (c + 1) = b + 1 by omega, Nat.add_mul, Nat.mul_add, Nat.one_mul]
  omega
theorem cross_pair (S : Int → Bool) (m k : Nat) : crossN S (pairE m k) = cntR S 0 m * (m - cntR S 0 m) + cntR S m m * (m - cntR S m m) + crossN S (betwE m k) := by
  unfold pairE
  rw [crossN_app, crossN_app, cross_heap, cross_heap]
/-- Whoever has some but not all crosses as many edges as lie between. -/
theorem pair_least {S : Int → Bool} {m k : Nat} (hm : 3 ≤ m) (hk : k ≤ 2) {i j : Nat} (hi : i < 2 * m) (hj : j < 2 * m) (h1 : S (i : Int) = true) (h2 : S (j : Int) = false) : k ≤ crossN S (pairE m k) := by
  rw [cross_pair]
  have a1 := cntR_le S 0 m
  have a2 := cntR_le S m m
  by_cases g1 : 0 < cntR S 0 m ∧ cntR S 0 m < m
  · have := split_cost g1.1 g1.2; omega
  by_cases g2 : 0 < cntR S m m ∧ cntR S m m < m
  · have := split_cost g2.1 g2.2; omega
  have z1 : cntR S 0 m = 0 ∨ cntR S 0 m = m := by omega
  have z2 : cntR S m m = 0 ∨ cntR S m m = m := by omega
  have e1 : ∀ i, i < 2 * m → (i < m ∧ S (i : Int) = S ((0 + i : Nat) : Int)) ∨ (i - m < m ∧ S (i : Int) = S ((m + (i - m) : Nat) : Int)) := fun i hi => by
    rcases Nat.lt_or_ge i m with h | h
    · exact .inl ⟨h, by rw [Nat.zero_add]⟩
    · exact .inr ⟨by omega, by rw [show m + (i - m) = i by omega]⟩
  rcases z1 with z1 | z1 <;> rcases z2 with z2 | z2
  · exfalso
    rcases e1 i hi with ⟨h, e⟩ | ⟨h, e⟩
    · rw [h1, cntR_none z1 i h] at e; cases e
    · rw [h1, cntR_none z2 _ h] at e; cases e
  · have := cross_betw (S := S) (m := m) (k := k) (fun i hi => by
      have g1 := cntR_none z1 i (by omega)
      have g2 := cntR_all z2 i (by omega)
      rw [Nat.zero_add] at g1
      rw [g1, g2]; decide)
    omega
  · have := cross_betw (S := S) (m := m) (k := k) (fun i hi => by
      have g1 := cntR_all z1 i (by omega)
      have g2 := cntR_none z2 i (by omega)
      rw [Nat.zero_add] at g1
      rw [g1, g2]; decide)
    omega
  · exfalso
    rcases e1 j hj with ⟨h, e⟩ | ⟨h, e⟩
    · rw [h2, cntR_all z1 j h] at e; cases e
    · rw [h2, cntR_all z2 _ h] at e; cases e
/-- The points of two heaps. -/
def pairPt (m i : Nat) : Int × Int := (((i / m * 100000 + i % m : Nat) : Int), ((i % m * 7 : Nat) : Int))
def pairP (m k : Nat) : List (Int × Int) := (List.range k).map (pairPt m)
theorem pairP_len (m k : Nat) : (pairP m k).length = k := by simp [pairP]
theorem pairP_next (m k : Nat) : pairP m (k + 1) = pairP m k ++ [pairPt m k] := by simp [pairP, List.range_succ]
theorem pairP_get {m k i : Nat} (h : i < k) : (pairP m k)[i]? = some (pairPt m i) := by simp [pairP, h]
theorem div_two {m i : Nat} (hm : 0 < m) (h : i < 2 * m) : (i < m ∧ i / m = 0 ∧ i % m = i) ∨ (m ≤ i ∧ i / m = 1 ∧ i % m = i - m) := by
  rcases Nat.lt_or_ge i m with h1 | h1
  · exact .inl ⟨h1, Nat.div_eq_of_lt h1, Nat.mod_eq_of_lt h1⟩
  · refine .inr ⟨h1, ?_, ?_⟩
    · rw [Nat.div_eq_sub_div hm h1, Nat.div_eq_of_lt (by omega)]
    · rw [Nat.mod_eq_sub_mod h1, Nat.mod_eq_of_lt (by omega)]
theorem pair_key {m i : Nat} (hm : 0 < m) (h : i < 2 * m) : key (pairPt m i) 0 = if i < m then (i : Int) else ((100000 + (i - m) : Nat) : Int) := by
  unfold key pairPt
  rw [if_pos rfl]
  rcases div_two hm h with ⟨h1, h2, h3⟩ | ⟨h1, h2, h3⟩
  · rw [h2, h3, if_pos h1]; simp
  · rw [h2, h3, if_neg (by omega), Nat.one_mul]
theorem pair_order {m : Nat} (hm : 3 ≤ m) (hm2 : m ≤ 8) : order (pairP m (2 * m)) 0 = iota (2 * m) := by
  refine order_eq ⟨by rw [pairP_len], ?_⟩
  unfold iota
  rw [List.pairwise_map]
  refine List.Pairwise.imp_of_mem (fun {a b} ha hb hab => ?_) List.pairwise_lt_range
  have ha := List.mem_range.1 ha
  have hb := List.mem_range.1 hb
  have kk : ∀ i, i < 2 * m → (keysOf (pairP m (2 * m)) 0).getD (i : Int).toNat 0 = if i < m then (i : Int) else ((100000 + (i - m) : Nat) : Int) := fun i hi => by
    unfold keysOf
    rw [List.getD_eq_getElem?_getD, List.getElem?_map, Int.toNat_natCast, pairP_get hi]
    exact pair_key (by omega) hi
  unfold klt
  rw [kk a ha, kk b hb]
  left
  split <;> split <;> omega
theorem iota_take {n k : Nat} (h : k ≤ n) : natsOf ((iota n).take k) = List.range k := by
  unfold natsOf iota
  rw [← List.map_take, List.map_map, List.take_range]
  rw [Nat.min_eq_left h]
  apply List.ext_getElem?
  intro i
  simp only [List.getElem?_map]
  cases (List.range k)[i]? <;> simp
theorem mem_iota_drop {n j v : Nat} (h : v ∈ natsOf ((iota n).drop j)) : j ≤ v ∧ v < n := by
  obtain ⟨x, hx, rfl⟩ := mem_natsOf.1 h
  obtain ⟨i, hi, e⟩ := List.getElem_of_mem hx
  rw [List.getElem_drop] at e
  unfold iota at e hi
  simp at e hi
  omega
theorem mem_iota_drop' {n j v : Nat} (h : j ≤ v) (h2 : v < n) : v ∈ natsOf ((iota n).drop j) := by
  refine mem_natsOf.2 ⟨(v : Int), ?_, by simp⟩
  rw [List.mem_iff_getElem?]
  refine ⟨v - j, ?_⟩
  rw [List.getElem?_drop]
  unfold iota
  rw [show j + (v - j) = v by omega, List.getElem?_map, List.getElem?_range h2]
  rfl
/-- The first heap. -/
def heapB (m : Nat) : List Bool := List.replicate m true ++ List.replicate m false
theorem heapB_at (m v : Nat) : (heapB m).getD v false = decide (v < m) := by
  unfold heapB
  rw [List.getD_eq_getElem?_getD]
  by_cases h : v < m
  · rw [List.getElem?_append_left (by simpa using h)]; simp [h]
  · rw [List.getElem?_append_right (by simpa using h)]
    rw [List.getElem?_replicate]
    split <;> simp [h]
theorem cntR_const {S : Int → Bool} {base : Nat} : ∀ {t : Nat}, (∀ i, i < t → S ((base + i : Nat) : Int) = true) → cntR S base t = t
  | 0, _ => rfl
  | t + 1, h => by rw [cntR_succ, cntR_const (fun i hi => h i (by omega)), h t (by omega)]; rfl
theorem cntR_zero {S : Int → Bool} {base : Nat} : ∀ {t : Nat}, (∀ i, i < t → S ((base + i : Nat) : Int) = false) → cntR S base t = 0
  | 0, _ => rfl
  | t + 1, h => by rw [cntR_succ, cntR_zero (fun i hi => h i (by omega)), h t (by omega)]; rfl
theorem cr_heapB {m k : Nat} (hk : k ≤ m) : cr (heapB m) (pairE m k) = k := by
  unfold cr
  have h1 : ∀ i : Nat, sideF (heapB m) (i : Int) = decide (i < m) := fun i => by rw [sideF_nat, heapB_at]
  rw [cross_pair, cntR_const (fun i hi => by rw [h1]; simp; omega), cntR_zero (fun i hi => by rw [h1]; simp), cross_betw (fun i hi => by rw [h1, h1]; simp; omega)]
  simp
/-- The nearest side of two heaps is the first one. -/
theorem pair_near {m k : Nat} {b : List Bool} (hm : 3 ≤ m) (hm2 : m ≤ 8) (hk : k ≤ 2) (h : NearB (2 * m) (pairE m k) (srcN (pairP m (2 * m)) 0) (dstN (pairP m (2 * m)) 0) b) : b = heapB m := by
  have he : 2 ≤ endsN (2 * m) ∧ endsN (2 * m) ≤ m := by unfold endsN; rw [if_neg (by omega)]; omega
  have hs : srcN (pairP m (2 * m)) 0 = List.range (endsN (2 * m)) := by
    unfold srcN
    rw [show ((0 : Nat) : Int) = 0 from rfl, pair_order hm hm2, pairP_len, iota_take (by omega)]
  have hd : ∀ v, v ∈ dstN (pairP m (2 * m)) 0 ↔ 2 * m - endsN (2 * m) ≤ v ∧ v < 2 * m := fun v => by
    unfold dstN
    rw [show ((0 : Nat) : Int) = 0 from rfl, pair_order hm hm2, pairP_len]
    exact ⟨mem_iota_drop, fun g => mem_iota_drop' g.1 g.2⟩
  rw [hs] at h
  have hS : SepB (2 * m) (List.range (endsN (2 * m))) (dstN (pairP m (2 * m)) 0) (heapB m) :=
    ⟨by simp [heapB]; omega, fun v hv => by rw [heapB_at]; simp at hv ⊢; omega, fun v hv => by rw [heapB_at]; have := (hd v).1 hv; simp; omega⟩
  have h0 : b.getD 0 false = true := h.sep.inn 0 (by simp; omega)
  have h1 : b.getD 1 false = true := h.sep.inn 1 (by simp; omega)
  have hl : b.getD (2 * m - 1) false = false := h.sep.out _ ((hd _).2 (by omega))
  have hlow : k ≤ cr b (pairE m k) := pair_least (S := sideF b) hm hk (i := 0) (j := 2 * m - 1) (by omega) (by omega) (by rw [sideF_nat]; exact h0) (by rw [sideF_nat]; exact hl)
  have hhi := h.least _ hS
  rw [cr_heapB (by omega)] at hhi
  have hsub := h.first _ hS (by rw [cr_heapB (by omega)]; omega)
  have hout : ∀ i, i < m → sideF b ((m + i : Nat) : Int) = false := fun i hi => by
    rw [sideF_nat]
    cases e : b.getD (m + i) false
    · rfl
    · have := hsub _ e
      rw [heapB_at] at this
      simp at this
      omega
  have hb := cross_betw (S := sideF b) (m := m) (k := k) (fun i hi => by
    rw [hout i (by omega), sideF_nat]
    have : b.getD i false = true := by
      rcases (show i = 0 ∨ i = 1 by omega) with rfl | rfl
      · exact h0
      · exact h1
    rw [this]; decide)
  have hc := cross_pair (sideF b) m k
  rw [hb, cntR_zero hout] at hc
  have hcr : crossN (sideF b) (pairE m k) = cr b (pairE m k) := rfl
  rw [hcr] at hc
  have hz : cntR (sideF b) 0 m * (m - cntR (sideF b) 0 m) = 0 := by omega
  have hp := cntR_pos (S := sideF b) (base := 0) (t := m) (i := 0) (by omega) (by rw [Nat.add_zero, sideF_nat]; exact h0)
  have hle := cntR_le (sideF b) 0 m
  have hfull : cntR (sideF b) 0 m = m := by
    rcases Nat.mul_eq_zero.1 hz with g | g
    · omega
    · omega
  refine getD_ext (by rw [h.sep.len]; simp [heapB]; omega) (fun v => ?_)
  rw [heapB_at]
  rcases Nat.lt_or_ge v m with g | g
  · have := cntR_all hfull v g
    rw [Nat.zero_add, sideF_nat] at this
    rw [this]; simp [g]
  · cases e : b.getD v false
    · simp; omega
    · have := hsub _ e
      rw [heapB_at] at this
      exact this.symm
end Go.Proofs.YtpffhoefmcpniaaGreatDoor

/- The small functions of cut and of the document's chapter 11: marks, Cross, off, uneven, few, SameBools. -/
namespace Go.Proofs.YtpffhoefmcpniaaGreatDoor
open Go.RowKit

attribute [local go_sem ↓] Go.wp_at_zero Go.wp_at_succ

theorem sideF_neg {b : List Bool} {v : Int} (h : v < 0) : sideF b v = false := by unfold sideF; simp; omega
theorem sideF_far {b : List Bool} {v : Int} (h : (b.length : Int) ≤ v) : sideF b v = false := by
  unfold sideF
  rw [List.getD_eq_getElem?_getD, List.getElem?_eq_none (by omega)]
  simp
theorem sideF_at {b : List Bool} {v : Nat} {x : Bool} (h : b[v]? = some x) : sideF b (v : Int) = x := by
  rw [sideF_nat, List.getD_eq_getElem?_getD, h]; rfl

theorem marks_any (A : Option Addr) (n c : Nat) (b : List Bool) (v : Int) (w : World) (h : RdB w A n b) :
    Calls Tryz.prog 125 #[.slice A n c, .int .i64 v] w fun e w' => e = .returned (.bool (sideF b v)) ∧ w = w' := by
  have hl := h.1
  by_cases h0 : v < 0
  · have h1 : ¬ (0 ≤ v) := by omega
    have HS := Lib.hid (sideF_neg (b := b) h0)
    clear hl
    go_enter Tryz.func125, Tryz.ntmps125
    go_wp2
    go_ret
    exact ⟨ret_bool HS.out.symm, rfl⟩
  · obtain ⟨k, rfl⟩ : ∃ k : Nat, v = k := ⟨v.toNat, by omega⟩
    by_cases h1 : k < n
    · obtain ⟨g, o, x, rfl, hx, hc⟩ := h.at_ h1
      have HS := Lib.hid (sideF_at hx)
      have i1 : (0 : Int) ≤ (k : Int) := by omega
      have i2 : (k : Int) < (n : Int) := by omega
      clear hx hl h0
      go_enter Tryz.func125, Tryz.ntmps125
      go_wp2
      go_ret
      exact ⟨ret_bool HS.out.symm, rfl⟩
    · have HS := Lib.hid (sideF_far (b := b) (v := (k : Int)) (by omega))
      have i1 : (0 : Int) ≤ (k : Int) := by omega
      have i2 : ¬ (k : Int) < (n : Int) := by omega
      clear hl h0
      go_enter Tryz.func125, Tryz.ntmps125
      go_wp2
      go_ret
      exact ⟨ret_bool HS.out.symm, rfl⟩

theorem marked_any (A : Option Addr) (n c : Nat) (b : List Bool) (v : Int) (w : World) (h : RdB w A n b) :
    Calls Tryz.prog 114 #[.slice A n c, .int .i64 v] w fun e w' => e = .returned (.bool (sideF b v)) ∧ w = w' := by
  have hl := h.1
  by_cases h0 : v < 0
  · have h1 : ¬ (0 ≤ v) := by omega
    have HS := Lib.hid (sideF_neg (b := b) h0)
    clear hl
    go_enter Tryz.func114, Tryz.ntmps114
    go_wp2
    go_ret
    exact ⟨ret_bool HS.out.symm, rfl⟩
  · obtain ⟨k, rfl⟩ : ∃ k : Nat, v = k := ⟨v.toNat, by omega⟩
    by_cases h1 : k < n
    · obtain ⟨g, o, x, rfl, hx, hc⟩ := h.at_ h1
      have HS := Lib.hid (sideF_at hx)
      have i1 : (0 : Int) ≤ (k : Int) := by omega
      have i2 : (k : Int) < (n : Int) := by omega
      clear hx hl h0
      go_enter Tryz.func114, Tryz.ntmps114
      go_wp2
      go_ret
      exact ⟨ret_bool HS.out.symm, rfl⟩
    · have HS := Lib.hid (sideF_far (b := b) (v := (k : Int)) (by omega))
      have i1 : (0 : Int) ≤ (k : Int) := by omega
      have i2 : ¬ (k : Int) < (n : Int) := by omega
      clear hl h0
      go_enter Tryz.func114, Tryz.ntmps114
      go_wp2
      go_ret
      exact ⟨ret_bool HS.out.symm, rfl⟩

theorem cr_take {b : List Bool} {E : List Edg} {k : Nat} {x y : Int} (h : E[k]? = some (x, y)) : cr b (E.take (k + 1)) = cr b (E.take k) + if sideF b x = sideF b y then 0 else 1 := by
  unfold cr
  rw [List.take_succ_eq_append_getElem (List.getElem?_eq_some_iff.1 h).1, (List.getElem?_eq_some_iff.1 h).2, crossN_app, cross_one]
theorem cr_le (b : List Bool) (E : List Edg) (k : Nat) : cr b (E.take k) ≤ k := Nat.le_trans (crossN_le _ _) (List.length_take_le _ _)

set_option maxHeartbeats 1000000 in
set_option maxRecDepth 100000 in
theorem cutCross_any (A AE : Option Addr) (n c m ce : Nat) (b : List Bool) (E : List Edg) (w : World) (h : RdB w A n b) (hE : RdP w AE m E) (hm : m ≤ 1000000000) :
    Calls Tryz.prog 108 #[.slice A n c, .slice AE m ce] w fun e w' => e = .returned (.int .i64 (cr b E)) ∧ Below w.heap.size w w' := by
  have HL := Lib.hid hE.1
  go_enter Tryz.func108, Tryz.ntmps108
  go_wp2
  go_loopw [5, 10] (fun t i W => Below w.heap.size w W ∧ ∃ k : Nat, k ≤ m ∧ i = .int .i64 k ∧ t = .int .i64 (cr b (E.take k))) (fun _ i _ => m - (intOf i).toNat)
  case atStart => exact ⟨Below.refl _ _, 0, Nat.zero_le _, rfl, by simp [cr, crossN]⟩
  case round =>
    obtain ⟨hbl, k, hk, rfl, rfl⟩ := hrel
    have hle := cr_le b E k
    by_cases hlt : k < m
    · obtain ⟨g, o, x, y, rfl, hx, cx, cy⟩ := hE.at_ hlt
      have HT := Lib.hid (cr_take (b := b) hx)
      have j1 := Below.cellOf hbl (Nat.le_refl _) cx
      have j2 := Below.cellOf hbl (Nat.le_refl _) cy
      have i1 : (0 : Int) ≤ (k : Int) := by omega
      have i2 : (k : Int) < (m : Int) := by omega
      obtain ⟨W2, hW2⟩ : ∃ W2, W2 = wr.alloc (.cells #[.int .i64 x, .int .i64 y] 127) := ⟨_, rfl⟩
      have hbox : Blk W2 wr.heap.size 127 #[.int .i64 x, .int .i64 y] := by rw [hW2]; exact Blk.new _ _ _
      have hbl2 : Below w.heap.size w W2 := by rw [hW2]; exact bELt
      have hr2 := h.below hbl2
      have HM := Lib.hid (show ∀ v q, Calls Tryz.prog 125 #[.slice A n c, .int .i64 v] (W2.drewN q) fun e w' => e = .returned (.bool (sideF b v)) ∧ W2.drewN q = w' from fun v q => marks_any A n c b v _ hr2)
      have v1 := hbox.two.1
      have v2 := hbox.two.2.1
      clear hx cx cy hr2 hbox
      generalize cr b (E.take k) = t at *
      go_wp2_with fail
      rw [← hW2]
      clear hW2
      go_quiet ((go_at_call 125; exact quiet_left (HM.out _ _)))
      go_wp2
      · have ht : (sideF b x != sideF b y) = true := by assumption
        go_roundw
        case rel => exact ⟨bELt, k + 1, by omega, by go_num, by rw [HT.out, if_neg (by simpa using ht)]; go_num⟩
        case measure => simp [intOf]; omega
      · have ht : (sideF b x != sideF b y) = false := by first | assumption | (simp; assumption)
        go_roundw
        case rel => exact ⟨bELt, k + 1, by omega, by go_num, by rw [HT.out, if_pos (by simpa using ht)]; rfl⟩
        case measure => simp [intOf]; omega
    · obtain rfl : k = m := by omega
      have ht : E.take k = E := List.take_of_length_le (by rw [HL.out]; exact Nat.le_refl _)
      rw [ht]
      clear ht
      go_wp2
      go_ret
      exact ⟨rfl, hbl⟩

def half2 (b : List Bool) (k n : Nat) : Int := 2 * (cnt (b.take k) : Int) - n
theorem half2_take {b : List Bool} {k n : Nat} {x : Bool} (h : b[k]? = some x) : half2 b (k + 1) n = half2 b k n + if x then 2 else 0 := by
  unfold half2
  rw [cnt_take h]
  cases x <;> simp <;> omega
theorem half2_bd (b : List Bool) (k n : Nat) (hk : k ≤ n) : -(n : Int) ≤ half2 b k n ∧ half2 b k n ≤ n := by
  have := cnt_le b k
  unfold half2
  omega
theorem offB_half {b : List Bool} {n : Nat} (h : b.length = n) : offB b = max (half2 b n n) (-half2 b n n) := by
  unfold offB half2
  rw [h, List.take_of_length_le (by omega)]
theorem off_any (A : Option Addr) (n c : Nat) (b : List Bool) (w : World) (h : RdB w A n b) (hn : n ≤ 1000000000) :
    Calls Tryz.prog 92 #[.slice A n c] w fun e w' => e = .returned (.int .i64 (offB b)) ∧ w = w' := by
  have HO := Lib.hid (offB_half h.1)
  go_enter Tryz.func92, Tryz.ntmps92
  go_wp2
  go_loop [3, 11] (fun t i => ∃ k : Nat, k ≤ n ∧ i = .int .i64 k ∧ t = .int .i64 (half2 b k n)) (fun _ i => n - (intOf i).toNat)
  case atStart => exact ⟨0, Nat.zero_le _, rfl, by simp [half2, cnt]⟩
  case round =>
    obtain ⟨k, hk, rfl, rfl⟩ := hrel
    have hbd := half2_bd b k n hk
    by_cases hlt : k < n
    · obtain ⟨g, o, x, rfl, hx, hc⟩ := h.at_ hlt
      have HS := Lib.hid (half2_take (n := n) hx)
      have i1 : (0 : Int) ≤ (k : Int) := by omega
      have i2 : (k : Int) < (n : Int) := by omega
      clear hx
      generalize half2 b k n = t at *
      cases x
      all_goals
        go_wp2
        go_round
        case rel => exact ⟨k + 1, by omega, by go_num, by first | (rw [HS.out]; done) | (rw [HS.out]; rfl) | (rw [HS.out]; simp; done) | (rw [HS.out]; go_num)⟩
        case measure => simp [intOf]; omega
    · obtain rfl : k = n := by omega
      generalize half2 b k k = t at *
      go_wp2
      all_goals
        go_ret
        exact ⟨ret_int (by first | (rw [HO.out]; done) | (rw [HO.out]; omega)), rfl⟩

end Go.Proofs.YtpffhoefmcpniaaGreatDoor
