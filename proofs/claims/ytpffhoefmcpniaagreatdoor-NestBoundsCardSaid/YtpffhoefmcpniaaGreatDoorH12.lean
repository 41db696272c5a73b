/- Parts of the proof: QCuP, Pt, NeP. -/
import Derived.Test.YtpffhoefmcpniaaGreatDoorH1
import Derived.Test.YtpffhoefmcpniaaGreatDoorH2
import Derived.Test.YtpffhoefmcpniaaGreatDoorH3
import Derived.Test.YtpffhoefmcpniaaGreatDoorH11
/- Splits: plain. -/
namespace Go.Proofs.YtpffhoefmcpniaaGreatDoor
open Go.RowKit

structure Spl where
  side : List Bool
  cross : Int
  dir : Int
  kind : Int

def natsOf (l : List Int) : List Nat := l.map Int.toNat
theorem nats_of : ∀ {l : List Int}, (∀ x ∈ l, 0 ≤ x) → nats (natsOf l) = l
  | [], _ => rfl
  | x :: l, h => by
    have h0 := h x (List.mem_cons_self ..)
    have ih := nats_of (l := l) (fun y hy => h y (List.mem_cons_of_mem _ hy))
    unfold nats natsOf at *
    simp only [List.map_cons, ih]
    rw [Int.toNat_of_nonneg h0]
/-- The first quarter, the last one, the first half: of the places by the keys of a direction. -/
def srcN (l : List (Int × Int)) (d : Nat) : List Nat := natsOf ((order l d).take (endsN l.length))
def dstN (l : List (Int × Int)) (d : Nat) : List Nat := natsOf ((order l d).drop (l.length - endsN l.length))
def hlfN (l : List (Int × Int)) (d : Nat) : List Nat := natsOf ((order l d).take ((l.length + 1) / 2))
theorem ends_two {n : Nat} (h : 2 ≤ n) : 1 ≤ endsN n ∧ endsN n ≤ (n + 1) / 2 ∧ (n + 1) / 2 + endsN n ≤ n := by
  unfold endsN
  rw [if_neg (by omega)]
  omega
theorem mem_natsOf {l : List Int} {v : Nat} : v ∈ natsOf l ↔ ∃ x ∈ l, x.toNat = v := by simp [natsOf]
theorem natsOf_at {l : List Int} {i v : Nat} (h : (natsOf l)[i]? = some v) : ∃ x, l[i]? = some x ∧ x.toNat = v := by
  unfold natsOf at h
  rw [List.getElem?_map] at h
  cases e : l[i]? with
  | none => rw [e] at h; cases h
  | some x => rw [e] at h; exact ⟨x, rfl, Option.some.inj h⟩
theorem natsOf_nodup : ∀ {l : List Int}, (∀ x ∈ l, 0 ≤ x) → l.Nodup → (natsOf l).Nodup := by
  intro l h0 h
  unfold natsOf
  rw [List.Nodup, List.pairwise_map]
  exact List.Pairwise.imp_of_mem (fun {a b} ha hb hne e => hne (by have := h0 a ha; have := h0 b hb; omega)) h
theorem order_lt {l : List (Int × Int)} {d : Int} {x : Int} (h : x ∈ order l d) : x.toNat < l.length := by have := order_mem h; omega
theorem srcN_lt {l : List (Int × Int)} {d v : Nat} (h : v ∈ srcN l d) : v < l.length := by
  obtain ⟨x, hx, rfl⟩ := mem_natsOf.1 h
  exact order_lt (List.mem_of_mem_take hx)
theorem dstN_lt {l : List (Int × Int)} {d v : Nat} (h : v ∈ dstN l d) : v < l.length := by
  obtain ⟨x, hx, rfl⟩ := mem_natsOf.1 h
  exact order_lt (List.mem_of_mem_drop hx)
theorem hlfN_lt {l : List (Int × Int)} {d v : Nat} (h : v ∈ hlfN l d) : v < l.length := by
  obtain ⟨x, hx, rfl⟩ := mem_natsOf.1 h
  exact order_lt (List.mem_of_mem_take hx)
theorem parted {l : List (Int × Int)} {d : Int} {k j v : Nat} (hkj : k ≤ j) (h1 : v ∈ natsOf ((order l d).take k)) (h2 : v ∈ natsOf ((order l d).drop j)) : False := by
  obtain ⟨x, hx, e1⟩ := mem_natsOf.1 h1
  obtain ⟨y, hy, e2⟩ := mem_natsOf.1 h2
  have hx0 := order_mem (List.mem_of_mem_take hx)
  have hy0 := order_mem (List.mem_of_mem_drop hy)
  obtain rfl : x = y := by omega
  obtain ⟨i, hi, ei⟩ := List.getElem_of_mem hx
  obtain ⟨i', hi', ei'⟩ := List.getElem_of_mem hy
  rw [List.getElem_take] at ei
  rw [List.getElem_drop] at ei'
  rw [List.length_take] at hi
  rw [List.length_drop] at hi'
  exact nodup_at (order_nodup l d) (i := i) (j := j + i') (by omega) (by rw [List.getElem?_eq_getElem (by omega), ei]) (by rw [List.getElem?_eq_getElem (by omega), ei'])
theorem srcN_dst {l : List (Int × Int)} {d v : Nat} (h2 : 2 ≤ l.length) (h : v ∈ dstN l d) : v ∉ srcN l d := fun h1 => parted (by have := ends_two h2; omega) h1 h
theorem srcN_len (l : List (Int × Int)) (d : Nat) : (srcN l d).length = endsN l.length := by
  unfold srcN natsOf
  rw [List.length_map, List.length_take, order_len]
  unfold endsN; split <;> omega
theorem dstN_len (l : List (Int × Int)) (d : Nat) : (dstN l d).length = endsN l.length := by
  unfold dstN natsOf
  rw [List.length_map, List.length_drop, order_len]
  unfold endsN; split <;> omega
theorem srcN_nodup (l : List (Int × Int)) (d : Nat) : (srcN l d).Nodup := natsOf_nodup (fun _ hx => (order_mem (List.mem_of_mem_take hx)).1) ((order_nodup l d).sublist (List.take_sublist _ _))
theorem dstN_nodup (l : List (Int × Int)) (d : Nat) : (dstN l d).Nodup := natsOf_nodup (fun _ hx => (order_mem (List.mem_of_mem_drop hx)).1) ((order_nodup l d).sublist (List.drop_sublist _ _))

/-- The side of the first half. -/
def halfB (l : List (Int × Int)) (d : Nat) : List Bool := mkB l.length (hlfN l d)
theorem half_sep {l : List (Int × Int)} {d : Nat} (h2 : 2 ≤ l.length) : SepB l.length (srcN l d) (dstN l d) (halfB l d) := by
  have he := ends_two h2
  refine ⟨mkB_len _ _, fun v hv => (mkB_at _ _ _).2 ⟨?_, srcN_lt hv⟩, fun v hv => ?_⟩
  · obtain ⟨x, hx, rfl⟩ := mem_natsOf.1 hv
    exact mem_natsOf.2 ⟨x, (List.take_subset_take_left _ he.2.1) hx, rfl⟩
  · cases e : (halfB l d).getD v false
    · rfl
    · exact absurd ((mkB_at _ _ _).1 e).1 (fun h => parted (by omega) h hv)

/-! How many are marked. -/
theorem marks_len (b : List Bool) : ∀ k, k ≤ b.length → ((List.range k).filter (fun i => b.getD i false)).length = cnt (b.take k)
  | 0, _ => rfl
  | k + 1, h => by
    rw [List.range_succ, List.filter_append, List.length_append, marks_len b k (by omega), cnt_take (List.getElem?_eq_getElem (by omega : k < b.length))]
    have : b.getD k false = b[k] := by rw [List.getD_eq_getElem?_getD, List.getElem?_eq_getElem (by omega : k < b.length)]; rfl
    simp only [List.filter_cons, this, List.filter_nil]
    cases b[k] <;> rfl
theorem cnt_ge {b : List Bool} {s : List Nat} (hn : s.Nodup) (h : ∀ v ∈ s, b.getD v false = true) : s.length ≤ cnt b := by
  have h1 := marks_len b b.length (Nat.le_refl _)
  rw [List.take_length] at h1
  rw [← h1]
  exact hn.length_le_of_subset (fun v hv => List.mem_filter.2 ⟨List.mem_range.2 (getD_lt (h v hv)), h v hv⟩)
theorem cnt_not : ∀ b : List Bool, cnt (b.map not) + cnt b = b.length
  | [] => rfl
  | x :: b => by
    have := cnt_not b
    unfold cnt at *
    cases x <;> simp at * <;> omega
theorem cnt_out {b : List Bool} {t : List Nat} (hn : t.Nodup) (h : ∀ v ∈ t, b.getD v false = false) (hlt : ∀ v ∈ t, v < b.length) : t.length + cnt b ≤ b.length := by
  have h1 := cnt_ge (b := b.map not) hn (fun v hv => by
    have h2 := h v hv
    have h3 := hlt v hv
    rw [List.getD_eq_getElem?_getD, List.getElem?_eq_getElem h3] at h2
    rw [List.getD_eq_getElem?_getD, List.getElem?_map, List.getElem?_eq_getElem h3]
    simp at h2
    simp [h2])
  have h2 := cnt_not b
  omega
theorem sep_fair {l : List (Int × Int)} {d : Nat} {b : List Bool} (h2 : 2 ≤ l.length) (h : SepB l.length (srcN l d) (dstN l d) b) : fairB b = true := by
  have h3 := cnt_ge (srcN_nodup l d) h.inn
  have h4 := cnt_out (dstN_nodup l d) h.out (fun v hv => by rw [h.len]; exact dstN_lt hv)
  rw [srcN_len] at h3
  rw [dstN_len] at h4
  rw [h.len] at h4
  unfold fairB
  rw [h.len]
  simp only [Bool.and_eq_true, decide_eq_true_eq]
  exact ⟨h2, h3, by omega⟩

theorem getD_ext {b c : List Bool} (hl : b.length = c.length) (h : ∀ v : Nat, b.getD v false = c.getD v false) : b = c := by
  apply List.ext_getElem?
  intro i
  rcases Nat.lt_or_ge i b.length with h1 | h1
  · have := h i
    rw [List.getD_eq_getElem?_getD, List.getD_eq_getElem?_getD, List.getElem?_eq_getElem h1, List.getElem?_eq_getElem (by omega)] at this
    rw [List.getElem?_eq_getElem h1, List.getElem?_eq_getElem (by omega)]
    simp at this
    rw [this]
  · rw [List.getElem?_eq_none h1, List.getElem?_eq_none (by omega)]
theorem NearB.unique {n : Nat} {E : List Edg} {s t : List Nat} {b c : List Bool} (h : NearB n E s t b) (g : NearB n E s t c) : b = c := by
  have h1 := h.least c g.sep
  have h2 := g.least b h.sep
  refine getD_ext (by rw [h.sep.len, g.sep.len]) (fun v => ?_)
  have a := h.first c g.sep (by omega) v
  have b' := g.first b h.sep (by omega) v
  cases hb : b.getD v false <;> cases hc : c.getD v false
  · rfl
  · rw [b' hc] at hb; cases hb
  · rw [a hb] at hc; cases hc
  · rfl
theorem FarB.unique {n : Nat} {E : List Edg} {s t : List Nat} {b c : List Bool} (h : FarB n E s t b) (g : FarB n E s t c) : b = c := by
  have h1 := h.least c g.sep
  have h2 := g.least b h.sep
  refine getD_ext (by rw [h.sep.len, g.sep.len]) (fun v => ?_)
  have a := h.last c g.sep (by omega) v
  have b' := g.last b h.sep (by omega) v
  cases hb : b.getD v false <;> cases hc : c.getD v false
  · rfl
  · rw [a hc] at hb; cases hb
  · rw [b' hb] at hc; cases hc
  · rfl
theorem NearB.congr {n : Nat} {E E' : List Edg} {s t : List Nat} {b : List Bool} (he : ∀ c, cr c E' = cr c E) (h : NearB n E s t b) : NearB n E' s t b :=
  ⟨h.sep, fun c hc => by rw [he, he]; exact h.least c hc, fun c hc e => h.first c hc (by rw [← he, ← he]; exact e)⟩
theorem FarB.congr {n : Nat} {E E' : List Edg} {s t : List Nat} {b : List Bool} (he : ∀ c, cr c E' = cr c E) (h : FarB n E s t b) : FarB n E' s t b :=
  ⟨h.sep, fun c hc => by rw [he, he]; exact h.least c hc, fun c hc e => h.last c hc (by rw [← he, ← he]; exact e)⟩

/-- What the split at place i of the twelve is. -/
structure IsSpl (E : List Edg) (l : List (Int × Int)) (i : Nat) (s : Spl) : Prop where
  dir : s.dir = ((i / 3 : Nat) : Int)
  kind : s.kind = ((i % 3 : Nat) : Int)
  cross : s.cross = cr s.side E
  near : i % 3 = 0 → NearB l.length E (srcN l (i / 3)) (dstN l (i / 3)) s.side
  far : i % 3 = 1 → FarB l.length E (srcN l (i / 3)) (dstN l (i / 3)) s.side
  half : i % 3 = 2 → s.side = halfB l (i / 3)
def IsAll (E : List Edg) (l : List (Int × Int)) (m : Nat) (L : List Spl) : Prop := L.length = m ∧ ∀ i s, L[i]? = some s → IsSpl E l i s
theorem IsSpl.sep {E : List Edg} {l : List (Int × Int)} {i : Nat} {s : Spl} (h : IsSpl E l i s) (h2 : 2 ≤ l.length) : SepB l.length (srcN l (i / 3)) (dstN l (i / 3)) s.side := by
  rcases (show i % 3 = 0 ∨ i % 3 = 1 ∨ i % 3 = 2 by omega) with h3 | h3 | h3
  · exact (h.near h3).sep
  · exact (h.far h3).sep
  · rw [h.half h3]; exact half_sep h2
theorem IsSpl.unique {E : List Edg} {l : List (Int × Int)} {i : Nat} {s t : Spl} (h : IsSpl E l i s) (g : IsSpl E l i t) : s = t := by
  have hs : s.side = t.side := by
    rcases (show i % 3 = 0 ∨ i % 3 = 1 ∨ i % 3 = 2 by omega) with h3 | h3 | h3
    · exact (h.near h3).unique (g.near h3)
    · exact (h.far h3).unique (g.far h3)
    · rw [h.half h3, g.half h3]
  have h1 := h.cross
  have h2 := g.cross
  have h3 := h.dir.trans g.dir.symm
  have h4 := h.kind.trans g.kind.symm
  rw [← hs, ← h1] at h2
  cases s; cases t
  simp_all
theorem IsAll.unique {E : List Edg} {l : List (Int × Int)} {m : Nat} {L M : List Spl} (h : IsAll E l m L) (g : IsAll E l m M) : L = M := by
  apply List.ext_getElem?
  intro i
  rcases Nat.lt_or_ge i m with h1 | h1
  · have e1 := List.getElem?_eq_getElem (show i < L.length by rw [h.1]; exact h1)
    have e2 := List.getElem?_eq_getElem (show i < M.length by rw [g.1]; exact h1)
    rw [e1, e2, (h.2 i _ e1).unique (g.2 i _ e2)]
  · rw [List.getElem?_eq_none (by rw [h.1]; exact h1), List.getElem?_eq_none (by rw [g.1]; exact h1)]

/-- How far from half. -/
def offB (b : List Bool) : Int := max (2 * (cnt b : Int) - b.length) (-(2 * (cnt b : Int) - b.length))
/-- b is the first of the best of the first k. -/
def Opt (L : List Spl) (k : Nat) (b : Spl) : Prop := ∃ at_ : Nat, at_ < k ∧ L[at_]? = some b ∧ ∀ i s, i < k → L[i]? = some s → ¬ (s.cross < b.cross ∨ (s.cross = b.cross ∧ (offB s.side < offB b.side ∨ (offB s.side = offB b.side ∧ i < at_))))
theorem Opt.one {L : List Spl} {b : Spl} (h : L[0]? = some b) : Opt L 1 b := ⟨0, by omega, h, fun i s hi hs => by
  obtain rfl : i = 0 := by omega
  rw [h] at hs; cases hs; omega⟩
theorem Opt.keep {L : List Spl} {k : Nat} {b s : Spl} (h : Opt L k b) (hs : L[k]? = some s) (hb : s.cross > b.cross ∨ (s.cross = b.cross ∧ offB b.side ≤ offB s.side)) : Opt L (k + 1) b := by
  obtain ⟨a, ha, hL, hall⟩ := h
  refine ⟨a, by omega, hL, fun i t hi ht => ?_⟩
  rcases Nat.lt_or_ge i k with h1 | h1
  · exact hall i t h1 ht
  · obtain rfl : i = k := by omega
    rw [hs] at ht; cases ht; omega
theorem Opt.turn {L : List Spl} {k : Nat} {b s : Spl} (h : Opt L k b) (hs : L[k]? = some s) (hb : s.cross < b.cross ∨ (s.cross = b.cross ∧ offB s.side < offB b.side)) : Opt L (k + 1) s := by
  obtain ⟨a, ha, hL, hall⟩ := h
  refine ⟨k, by omega, hs, fun i t hi ht => ?_⟩
  rcases Nat.lt_or_ge i k with h1 | h1
  · have := hall i t h1 ht
    omega
  · obtain rfl : i = k := by omega
    rw [hs] at ht; cases ht; omega
theorem Opt.unique {L : List Spl} {k : Nat} {b c : Spl} (h : Opt L k b) (g : Opt L k c) : b = c := by
  obtain ⟨a, ha, hL, hall⟩ := h
  obtain ⟨a', ha', hL', hall'⟩ := g
  have h1 := hall a' c ha' hL'
  have h2 := hall' a b ha hL
  obtain rfl : a = a' := by omega
  rw [hL] at hL'
  exact Option.some.inj hL'
theorem offB_nonneg (b : List Bool) : 0 ≤ offB b := by unfold offB; omega
/-- Where the first one is even and none crosses fewer it is the best. -/
theorem Opt.first {L : List Spl} {k : Nat} {b s : Spl} (h : Opt L k b) (h0 : L[0]? = some s) (he : offB s.side = 0) (hm : ∀ (i : Nat) t, L[i]? = some t → s.cross ≤ t.cross) : b = s := by
  obtain ⟨a, ha, hL, hall⟩ := h
  have h1 := hall 0 s (by omega) h0
  have h2 := hm a b hL
  have h3 := offB_nonneg b.side
  obtain rfl : a = 0 := by omega
  rw [hL] at h0
  exact Option.some.inj h0

theorem crossN_cons (S : Int → Bool) (e : Edg) (E : List Edg) : crossN S (e :: E) = (if S e.1 = S e.2 then 0 else 1) + crossN S E := rfl
theorem crossN_app (S : Int → Bool) : ∀ A B : List Edg, crossN S (A ++ B) = crossN S A + crossN S B
  | [], B => by simp [crossN]
  | e :: A, B => by
    simp only [List.cons_append]
    rw [crossN_cons, crossN_cons, crossN_app S A B]; omega
end Go.Proofs.YtpffhoefmcpniaaGreatDoor

/- Parts: what cells that may be are; plain. -/
namespace Go.Proofs.YtpffhoefmcpniaaGreatDoor
open Go.RowKit

theorem snoc_ind {P : List Int → Prop} (h0 : P []) (hs : ∀ l x, P l → P (l ++ [x])) (l : List Int) : P l := by
  have h : ∀ l : List Int, P l.reverse := by
    intro l
    induction l with
    | nil => exact h0
    | cons x l ih => rw [List.reverse_cons]; exact hs _ _ ih
  have := h l.reverse
  rwa [List.reverse_reverse] at this
/-- One more than the greatest number of a row. -/
def mostN (l : List Int) : Int := l.foldl (fun n x => max n (x + 1)) 0
theorem mostN_app (l : List Int) (x : Int) : mostN (l ++ [x]) = max (mostN l) (x + 1) := by simp [mostN]
theorem mostN_nonneg : ∀ l : List Int, 0 ≤ mostN l := by
  refine snoc_ind (by simp [mostN]) (fun l x ih => by rw [mostN_app]; omega)
theorem lt_mostN {l : List Int} {x : Int} : x ∈ l → x < mostN l := by
  revert x
  refine snoc_ind (P := fun l => ∀ {x : Int}, x ∈ l → x < mostN l) (fun h => by cases h) (fun l y ih => ?_) l
  · intro x h
    rw [mostN_app]
    rcases List.mem_append.1 h with h | h
    · have := ih h; omega
    · rw [List.mem_singleton.1 h]; omega
theorem mostN_mem {l : List Int} : 0 < mostN l → ∃ x ∈ l, mostN l = x + 1 := by
  refine snoc_ind (P := fun l => 0 < mostN l → ∃ x ∈ l, mostN l = x + 1) (fun h => by simp [mostN] at h) (fun l y ih => ?_) l
  · intro h
    rw [mostN_app] at h ⊢
    by_cases h1 : mostN l ≤ y + 1
    · exact ⟨y, by simp, by omega⟩
    · have h0 := mostN_nonneg l
      obtain ⟨x, hx, e⟩ := ih (by omega)
      exact ⟨x, List.mem_append_left _ hx, by omega⟩
theorem mostN_le {l : List Int} {n : Int} (h : ∀ x ∈ l, x < n) (hn : 0 ≤ n) : mostN l ≤ n := by
  by_cases h0 : 0 < mostN l
  · obtain ⟨x, hx, e⟩ := mostN_mem h0
    have := h x hx
    omega
  · omega
/-- A level's numbers: of each vertex one, none is left out. -/
structure LvlOk (n : Nat) (l : List Int) : Prop where
  len : l.length = n
  lo : ∀ x ∈ l, 0 ≤ x
  hi : ∀ x ∈ l, x < n
  all : ∀ c : Nat, (c : Int) < mostN l → (c : Int) ∈ l
/-- The cells of a level stand in those of the next one, and in their order. -/
def NestOk (p l : List Int) : Prop := ∀ (a b : Nat) (x y u v : Int), p[a]? = some x → p[b]? = some y → l[a]? = some u → l[b]? = some v → x ≤ y → u ≤ v
/-- Cells that may be. -/
structure PartOk (n : Nat) (ls : List (List Int)) : Prop where
  l1 : 1 ≤ ls.length
  l6 : ls.length ≤ 6
  lvl : ∀ l ∈ ls, LvlOk n l
  nest : ∀ (i : Nat) p l, ls[i]? = some p → ls[i + 1]? = some l → NestOk p l
/-- What is wrong with a level, as an Errno: 0 none. -/
noncomputable def lvlCode (n : Nat) (p : Option (List Int)) (l : List Int) : Int := by
  classical exact if l.length ≠ n then 1 else if LvlOk n l ∧ ∀ q, p = some q → NestOk q l then 0 else 10
end Go.Proofs.YtpffhoefmcpniaaGreatDoor

/- Cells that are built: plain. -/
namespace Go.Proofs.YtpffhoefmcpniaaGreatDoor
open Go.RowKit

/-- Those of l whose mark is c. -/
def sel (c : Bool) : List Nat → List Bool → List Nat
  | v :: vs, b :: bs => if b = c then v :: sel c vs bs else sel c vs bs
  | [], _ => []
  | _ :: _, [] => []
theorem sel_snoc (c x : Bool) (v : Nat) : ∀ (l : List Nat) (b : List Bool), l.length = b.length → sel c (l ++ [v]) (b ++ [x]) = sel c l b ++ if x = c then [v] else []
  | [], [], _ => by simp [sel]
  | [], _ :: _, h => by simp at h
  | _ :: _, [], h => by simp at h
  | u :: l, y :: b, h => by
    have ih := sel_snoc c x v l b (by simpa using h)
    simp only [List.cons_append, sel, ih]
    split <;> simp
theorem sel_take {c x : Bool} {l : List Nat} {b : List Bool} {k v : Nat} (hv : l[k]? = some v) (hb : b[k]? = some x) : sel c (l.take (k + 1)) (b.take (k + 1)) = sel c (l.take k) (b.take k) ++ if x = c then [v] else [] := by
  obtain ⟨h1, e1⟩ := List.getElem?_eq_some_iff.1 hv
  obtain ⟨h2, e2⟩ := List.getElem?_eq_some_iff.1 hb
  rw [List.take_succ_eq_append_getElem h1, List.take_succ_eq_append_getElem h2, e1, e2]
  exact sel_snoc c x v _ _ (by rw [List.length_take, List.length_take]; omega)
theorem sel_len : ∀ (l : List Nat) (b : List Bool), l.length = b.length → (sel true l b).length = cnt b ∧ (sel false l b).length + cnt b = b.length
  | [], [], _ => by simp [sel, cnt]
  | [], _ :: _, h => by simp at h
  | _ :: _, [], h => by simp at h
  | u :: l, y :: b, h => by
    have ih := sel_len l b (by simpa using h)
    unfold cnt at *
    cases y <;> simp [sel] <;> omega
theorem mem_sel {c : Bool} {v : Nat} : ∀ {l : List Nat} {b : List Bool}, v ∈ sel c l b ↔ ∃ i : Nat, l[i]? = some v ∧ b[i]? = some c
  | [], b => by simp [sel]
  | _ :: _, [] => by simp [sel]
  | u :: l, y :: b => by
    have ih := mem_sel (c := c) (v := v) (l := l) (b := b)
    constructor
    · intro h
      unfold sel at h
      split at h
      · rename_i e
        rcases List.mem_cons.1 h with rfl | h
        · exact ⟨0, rfl, by rw [← e]; rfl⟩
        · obtain ⟨i, h1, h2⟩ := ih.1 h
          exact ⟨i + 1, h1, h2⟩
      · obtain ⟨i, h1, h2⟩ := ih.1 h
        exact ⟨i + 1, h1, h2⟩
    · rintro ⟨i, h1, h2⟩
      unfold sel
      cases i with
      | zero =>
        simp at h1 h2
        subst h1 h2
        simp
      | succ i =>
        have := ih.2 ⟨i, by simpa using h1, by simpa using h2⟩
        split
        · exact List.mem_cons_of_mem _ this
        · exact this
theorem sel_sub (c : Bool) : ∀ (l : List Nat) (b : List Bool), (sel c l b).Sublist l
  | [], _ => by simp [sel]
  | _ :: _, [] => by simp [sel]
  | u :: l, y :: b => by
    unfold sel
    split
    · exact (sel_sub c l b).cons_cons u
    · exact (sel_sub c l b).cons u
theorem sel_perm : ∀ (l : List Nat) (b : List Bool), l.length = b.length → (sel true l b ++ sel false l b).Perm l
  | [], [], _ => by simp [sel]
  | [], _ :: _, h => by simp at h
  | _ :: _, [], h => by simp at h
  | u :: l, y :: b, h => by
    have ih := sel_perm l b (by simpa using h)
    cases y
    · simp [sel]
      exact (List.perm_middle).trans (ih.cons u)
    · simp [sel]
      exact ih
/-- Vertices that rise. -/
def PcOk (n : Nat) (vl : List Nat) : Prop := vl.Pairwise (· < ·) ∧ ∀ v ∈ vl, v < n
theorem PcOk.nodup {n : Nat} {vl : List Nat} (h : PcOk n vl) : vl.Nodup := h.1.imp (fun h => Nat.ne_of_lt h)
theorem PcOk.sel {n : Nat} {vl : List Nat} (h : PcOk n vl) (c : Bool) (b : List Bool) : PcOk n (sel c vl b) := ⟨h.1.sublist (sel_sub c vl b), fun v hv => h.2 v ((sel_sub c vl b).subset hv)⟩
theorem rise_len {n : Nat} : ∀ (l : List Nat) (a : Nat), l.Pairwise (· < ·) → (∀ v ∈ l, a ≤ v ∧ v < n) → l.length + a ≤ n ∨ l = []
  | [], _, _, _ => .inr rfl
  | u :: l, a, h, g => by
    have h1 := List.pairwise_cons.1 h
    have g1 := g u (List.mem_cons_self ..)
    rcases rise_len l (u + 1) h1.2 (fun v hv => ⟨h1.1 v hv, (g v (List.mem_cons_of_mem _ hv)).2⟩) with h2 | h2
    · left; simp; omega
    · left; subst h2; simp; omega
theorem PcOk.len {n : Nat} {vl : List Nat} (h : PcOk n vl) : vl.length ≤ n := by
  rcases rise_len vl 0 h.1 (fun v hv => ⟨Nat.zero_le _, h.2 v hv⟩) with h2 | h2
  · omega
  · subst h2; simp

def ptN (N : NetD) (v : Nat) : Int × Int := match N.vs[v]? with | some x => (x.1, x.2.1) | none => (0, 0)
def ptsN (N : NetD) (vl : List Nat) : List (Int × Int) := vl.map (ptN N)
def inA (N : NetD) (vl : List Nat) (k : Nat) : Bool := match N.ar[k]? with | some a => decide (a.1.toNat ∈ vl) && decide (a.2.1.toNat ∈ vl) | none => false
def arcsTo (N : NetD) (vl : List Nat) (k : Nat) : List Nat := (List.range k).filter (inA N vl)
def arcsN (N : NetD) (vl : List Nat) : List Nat := arcsTo N vl N.ar.length
theorem arcsTo_succ (N : NetD) (vl : List Nat) (k : Nat) : arcsTo N vl (k + 1) = arcsTo N vl k ++ if inA N vl k = true then [k] else [] := by
  unfold arcsTo
  rw [List.range_succ, List.filter_append]
  congr 1
  cases h : inA N vl k <;> simp [h]
theorem arcsTo_len (N : NetD) (vl : List Nat) (k : Nat) : (arcsTo N vl k).length ≤ k := by
  have := List.length_filter_le (inA N vl) (List.range k)
  simpa [arcsTo] using this
def edgOf (N : NetD) (vl : List Nat) (k : Nat) : Edg := match N.ar[k]? with | some a => ((vl.idxOf a.1.toNat : Int), (vl.idxOf a.2.1.toNat : Int)) | none => (0, 0)
def edgsN (N : NetD) (vl : List Nat) : List Edg := (arcsN N vl).map (edgOf N vl)
theorem mem_arcsN {N : NetD} {vl : List Nat} {k : Nat} : k ∈ arcsN N vl ↔ ∃ a, N.ar[k]? = some a ∧ a.1.toNat ∈ vl ∧ a.2.1.toNat ∈ vl := by
  unfold arcsN arcsTo
  rw [List.mem_filter, List.mem_range]
  unfold inA
  constructor
  · rintro ⟨h1, h2⟩
    rw [List.getElem?_eq_getElem h1] at h2 ⊢
    simp at h2
    exact ⟨_, rfl, h2.1, h2.2⟩
  · rintro ⟨a, h1, h2, h3⟩
    refine ⟨(List.getElem?_eq_some_iff.1 h1).1, ?_⟩
    rw [h1]
    simp [h2, h3]
theorem edgs_ends (N : NetD) (vl : List Nat) : Ends vl.length (edgsN N vl) := by
  intro e he
  unfold edgsN at he
  obtain ⟨k, hk, rfl⟩ := List.mem_map.1 he
  obtain ⟨a, h1, h2, h3⟩ := mem_arcsN.1 hk
  have g1 := List.idxOf_lt_length_iff.2 h2
  have g2 := List.idxOf_lt_length_iff.2 h3
  unfold edgOf
  rw [h1]
  simp only
  omega

/-- The side of the best split. -/
def IsBest (E : List Edg) (l : List (Int × Int)) (b : List Bool) : Prop := ∃ L s, IsAll E l 12 L ∧ Opt L 12 s ∧ s.side = b
theorem IsBest.unique {E : List Edg} {l : List (Int × Int)} {b c : List Bool} (h : IsBest E l b) (g : IsBest E l c) : b = c := by
  obtain ⟨L, s, h1, h2, h3⟩ := h
  obtain ⟨M, t, g1, g2, g3⟩ := g
  obtain rfl := h1.unique g1
  obtain rfl := h2.unique g2
  rw [← h3, ← g3]
def dflt (n : Nat) : List Bool := List.replicate ((n + 1) / 2) true ++ List.replicate (n / 2) false
open Classical in
noncomputable def bestB (E : List Edg) (l : List (Int × Int)) : List Bool := if h : ∃ b, IsBest E l b then h.choose else dflt l.length
theorem bestB_eq {E : List Edg} {l : List (Int × Int)} {b : List Bool} (h : IsBest E l b) : bestB E l = b := by
  have hx : ∃ b, IsBest E l b := ⟨b, h⟩
  unfold bestB
  rw [dif_pos hx]
  exact hx.choose_spec.unique h
theorem IsBest.fair {E : List Edg} {l : List (Int × Int)} {b : List Bool} (h : IsBest E l b) (h2 : 2 ≤ l.length) : b.length = l.length ∧ endsN l.length ≤ cnt b ∧ endsN l.length + cnt b ≤ l.length := by
  obtain ⟨L, s, h1, ⟨a, ha, hL, _⟩, rfl⟩ := h
  have hs := (h1.2 a s hL).sep h2
  have hf := sep_fair h2 hs
  have hl := hs.len
  unfold fairB at hf
  simp at hf
  rw [hl] at hf
  have := ends_two h2
  have hc : cnt s.side ≤ s.side.length := by unfold cnt; exact List.count_le_length
  omega
theorem bestB_fair (E : List Edg) {l : List (Int × Int)} (h2 : 2 ≤ l.length) : (bestB E l).length = l.length ∧ endsN l.length ≤ cnt (bestB E l) ∧ endsN l.length + cnt (bestB E l) ≤ l.length := by
  by_cases h : ∃ b, IsBest E l b
  · obtain ⟨b, h⟩ := h
    rw [bestB_eq h]
    exact h.fair h2
  · unfold bestB
    rw [dif_neg h]
    have := ends_two h2
    have hc : cnt (dflt l.length) = (l.length + 1) / 2 := by unfold cnt dflt; simp [List.count_append, List.count_replicate]
    have hl : (dflt l.length).length = l.length := by simp [dflt]; omega
    omega
noncomputable def sideN (N : NetD) (vl : List Nat) : List Bool := bestB (edgsN N vl) (ptsN N vl)
noncomputable def hlf (N : NetD) (c : Bool) (vl : List Nat) : List Nat := sel c vl (sideN N vl)
theorem pts_len (N : NetD) (vl : List Nat) : (ptsN N vl).length = vl.length := by simp [ptsN]
theorem side_fair (N : NetD) {vl : List Nat} (h2 : 2 ≤ vl.length) : (sideN N vl).length = vl.length ∧ endsN vl.length ≤ cnt (sideN N vl) ∧ endsN vl.length + cnt (sideN N vl) ≤ vl.length := by
  have := bestB_fair (edgsN N vl) (l := ptsN N vl) (by rw [pts_len]; exact h2)
  rw [pts_len] at this
  exact this
theorem hlf_len (N : NetD) (c : Bool) {vl : List Nat} (h2 : 2 ≤ vl.length) : (hlf N c vl).length < vl.length ∧ vl.length ≤ 4 * (hlf N c vl).length := by
  have h := side_fair N h2
  have g := sel_len vl (sideN N vl) h.1.symm
  have e := ends_two h2
  have q : vl.length ≤ 4 * endsN vl.length := by unfold endsN; rw [if_neg (by omega)]; omega
  unfold hlf
  cases c <;> omega
theorem hlf_perm (N : NetD) {vl : List Nat} (h2 : 2 ≤ vl.length) : (hlf N true vl ++ hlf N false vl).Perm vl := sel_perm _ _ (side_fair N h2).1.symm
theorem PcOk.hlf {n : Nat} {vl : List Nat} (h : PcOk n vl) (N : NetD) (c : Bool) : PcOk n (hlf N c vl) := h.sel c _
/-- A piece, cut till none has more than bd. -/
noncomputable def pcs (N : NetD) (bd : Nat) (vl : List Nat) : List (List Nat) :=
  if vl.length = 0 then [] else if _h : vl.length ≤ bd ∨ vl.length < 2 then [vl] else pcs N bd (hlf N true vl) ++ pcs N bd (hlf N false vl)
termination_by vl.length
decreasing_by
  · exact (hlf_len N true (by omega)).1
  · exact (hlf_len N false (by omega)).1
theorem pcs_nil (N : NetD) (bd : Nat) : pcs N bd [] = [] := by rw [pcs]; simp
theorem pcs_one (N : NetD) {bd : Nat} {vl : List Nat} (h0 : vl.length ≠ 0) (h : vl.length ≤ bd ∨ vl.length < 2) : pcs N bd vl = [vl] := by rw [pcs, if_neg h0, dif_pos h]
theorem pcs_two (N : NetD) {bd : Nat} {vl : List Nat} (h : bd < vl.length) (h2 : 2 ≤ vl.length) : pcs N bd vl = pcs N bd (hlf N true vl) ++ pcs N bd (hlf N false vl) := by
  rw [pcs, if_neg (by omega), dif_neg (by omega)]
theorem pcs_ind (N : NetD) (bd : Nat) {Q : List Nat → List (List Nat) → Prop} (h0 : Q [] []) (h1 : ∀ vl, vl.length ≠ 0 → (vl.length ≤ bd ∨ vl.length < 2) → Q vl [vl])
    (h2 : ∀ vl, 2 ≤ vl.length → bd < vl.length → Q (hlf N true vl) (pcs N bd (hlf N true vl)) → Q (hlf N false vl) (pcs N bd (hlf N false vl)) → Q vl (pcs N bd (hlf N true vl) ++ pcs N bd (hlf N false vl))) : ∀ vl, Q vl (pcs N bd vl) := by
  have H : ∀ (n : Nat) (vl : List Nat), vl.length = n → Q vl (pcs N bd vl) := by
    intro n
    induction n using Nat.strongRecOn with
    | ind n ih =>
      intro vl hn
      by_cases e0 : vl.length = 0
      · rw [List.eq_nil_of_length_eq_zero e0, pcs_nil]; exact h0
      · by_cases e1 : vl.length ≤ bd ∨ vl.length < 2
        · rw [pcs_one N e0 e1]; exact h1 vl e0 e1
        · have t2 : 2 ≤ vl.length := by omega
          rw [pcs_two N (by omega) t2]
          exact h2 vl t2 (by omega) (ih _ (by rw [← hn]; exact (hlf_len N true t2).1) _ rfl) (ih _ (by rw [← hn]; exact (hlf_len N false t2).1) _ rfl)
  exact fun vl => H _ vl rfl
theorem pcs_perm (N : NetD) (bd : Nat) : ∀ vl, (pcs N bd vl).flatten.Perm vl := by
  refine pcs_ind N bd (Q := fun vl ps => ps.flatten.Perm vl) (by simp) (fun vl _ _ => by simp) (fun vl t2 _ h1 h2 => ?_)
  rw [List.flatten_append]
  exact (h1.append h2).trans (hlf_perm N t2)
theorem pcs_ok {n : Nat} (N : NetD) (bd : Nat) : ∀ vl, PcOk n vl → ∀ p ∈ pcs N bd vl, PcOk n p ∧ p ≠ [] := by
  refine pcs_ind N bd (Q := fun vl ps => PcOk n vl → ∀ p ∈ ps, PcOk n p ∧ p ≠ []) (fun _ p hp => by cases hp) (fun vl h0 _ h p hp => ?_) (fun vl _ _ h1 h2 h p hp => ?_)
  · rw [List.mem_singleton.1 hp]
    exact ⟨h, fun e => h0 (by rw [e]; rfl)⟩
  · rcases List.mem_append.1 hp with hp | hp
    · exact h1 (h.hlf N true) p hp
    · exact h2 (h.hlf N false) p hp
theorem pcs_le (N : NetD) {bd : Nat} (hb : 1 ≤ bd) : ∀ vl, ∀ p ∈ pcs N bd vl, p.length ≤ bd := by
  refine pcs_ind N bd (Q := fun vl ps => ∀ p ∈ ps, p.length ≤ bd) (fun p hp => by cases hp) (fun vl h0 h p hp => ?_) (fun vl _ _ h1 h2 p hp => ?_)
  · rw [List.mem_singleton.1 hp]; omega
  · rcases List.mem_append.1 hp with hp | hp
    · exact h1 p hp
    · exact h2 p hp
theorem pcs_quarter (N : NetD) (bd : Nat) : ∀ vl, ∀ p ∈ pcs N bd vl, p = vl ∨ bd + 1 ≤ 4 * p.length := by
  refine pcs_ind N bd (Q := fun vl ps => ∀ p ∈ ps, p = vl ∨ bd + 1 ≤ 4 * p.length) (fun p hp => by cases hp) (fun vl h0 h p hp => .inl (List.mem_singleton.1 hp)) (fun vl t2 hb h1 h2 p hp => ?_)
  have g1 := (hlf_len N true t2).2
  have g2 := (hlf_len N false t2).2
  rcases List.mem_append.1 hp with hp | hp
  · rcases h1 p hp with rfl | h
    · exact .inr (by omega)
    · exact .inr h
  · rcases h2 p hp with rfl | h
    · exact .inr (by omega)
    · exact .inr h
theorem pcs_many (N : NetD) {bd : Nat} {vl : List Nat} (h : 1 < (pcs N bd vl).length) {p : List Nat} (hp : p ∈ pcs N bd vl) : bd + 1 ≤ 4 * p.length := by
  by_cases e0 : vl.length = 0
  · rw [List.eq_nil_of_length_eq_zero e0, pcs_nil] at h; simp at h
  by_cases e1 : vl.length ≤ bd ∨ vl.length < 2
  · rw [pcs_one N e0 e1] at h; simp at h
  have t2 : 2 ≤ vl.length := by omega
  rw [pcs_two N (by omega) t2] at hp
  have g1 := (hlf_len N true t2).2
  have g2 := (hlf_len N false t2).2
  rcases List.mem_append.1 hp with hp | hp
  · rcases pcs_quarter N bd _ p hp with rfl | h
    · omega
    · exact h
  · rcases pcs_quarter N bd _ p hp with rfl | h
    · omega
    · exact h
theorem flat_ones : ∀ {ps : List (List Nat)}, (∀ p ∈ ps, p.length = 1) → ps.flatten.length = ps.length
  | [], _ => rfl
  | p :: ps, h => by
    have := flat_ones (ps := ps) (fun q hq => h q (List.mem_cons_of_mem _ hq))
    have h1 := h p (List.mem_cons_self ..)
    simp at this ⊢
    omega
theorem pcs_ones (N : NetD) {n : Nat} {vl : List Nat} (h : PcOk n vl) : (pcs N 1 vl).length = vl.length := by
  rw [← (pcs_perm N 1 vl).length_eq, flat_ones]
  intro p hp
  have h1 := pcs_le N (Nat.le_refl 1) vl p hp
  have h2 := (pcs_ok N 1 vl h p hp).2
  have : p.length ≠ 0 := fun e => h2 (List.eq_nil_of_length_eq_zero e)
  omega
/-- Weights turn nothing. -/
structure SameW (N M : NetD) : Prop where
  vs : M.vs = N.vs
  ends : M.ar.map (fun a => (a.1, a.2.1)) = N.ar.map (fun a => (a.1, a.2.1))
theorem SameW.at_ {N M : NetD} (h : SameW N M) (k : Nat) : (M.ar[k]?).map (fun a => (a.1, a.2.1)) = (N.ar[k]?).map (fun a => (a.1, a.2.1)) := by
  have := congrArg (fun l => l[k]?) h.ends
  simpa using this
theorem SameW.inA {N M : NetD} (h : SameW N M) (vl : List Nat) (k : Nat) : inA M vl k = inA N vl k := by
  have := h.at_ k
  unfold Go.Proofs.YtpffhoefmcpniaaGreatDoor.inA
  cases h1 : M.ar[k]? <;> cases h2 : N.ar[k]? <;> simp [h1, h2] at this ⊢
  rw [this.1, this.2]
theorem SameW.edg {N M : NetD} (h : SameW N M) (vl : List Nat) (k : Nat) : edgOf M vl k = edgOf N vl k := by
  have := h.at_ k
  unfold edgOf
  cases h1 : M.ar[k]? <;> cases h2 : N.ar[k]? <;> simp [h1, h2] at this ⊢
  rw [this.1, this.2]
  exact ⟨rfl, rfl⟩
theorem SameW.side {N M : NetD} (h : SameW N M) (vl : List Nat) : sideN M vl = sideN N vl := by
  have hl : M.ar.length = N.ar.length := by
    have := congrArg List.length h.ends
    simpa using this
  have e1 : edgsN M vl = edgsN N vl := by
    unfold edgsN arcsN arcsTo
    rw [hl, List.filter_congr (fun k _ => h.inA vl k)]
    exact List.map_congr_left (fun k _ => h.edg vl k)
  have e2 : ptsN M vl = ptsN N vl := by unfold ptsN; exact List.map_congr_left (fun v _ => by unfold ptN; rw [h.vs])
  unfold sideN
  rw [e1, e2]
theorem SameW.pcs {N M : NetD} (h : SameW N M) (bd : Nat) : ∀ vl, pcs M bd vl = pcs N bd vl := by
  refine pcs_ind N bd (Q := fun vl ps => Go.Proofs.YtpffhoefmcpniaaGreatDoor.pcs M bd vl = ps) (pcs_nil M bd) (fun vl h0 h1 => pcs_one M h0 h1) (fun vl t2 hb h1 h2 => ?_)
  rw [pcs_two M hb t2]
  unfold Go.Proofs.YtpffhoefmcpniaaGreatDoor.hlf at *
  rw [h.side vl, h1, h2]
end Go.Proofs.YtpffhoefmcpniaaGreatDoor
