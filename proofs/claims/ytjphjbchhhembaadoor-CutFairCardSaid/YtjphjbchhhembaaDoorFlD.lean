/- How many edges with room lead to each vertex: plain. -/
import Derived.Test.YtjphjbchhhembaaDoorFl1
namespace Go.Proofs.YtjphjbchhhembaaDoor
open Go.RowKit

/-- There is room along a link, this way round (y = 1) or the other one (y = -1). -/
def rm (f : List Int) (y : Int) (k : Lnk) : Prop := f.getD k.e 0 ≠ y * k.y
def Go1 (ls : List (List Lnk)) (f : List Int) (y : Int) (u v : Nat) : Prop := ∃ k ∈ ls.getD u [], k.v = v ∧ rm f y k
def dAt (d : List Int) (v : Nat) : Int := d.getD v (-1)
structure Dep (n : Nat) (ls : List (List Lnk)) (f : List Int) (y : Int) (s : List Nat) (d : List Int) : Prop where
  len : d.length = n
  lo : ∀ v, -1 ≤ dAt d v
  hi : ∀ v, dAt d v < n
  zero : ∀ v, dAt d v = 0 → v ∈ s
  pre : ∀ v, 0 < dAt d v → ∃ u, dAt d u + 1 = dAt d v ∧ Go1 ls f y u v
  src : ∀ v ∈ s, 0 ≤ dAt d v
  closed : ∀ u v, 0 ≤ dAt d u → Go1 ls f y u v → 0 ≤ dAt d v
/-- What is known while the row grows. -/
structure Inv1 (n : Nat) (ls : List (List Lnk)) (f : List Int) (y : Int) (s : List Nat) (d : List Int) (q : List Nat) : Prop where
  len : d.length = n
  nodup : q.Nodup
  lt : ∀ v ∈ q, v < n
  lo : ∀ v, -1 ≤ dAt d v
  mem : ∀ v, v ∈ q ↔ 0 ≤ dAt d v
  hi : ∀ (p v : Nat), q[p]? = some v → dAt d v ≤ p
  pre : ∀ v ∈ q, (dAt d v = 0 ∧ v ∈ s) ∨ ∃ u, dAt d u + 1 = dAt d v ∧ 0 ≤ dAt d u ∧ Go1 ls f y u v
theorem dAt_rep (n v : Nat) : dAt (List.replicate n (-1)) v = -1 := by
  unfold dAt
  rw [List.getD_eq_getElem?_getD, List.getElem?_replicate]
  split <;> rfl
theorem dAt_set {d : List Int} {a : Nat} {x : Int} (ha : a < d.length) (v : Nat) : dAt (d.set a x) v = if v = a then x else dAt d v := by
  unfold dAt
  rw [List.getD_eq_getElem?_getD, List.getElem?_set]
  by_cases e : a = v
  · subst e
    rw [if_pos rfl, if_pos ha, if_pos rfl]
    rfl
  · rw [if_neg e, if_neg (Ne.symm e), ← List.getD_eq_getElem?_getD]
theorem Inv1.start (n : Nat) (ls : List (List Lnk)) (f : List Int) (y : Int) (s : List Nat) : Inv1 n ls f y s (List.replicate n (-1)) [] :=
  ⟨by simp, List.nodup_nil, (fun v h => by cases h), (fun v => by rw [dAt_rep]; omega), (fun v => by rw [dAt_rep]; simp), (fun p v h => by simp at h), (fun v h => by cases h)⟩
theorem Inv1.size {n : Nat} {ls : List (List Lnk)} {f : List Int} {y : Int} {s : List Nat} {d : List Int} {q : List Nat} (h : Inv1 n ls f y s d q) : q.length ≤ n := by
  have h1 : q.length ≤ (List.range n).length := h.nodup.length_le_of_subset (fun v hv => List.mem_range.2 (h.lt v hv))
  simpa using h1
theorem Inv1.add {n : Nat} {ls : List (List Lnk)} {f : List Int} {y : Int} {s : List Nat} {d : List Int} {q : List Nat} {a : Nat} {x : Int} (h : Inv1 n ls f y s d q) (ha : a < n) (hd : dAt d a < 0) (hx0 : 0 ≤ x) (hx : x ≤ q.length)
    (hp : (x = 0 ∧ a ∈ s) ∨ ∃ u, dAt d u + 1 = x ∧ 0 ≤ dAt d u ∧ Go1 ls f y u a) : Inv1 n ls f y s (d.set a x) (q ++ [a]) := by
  have hal : a < d.length := by rw [h.len]; exact ha
  have hna : a ∉ q := fun e => by have := (h.mem a).1 e; omega
  have old : ∀ v, v ∈ q → dAt (d.set a x) v = dAt d v := fun v hv => by
    rw [dAt_set hal, if_neg (fun e => hna (by rw [← e]; exact hv))]
  refine ⟨by rw [List.length_set]; exact h.len, ?_, fun v hv => ?_, fun v => ?_, fun v => ?_, fun p v hv => ?_, fun v hv => ?_⟩
  · rw [List.nodup_append]
    exact ⟨h.nodup, by simp, fun b hb c hc e => hna (by rw [List.mem_singleton.1 hc] at e; rw [← e]; exact hb)⟩
  · rcases List.mem_append.1 hv with h1 | h1
    · exact h.lt v h1
    · rw [List.mem_singleton.1 h1]; exact ha
  · rw [dAt_set hal]
    split
    · omega
    · exact h.lo v
  · rw [dAt_set hal, List.mem_append, List.mem_singleton]
    by_cases e : v = a
    · rw [if_pos e]; simp [e, hx0]
    · rw [if_neg e, ← h.mem v]; simp [e]
  · rcases Nat.lt_trichotomy p q.length with h1 | h1 | h1
    · rw [List.getElem?_append_left h1] at hv
      rw [old v (List.mem_of_getElem? hv)]
      exact h.hi p v hv
    · subst h1
      rw [List.getElem?_append_right (Nat.le_refl _), Nat.sub_self] at hv
      cases hv
      rw [dAt_set hal, if_pos rfl]
      exact hx
    · rw [List.getElem?_eq_none (by simp; omega)] at hv
      cases hv
  · rcases List.mem_append.1 hv with h1 | h1
    · rw [old v h1]
      rcases h.pre v h1 with h2 | ⟨u, k1, k2, k3⟩
      · exact .inl h2
      · exact .inr ⟨u, by rw [old u ((h.mem u).2 k2)]; exact k1, by rw [old u ((h.mem u).2 k2)]; exact k2, k3⟩
    · rw [List.mem_singleton.1 h1, dAt_set hal, if_pos rfl]
      rcases hp with hp | ⟨u, k1, k2, k3⟩
      · exact .inl hp
      · exact .inr ⟨u, by rw [old u ((h.mem u).2 k2)]; exact k1, by rw [old u ((h.mem u).2 k2)]; exact k2, k3⟩
/-- The first i of the row have been gone from; of the next one the first j links. -/
def Gone (ls : List (List Lnk)) (f : List Int) (y : Int) (q : List Nat) (i j : Nat) : Prop :=
  (∀ (p v : Nat) (k : Lnk), p < i → q[p]? = some v → k ∈ ls.getD v [] → rm f y k → k.v ∈ q) ∧ ∀ (v : Nat) (k : Lnk), q[i]? = some v → k ∈ (ls.getD v []).take j → rm f y k → k.v ∈ q
theorem Gone.start (ls : List (List Lnk)) (f : List Int) (y : Int) (q : List Nat) : Gone ls f y q 0 0 := ⟨fun _ _ _ h => absurd h (by omega), fun _ _ _ h => by simp at h⟩
theorem Gone.more {ls : List (List Lnk)} {f : List Int} {y : Int} {q q' : List Nat} {i j : Nat} (h : Gone ls f y q i j) (hi : i < q.length) (t : List Nat) (hq : q' = q ++ t) : Gone ls f y q' i j := by
  subst hq
  refine ⟨fun p v k hp hv hk hr => List.mem_append_left _ (h.1 p v k hp ?_ hk hr), fun v k hv hk hr => List.mem_append_left _ (h.2 v k ?_ hk hr)⟩
  · rwa [List.getElem?_append_left (by omega)] at hv
  · rwa [List.getElem?_append_left hi] at hv
theorem Gone.link {ls : List (List Lnk)} {f : List Int} {y : Int} {q : List Nat} {i j v : Nat} {k : Lnk} (h : Gone ls f y q i j) (hv : q[i]? = some v) (hk : (ls.getD v [])[j]? = some k) (hr : rm f y k → k.v ∈ q) : Gone ls f y q i (j + 1) := by
  refine ⟨h.1, fun v' k' hv' hk' hr' => ?_⟩
  rw [hv] at hv'
  cases hv'
  have hlt := (List.getElem?_eq_some_iff.1 hk).1
  rw [List.take_succ_eq_append_getElem hlt, List.mem_append, List.mem_singleton] at hk'
  rcases hk' with hk' | hk'
  · exact h.2 v k' hv hk' hr'
  · rw [(List.getElem?_eq_some_iff.1 hk).2] at hk'
    subst hk'
    exact hr hr'
theorem Gone.next {ls : List (List Lnk)} {f : List Int} {y : Int} {q : List Nat} {i v : Nat} (hv : q[i]? = some v) (h : Gone ls f y q i (ls.getD v []).length) : Gone ls f y q (i + 1) 0 := by
  refine ⟨fun p v' k hp hv' hk hr => ?_, fun _ _ _ h => by simp at h⟩
  rcases Nat.lt_or_ge p i with h1 | h1
  · exact h.1 p v' k h1 hv' hk hr
  · obtain rfl : p = i := by omega
    rw [hv] at hv'
    cases hv'
    exact h.2 v k hv (by rw [List.take_length]; exact hk) hr
theorem dep_of {n : Nat} {ls : List (List Lnk)} {f : List Int} {y : Int} {s : List Nat} {d : List Int} {q : List Nat} (h : Inv1 n ls f y s d q) (hs : ∀ v ∈ s, v ∈ q) (hg : Gone ls f y q q.length 0) : Dep n ls f y s d :=
  ⟨h.len, h.lo, (fun v => by
    by_cases h1 : dAt d v < 0
    · omega
    · have h1 : 0 ≤ dAt d v := by omega
      have hv := (h.mem v).2 h1
      obtain ⟨p, hp, e⟩ := List.getElem_of_mem hv
      have := h.hi p v (by rw [List.getElem?_eq_getElem hp, e])
      have := h.size
      omega), (fun v hv => by
    rcases h.pre v ((h.mem v).2 (by omega)) with h1 | ⟨u, k1, k2, _⟩
    · exact h1.2
    · omega), (fun v hv => by
    rcases h.pre v ((h.mem v).2 (by omega)) with h1 | ⟨u, k1, k2, k3⟩
    · omega
    · exact ⟨u, k1, k3⟩), (fun v hv => (h.mem v).1 (hs v hv)), fun u v hu ⟨k, hk, hkv, hr⟩ => by
    obtain ⟨p, hp, e⟩ := List.getElem_of_mem ((h.mem u).2 hu)
    have := hg.1 p u k hp (by rw [List.getElem?_eq_getElem hp, e]) hk hr
    rw [hkv] at this
    exact (h.mem v).1 this⟩
end Go.Proofs.YtjphjbchhhembaaDoor
