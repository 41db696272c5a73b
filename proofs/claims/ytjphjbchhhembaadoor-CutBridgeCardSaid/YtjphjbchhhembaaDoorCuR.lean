/- Two heaps: what is made, plain. -/
import Derived.Test.YtjphjbchhhembaaDoorCu5
namespace Go.Proofs.YtjphjbchhhembaaDoor
open Go.RowKit

theorem backE_len (i base : Nat) : ∀ t, (backE i base t).length = t
  | 0 => rfl
  | t + 1 => by unfold backE; rw [List.length_append, backE_len i base t]; rfl
theorem heapE_len (base : Nat) : ∀ t, (heapE base t).length ≤ t * t
  | 0 => Nat.le_refl _
  | t + 1 => by
    have := heapE_len base t
    unfold heapE
    rw [List.length_append, backE_len, Nat.add_mul, Nat.mul_add, Nat.one_mul, Nat.mul_one]
    omega
theorem betwE_len (m : Nat) : ∀ k, (betwE m k).length = k
  | 0 => rfl
  | k + 1 => by unfold betwE; rw [List.length_append, betwE_len m k]; rfl
/-- The edges within heaps of the first i points. -/
def edgesTo (m i : Nat) : List Edg := heapE 0 (min i m) ++ heapE m (i - m)
theorem edgesTo_zero (m : Nat) : edgesTo m 0 = [] := by unfold edgesTo; simp [heapE]
theorem edgesTo_next {m i : Nat} (hm : 0 < m) (h : i < 2 * m) : edgesTo m (i + 1) = edgesTo m i ++ backE i (i / m * m) (i - i / m * m) := by
  unfold edgesTo
  rcases div_two hm h with ⟨h1, h2, _⟩ | ⟨h1, h2, _⟩
  · rw [h2, Nat.zero_mul, Nat.sub_zero, show min (i + 1) m = i + 1 by omega, show min i m = i by omega, show i + 1 - m = 0 by omega, show i - m = 0 by omega]
    simp only [heapE, List.append_nil, Nat.zero_add]
  · rw [h2, Nat.one_mul, show min (i + 1) m = m by omega, show min i m = m by omega, show i + 1 - m = (i - m) + 1 by omega]
    simp only [heapE, ← List.append_assoc]
    rw [show m + (i - m) = i by omega]
theorem edgesTo_all (m : Nat) : edgesTo m (2 * m) = heapE 0 m ++ heapE m m := by
  unfold edgesTo
  rw [show min (2 * m) m = m by omega, show 2 * m - m = m by omega]
theorem edgesTo_len {m i : Nat} (hm : m ≤ 8) (h : i ≤ 2 * m) : (edgesTo m i).length ≤ 128 := by
  unfold edgesTo
  rw [List.length_append]
  have h1 := heapE_len 0 (min i m)
  have h2 := heapE_len m (i - m)
  have h3 : min i m * min i m ≤ 8 * 8 := Nat.mul_le_mul (by omega) (by omega)
  have h4 : (i - m) * (i - m) ≤ 8 * 8 := Nat.mul_le_mul (by omega) (by omega)
  omega
theorem backE_mem {i base : Nat} : ∀ {t : Nat} {e : Edg}, e ∈ backE i base t → ∃ j, j < t ∧ e = ((i : Int), ((base + j : Nat) : Int))
  | 0, e, h => by cases h
  | t + 1, e, h => by
    unfold backE at h
    rcases List.mem_append.1 h with h | h
    · obtain ⟨j, hj, e⟩ := backE_mem h
      exact ⟨j, by omega, e⟩
    · exact ⟨t, by omega, List.mem_singleton.1 h⟩
theorem heapE_mem {base : Nat} : ∀ {t : Nat} {e : Edg}, e ∈ heapE base t → ∃ a b : Nat, e = ((a : Int), (b : Int)) ∧ a < base + t ∧ b < base + t
  | 0, e, h => by cases h
  | t + 1, e, h => by
    unfold heapE at h
    rcases List.mem_append.1 h with h | h
    · obtain ⟨a, b, e, h1, h2⟩ := heapE_mem h
      exact ⟨a, b, e, by omega, by omega⟩
    · obtain ⟨j, hj, e⟩ := backE_mem h
      exact ⟨base + t, base + j, e, by omega, by omega⟩
theorem betwE_mem {m : Nat} : ∀ {k : Nat} {e : Edg}, e ∈ betwE m k → ∃ j : Nat, j < k ∧ e = ((j : Int), ((m + j : Nat) : Int))
  | 0, e, h => by cases h
  | k + 1, e, h => by
    unfold betwE at h
    rcases List.mem_append.1 h with h | h
    · obtain ⟨j, hj, e⟩ := betwE_mem h
      exact ⟨j, by omega, e⟩
    · exact ⟨k, by omega, List.mem_singleton.1 h⟩
theorem pair_good {m k : Nat} (hm : 3 ≤ m) (hm2 : m ≤ 8) (hk : k ≤ 2) : Good (pairP m (2 * m)) (pairE m k) := by
  refine ⟨by rw [pairP_len]; omega, fun p hp => ?_, fun e he => ?_⟩
  · unfold pairP at hp
    obtain ⟨i, hi, rfl⟩ := List.mem_map.1 hp
    have hi := List.mem_range.1 hi
    unfold pairPt near1 coordB
    simp only [Bool.and_eq_true, decide_eq_true_eq]
    rcases div_two (by omega) hi with ⟨h1, h2, h3⟩ | ⟨h1, h2, h3⟩
    · rw [h2, h3]; omega
    · rw [h2, h3]; omega
  · rw [pairP_len]
    unfold pairE at he
    rcases List.mem_append.1 he with he | he
    · rcases List.mem_append.1 he with he | he
      · obtain ⟨a, b, rfl, h1, h2⟩ := heapE_mem he
        simp only; omega
      · obtain ⟨a, b, rfl, h1, h2⟩ := heapE_mem he
        simp only; omega
    · obtain ⟨j, hj, rfl⟩ := betwE_mem he
      simp only; omega
theorem heapB_len (m : Nat) : (heapB m).length = 2 * m := by unfold heapB; simp; omega
theorem heapB_cnt (m : Nat) : cnt (heapB m) = m := by unfold heapB cnt; rw [List.count_append, List.count_replicate, List.count_replicate]; simp
/-- The best split of two heaps. -/
theorem pair_best {m k : Nat} {L : List Spl} {s : Spl} (hm : 3 ≤ m) (hm2 : m ≤ 8) (hk : k ≤ 2) (h : IsAll (pairE m k) (pairP m (2 * m)) 12 L) (ho : Opt L 12 s) : s.side = heapB m ∧ s.cross = k ∧ s.dir = 0 := by
  have h2 : 2 ≤ (pairP m (2 * m)).length := by rw [pairP_len]; omega
  have e0 := List.getElem?_eq_getElem (show 0 < L.length by rw [h.1]; omega)
  generalize L[0]'(by rw [h.1]; omega) = s0 at e0
  have h0 := h.2 0 s0 e0
  have hN := h0.near rfl
  rw [pairP_len] at hN
  have hside := pair_near hm hm2 hk hN
  have hc : s0.cross = k := by rw [h0.cross, hside, cr_heapB (by omega)]
  have hs : s = s0 := ho.first e0 (by rw [hside]; unfold offB; rw [heapB_cnt, heapB_len]; omega) (fun i t ht => by
    have h1 := h.2 i t ht
    obtain ⟨u, v, hu, hv, hbu, hbv⟩ := h1.proper h2
    rw [pairP_len] at hu hv
    rw [hc, h1.cross]
    have := pair_least (S := sideF t.side) hm hk hu hv (by rw [sideF_nat]; exact hbu) (by rw [sideF_nat]; exact hbv)
    unfold cr
    omega)
  subst hs
  exact ⟨hside, hc, h0.dir⟩
theorem heapB_get {m i : Nat} (h : i < 2 * m) : (heapB m)[i]? = some (decide (i < m)) := by
  have := heapB_at m i
  rw [List.getD_eq_getElem?_getD] at this
  rw [List.getElem?_eq_getElem (by rw [heapB_len]; exact h)] at this ⊢
  simpa using this
end Go.Proofs.YtjphjbchhhembaaDoor
