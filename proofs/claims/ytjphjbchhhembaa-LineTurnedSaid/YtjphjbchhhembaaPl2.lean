/- Plain laws for LineShares. No walk. -/
import Derived.Test.YtjphjbchhhembaaPl1
namespace Go.Proofs.Ytjphjbchhhembaa

def downI (N : Nat) : List Int := (List.range N).map (fun i : Nat => (N : Int) - 1 - i)
theorem downI_len (N : Nat) : (downI N).length = N := by simp [downI]
theorem downI_at {N k : Nat} (h : k < N) : (downI N)[k]? = some ((N : Int) - 1 - k) := by simp [downI, h]
theorem downI_inv {N k : Nat} {x : Int} (h : (downI N)[k]? = some x) : k < N ∧ x = (N : Int) - 1 - k := by
  have hk : k < N := by have := (List.getElem?_eq_some_iff.1 h).1; rwa [downI_len] at this
  rw [downI_at hk] at h
  exact ⟨hk, by injection h with h; exact h.symm⟩
theorem take_next {α : Type} {l : List α} {k : Nat} {x : α} (h : l[k]? = some x) : l.take (k + 1) = l.take k ++ [x] := by
  rw [List.take_add_one, h]; rfl

theorem two_ends {N : Nat} (h : 2 ≤ N) : 2 * endsN N ≤ N ∧ N ≤ 4 * endsN N ∧ 4 * endsN N ≤ N + 3 ∧ 0 < endsN N := by
  unfold endsN; rw [if_neg (by omega)]; omega

/-- half's marks after k rounds: the last k of N. -/
def lastK (N k : Nat) : List Bool := (List.range N).map (fun j => decide (N - k ≤ j))
theorem lastK_len (N k : Nat) : (lastK N k).length = N := by simp [lastK]
theorem lastK_zero (N : Nat) : lastK N 0 = List.replicate N false := by
  apply List.ext_getElem?
  intro i
  simp only [lastK, List.getElem?_map, List.getElem?_replicate]
  by_cases h : i < N
  · rw [List.getElem?_range h]; simp [h]
  · rw [List.getElem?_eq_none (by simp; omega), if_neg h]; rfl
theorem lastK_set {N k : Nat} (h : k < N) : (lastK N k).set (N - 1 - k) true = lastK N (k + 1) := by
  apply List.ext_getElem?
  intro i
  rw [List.getElem?_set]
  by_cases h1 : N - 1 - k = i
  · rw [if_pos h1, if_pos (by rw [lastK_len]; omega)]
    simp only [lastK, List.getElem?_map]
    rw [List.getElem?_range (by omega)]
    simp; omega
  · rw [if_neg h1]
    simp only [lastK, List.getElem?_map]
    by_cases h2 : i < N
    · rw [List.getElem?_range h2]
      simp only [Option.map_some, Option.some.injEq, decide_eq_decide]
      omega
    · rw [List.getElem?_eq_none (by simp; omega)]
      rfl
theorem cnt_append (a b : List Bool) : cnt (a ++ b) = cnt a + cnt b := by simp [cnt]
theorem cnt_rep_true (n : Nat) : cnt (List.replicate n true) = n := by simp [cnt]
theorem cnt_rep_false (n : Nat) : cnt (List.replicate n false) = 0 := by simp [cnt, List.count_replicate]
theorem cnt_all (l : List Bool) : cnt l ≤ l.length := List.count_le_length
theorem lastK_eq {N k : Nat} (h : k ≤ N) : lastK N k = List.replicate (N - k) false ++ List.replicate k true := by
  apply List.ext_getElem?
  intro i
  simp only [lastK, List.getElem?_map]
  by_cases h1 : i < N
  · rw [List.getElem?_range h1]
    by_cases h2 : i < N - k
    · rw [List.getElem?_append_left (by simpa using h2), List.getElem?_replicate, if_pos h2]; simp; omega
    · rw [List.getElem?_append_right (by simp; omega), List.getElem?_replicate, if_pos (by simp; omega)]; simp; omega
  · rw [List.getElem?_eq_none (by simp; omega), List.getElem?_eq_none (by simp; omega)]; rfl

theorem fair_lastK {N : Nat} (h : 2 ≤ N) : fairB (lastK N ((N + 1) / 2)) = true := by
  have h2 := two_ends h
  have hc : cnt (lastK N ((N + 1) / 2)) = (N + 1) / 2 := by rw [lastK_eq (by omega), cnt_append, cnt_rep_true, cnt_rep_false]; omega
  unfold fairB
  rw [hc, lastK_len]
  simp only [Bool.and_eq_true, decide_eq_true_eq]
  omega

/-- What loop four leaves of side: the last k and the first of the first e. -/
def SideK (N e k : Nat) (s : List Bool) : Prop := s.length = N ∧ ∀ i, i < k → s[N - 1 - i]? = some true ∧ s[e - 1 - i]? = some false
theorem sideK_step {N e k : Nat} {s : List Bool} (h : SideK N e k s) (he : 2 * e ≤ N) (hk : k < e) : SideK N e (k + 1) ((s.set (N - 1 - k) true).set (e - 1 - k) false) := by
  refine ⟨by simp [h.1], fun i hi => ?_⟩
  have hl := h.1
  simp only [List.getElem?_set, List.length_set]
  rcases Nat.lt_or_ge i k with h1 | h1
  · have := h.2 i h1
    constructor
    · rw [if_neg (by omega), if_neg (by omega)]; exact this.1
    · rw [if_neg (by omega), if_neg (by omega)]; exact this.2
  · obtain rfl : i = k := by omega
    constructor
    · rw [if_neg (by omega), if_pos rfl, if_pos (by omega)]
    · rw [if_pos rfl, if_pos (by omega)]
theorem fair_sideK {N : Nat} {s : List Bool} (h2 : 2 ≤ N) (h : SideK N (endsN N) (endsN N) s) : fairB s = true := by
  have ht := two_ends h2
  have hl := h.1
  obtain ⟨e, he⟩ : ∃ e, e = endsN N := ⟨_, rfl⟩
  rw [← he] at h ht
  have e1 : s.take e = List.replicate e false := by
    apply List.ext_getElem?
    intro i
    rw [List.getElem?_take, List.getElem?_replicate]
    by_cases hi : i < e
    · rw [if_pos hi, if_pos hi]
      have := (h.2 (e - 1 - i) (by omega)).2
      rwa [show e - 1 - (e - 1 - i) = i by omega] at this
    · rw [if_neg hi, if_neg hi]
  have e2 : s.drop (N - e) = List.replicate e true := by
    apply List.ext_getElem?
    intro i
    rw [List.getElem?_drop, List.getElem?_replicate]
    by_cases hi : i < e
    · rw [if_pos hi]
      have := (h.2 (e - 1 - i) (by omega)).1
      rwa [show N - 1 - (e - 1 - i) = N - e + i by omega] at this
    · rw [if_neg hi, List.getElem?_eq_none (by omega)]
  have hs1 : cnt s = cnt (s.take (N - e)) + e := by
    conv => lhs; rw [← List.take_append_drop (N - e) s]
    rw [cnt_append, e2, cnt_rep_true]
  have hs2 : cnt s = cnt (s.drop e) := by
    conv => lhs; rw [← List.take_append_drop e s]
    rw [cnt_append, e1, cnt_rep_false]; omega
  have hle : cnt (s.drop e) ≤ N - e := by
    have := cnt_all (s.drop e); rw [List.length_drop, hl] at this; exact this
  unfold fairB
  rw [hl, ← he]
  simp only [Bool.and_eq_true, decide_eq_true_eq]
  omega
end Go.Proofs.Ytjphjbchhhembaa
