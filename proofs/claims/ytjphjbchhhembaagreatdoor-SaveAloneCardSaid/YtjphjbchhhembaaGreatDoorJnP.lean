/- Rounds that are joined: the plain law. -/
import Derived.Test.YtjphjbchhhembaaGreatDoorFits
namespace Go.Proofs.YtjphjbchhhembaaGreatDoor
open Go.RowKit

def singles (n : Nat) : List (List Int) := (List.range n).map (fun i : Nat => [(i : Int) + 1])
def stopsTo (n : Nat) : List Int := (List.range n).map (fun i : Nat => (i : Int) + 1)
def firstOf (rs : List (List Int)) (I : Int) : Int := idxP rs.length (fun i => lastI (rs.getD i []) == I)
def thenOf (rs : List (List Int)) (J : Int) : Int := idxP rs.length (fun i => headI (rs.getD i []) == J)
def joinStep (cap lim : Int) (ls : List (List Int)) (st : List (Int × Int)) (rs : List (List Int)) (s : Sv) : List (List Int) :=
  let f := firstOf rs s.1
  let t := thenOf rs s.2.1
  if f < 0 ∨ t < 0 ∨ f = t then rs else
  let both := rs.getD f.toNat [] ++ rs.getD t.toNat []
  if goesB cap lim ls st both then (rs.set f.toNat both).eraseIdx t.toNat else rs
/-- The rounds part the stops. -/
def Parts (n : Nat) (rs : List (List Int)) : Prop := (∀ r ∈ rs, r ≠ []) ∧ rs.flatten.Perm (stopsTo n)

theorem idxP_range (n : Nat) (p : Nat → Bool) : idxP n p = -1 ∨ ∃ k : Nat, k < n ∧ idxP n p = k ∧ p k = true := by
  unfold idxP
  cases h : (List.range n).find? p with
  | none => left; rfl
  | some k =>
    right
    rw [List.find?_range_eq_some] at h
    exact ⟨k, by simpa using h.2.1, rfl, h.1⟩

theorem perm_erase {α : Type} : ∀ (l : List α) (i : Nat) (h : i < l.length), (l[i] :: l.eraseIdx i).Perm l
  | [], _, h => absurd h (by simp)
  | x :: t, 0, _ => by simp
  | x :: t, i + 1, h => by
    have hi : i < t.length := by simpa using h
    have := perm_erase t i hi
    simp only [List.getElem_cons_succ, List.eraseIdx_cons_succ]
    exact (List.Perm.swap x t[i] _).trans (this.cons x)
theorem joinTwo {rs : List (List Int)} {f t : Nat} (hf : f < rs.length) (ht : t < rs.length) (hne : f ≠ t) : ((rs.set f (rs[f] ++ rs[t])).eraseIdx t).flatten.Perm rs.flatten := by
  have hX : (rs.set f (rs[f] ++ rs[t])).length = rs.length := by simp
  have p1 := perm_erase (rs.set f (rs[f] ++ rs[t])) t (by omega)
  have p2 := perm_erase (rs.set f (rs[f] ++ rs[t])) f (by omega)
  have p3 := perm_erase rs f hf
  rw [List.getElem_set_ne hne] at p1
  rw [List.getElem_set_self, List.eraseIdx_set_eq] at p2
  have q1 := p1.flatten
  have q2 := p2.flatten
  have q3 := p3.flatten
  rw [List.flatten_cons] at q1 q2 q3
  have h4 : (rs[t] ++ ((rs.set f (rs[f] ++ rs[t])).eraseIdx t).flatten).Perm (rs[t] ++ rs.flatten) := by
    refine q1.trans (q2.symm.trans ?_)
    refine ((List.perm_append_comm (l₁ := rs[f]) (l₂ := rs[t])).append_right _).trans ?_
    rw [List.append_assoc]
    exact q3.append_left _
  exact (List.perm_append_left_iff _).1 h4

theorem getD_eq {rs : List (List Int)} {i : Nat} (h : i < rs.length) : rs.getD i [] = rs[i] := by
  rw [List.getD_eq_getElem?_getD, List.getElem?_eq_getElem h]; rfl

/-- What a step does. -/
theorem joinStep_cases (cap lim : Int) (ls : List (List Int)) (st : List (Int × Int)) (rs : List (List Int)) (s : Sv) :
    joinStep cap lim ls st rs s = rs ∨ ∃ (f t : Nat) (hf : f < rs.length) (ht : t < rs.length), f ≠ t ∧ lastI rs[f] = s.1 ∧ headI rs[t] = s.2.1 ∧ goesB cap lim ls st (rs[f] ++ rs[t]) = true ∧ joinStep cap lim ls st rs s = (rs.set f (rs[f] ++ rs[t])).eraseIdx t := by
  unfold joinStep
  rcases idxP_range rs.length (fun i => lastI (rs.getD i []) == s.1) with hf | ⟨f, hf, ef, pf⟩
  · left
    simp only [firstOf, hf]
    rw [if_pos (Or.inl (by omega))]
  · rcases idxP_range rs.length (fun i => headI (rs.getD i []) == s.2.1) with ht | ⟨t, ht, et, pt⟩
    · left
      simp only [thenOf, ht]
      rw [if_pos (Or.inr (Or.inl (by omega)))]
    · simp only [firstOf, thenOf, ef, et, Int.toNat_natCast, getD_eq hf, getD_eq ht]
      by_cases hft : f = t
      · left
        rw [if_pos (Or.inr (Or.inr (by rw [hft])))]
      · rw [if_neg (by omega)]
        by_cases hg : goesB cap lim ls st (rs[f] ++ rs[t]) = true
        · right
          rw [if_pos hg]
          rw [getD_eq hf] at pf
          rw [getD_eq ht] at pt
          exact ⟨f, t, hf, ht, hft, by simpa using pf, by simpa using pt, hg, rfl⟩
        · left
          rw [if_neg hg]

theorem joinStep_parts {n : Nat} {cap lim : Int} {ls : List (List Int)} {st : List (Int × Int)} {rs : List (List Int)} (s : Sv) (h : Parts n rs) : Parts n (joinStep cap lim ls st rs s) := by
  rcases joinStep_cases cap lim ls st rs s with e | ⟨f, t, hf, ht, hne, _, _, _, e⟩
  · rw [e]; exact h
  · rw [e]
    refine ⟨fun r hr => ?_, (joinTwo hf ht hne).trans h.2⟩
    have hr2 := List.mem_of_mem_eraseIdx hr
    rcases List.mem_or_eq_of_mem_set hr2 with h3 | h3
    · exact h.1 r h3
    · rw [h3]
      intro e2
      exact h.1 _ (List.getElem_mem hf) (List.append_eq_nil_iff.1 e2).1
theorem singles_parts (n : Nat) : Parts n (singles n) := by
  refine ⟨fun r hr => ?_, ?_⟩
  · unfold singles at hr
    obtain ⟨i, _, e⟩ := List.mem_map.1 hr
    rw [← e]; simp
  · have : (singles n).flatten = stopsTo n := by
      unfold singles stopsTo
      induction n with
      | zero => rfl
      | succ n ih => rw [List.range_succ, List.map_append, List.map_append, List.flatten_append, ih]; simp
    rw [this]
theorem joinAll_parts {n : Nat} {cap lim : Int} {ls : List (List Int)} {st : List (Int × Int)} (L : List Sv) : ∀ {rs : List (List Int)}, Parts n rs → Parts n (L.foldl (joinStep cap lim ls st) rs) := by
  induction L with
  | nil => intro rs h; exact h
  | cons s t ih => intro rs h; exact ih (joinStep_parts s h)
end Go.Proofs.YtjphjbchhhembaaGreatDoor
