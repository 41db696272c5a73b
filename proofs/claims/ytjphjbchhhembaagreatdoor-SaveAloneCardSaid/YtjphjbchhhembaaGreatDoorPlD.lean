/- What SaveAlone makes of a job, of a table; plain. -/
import Derived.Test.YtjphjbchhhembaaGreatDoorPlA
namespace Go.Proofs.YtjphjbchhhembaaGreatDoor
open Go.RowKit

/-- The first k stops load two. -/
def twoTo (st : List (Int × Int)) (k : Nat) : List (Int × Int) := (st.take k).map (fun p => (p.1, 2)) ++ st.drop k
theorem twoTo_zero (st : List (Int × Int)) : twoTo st 0 = st := by simp [twoTo]
theorem twoTo_get {st : List (Int × Int)} {k : Nat} {p : Int × Int} (h : st[k]? = some p) : (twoTo st k)[k]? = some p := by
  have hlt := (List.getElem?_eq_some_iff.1 h).1
  unfold twoTo
  rw [List.getElem?_append_right (by simp; omega)]
  simp [Nat.min_eq_left (Nat.le_of_lt hlt), h]
theorem twoTo_next {st : List (Int × Int)} {k : Nat} {p : Int × Int} (h : st[k]? = some p) : (twoTo st k).set k (p.1, 2) = twoTo st (k + 1) := by
  have hlt := (List.getElem?_eq_some_iff.1 h).1
  have e := (List.getElem?_eq_some_iff.1 h).2
  unfold twoTo
  rw [List.set_append_right _ _ (by simp; omega)]
  have hl : ((st.take k).map (fun p : Int × Int => (p.1, (2 : Int)))).length = k := by simp; omega
  rw [hl, Nat.sub_self, List.drop_eq_getElem_cons hlt, List.set_cons_zero, List.take_succ_eq_append_getElem hlt, e, List.map_append]
  simp
theorem twoTo_all {st : List (Int × Int)} {n : Nat} (h : st.length = n) : ∀ p ∈ twoTo st n, p.2 = 2 := by
  unfold twoTo
  rw [List.take_of_length_le (by omega), List.drop_of_length_le (by omega), List.append_nil]
  intro p hp
  obtain ⟨q, _, rfl⟩ := List.mem_map.1 hp
  rfl
theorem twoTo_len {st : List (Int × Int)} {n k : Nat} (h : st.length = n) : (twoTo st k).length = n := by
  unfold twoTo
  simp
  omega
theorem two_fits {n : Nat} {cap lim : Int} {ls : List (List Int)} {st st2 : List (Int × Int)} (hn : st.length = n) (hn2 : st2.length = n) (h2 : ∀ p ∈ st2, p.2 = 2) (hf : FitsP cap lim ls st) : FitsP 3 lim ls st2 := fun i p hp => by
  have hi := (List.getElem?_eq_some_iff.1 hp).1
  obtain ⟨q, hq⟩ : ∃ q, st[i]? = some q := ⟨_, List.getElem?_eq_getElem (by omega)⟩
  obtain ⟨_, k2, k3, k4, k5⟩ := hf i q hq
  exact ⟨by rw [h2 p (List.mem_of_getElem? hp)]; omega, k2, k3, k4, k5⟩
theorem two_ld {st2 : List (Int × Int)} (h2 : ∀ p ∈ st2, p.2 = 2) : LdOk st2 := fun p hp => by rw [h2 p hp]; omega
theorem two_load {n : Nat} {st2 : List (Int × Int)} (hn : st2.length = n) (h2 : ∀ p ∈ st2, p.2 = 2) (i j : Nat) (hi : i < n) (hj : j < n) : (3 : Int) < loadR st2 [(i : Int) + 1, (j : Int) + 1] := by
  obtain ⟨p, hp⟩ : ∃ p, st2[i]? = some p := ⟨_, List.getElem?_eq_getElem (by omega)⟩
  obtain ⟨q, hq⟩ : ∃ q, st2[j]? = some q := ⟨_, List.getElem?_eq_getElem (by omega)⟩
  unfold loadR
  simp only [List.map_cons, List.map_nil, List.sum_cons, List.sum_nil]
  rw [loadOf_at hp, loadOf_at hq, h2 p (List.mem_of_getElem? hp), h2 q (List.mem_of_getElem? hq)]
  omega

/-- The table whose costs, up to row i and place m, are those by way of the Depot. -/
def ViaTo (N : Nat) (ls ls' : List (List Int)) (i m : Nat) : Prop :=
  Sq N ls' ∧ ∀ a b : Nat, a < N → b < N → stepC ls' a b = if 1 ≤ a ∧ 1 ≤ b ∧ (a < i ∨ (a = i ∧ b < m)) then add2 (stepC ls a 0) (stepC ls 0 b) else stepC ls a b
theorem ViaTo.start {N : Nat} {ls : List (List Int)} (h : Sq N ls) : ViaTo N ls ls 1 1 := ⟨h, fun a b ha hb => by rw [if_neg (by omega)]⟩
theorem stepC_set {ls : List (List Int)} {i m : Nat} {l : List Int} {v : Int} (hl : ls[i]? = some l) (hm : m < l.length) (a b : Nat) : stepC (ls.set i (l.set m v)) a b = if a = i ∧ b = m then v else stepC ls a b := by
  have hi := (List.getElem?_eq_some_iff.1 hl).1
  unfold stepC
  by_cases ha : a = i
  · subst ha
    rw [List.getElem?_set_self hi, hl]
    simp only [Option.bind_some]
    by_cases hb : b = m
    · subst hb
      simp [List.getElem?_set_self hm]
    · rw [List.getElem?_set_ne (Ne.symm hb), if_neg (fun h => hb h.2)]
  · rw [List.getElem?_set_ne (Ne.symm ha), if_neg (fun h => ha h.1)]
theorem ViaTo.next {N : Nat} {ls ls' : List (List Int)} {i m : Nat} {l : List Int} (h : ViaTo N ls ls' i m) (hl : ls'[i]? = some l) (hi : 1 ≤ i) (hm1 : 1 ≤ m) (hm : m < N) : ViaTo N ls (ls'.set i (l.set m (add2 (stepC ls i 0) (stepC ls 0 m)))) i (m + 1) := by
  have hll := h.1.2 i l hl
  refine ⟨⟨by rw [List.length_set]; exact h.1.1, fun k r hr => ?_⟩, fun a b ha hb => ?_⟩
  · have hi' := (List.getElem?_eq_some_iff.1 hl).1
    by_cases e : i = k
    · subst e
      rw [List.getElem?_set_self hi'] at hr
      cases hr
      rw [List.length_set]
      exact hll
    · rw [List.getElem?_set_ne e] at hr
      exact h.1.2 k r hr
  · rw [stepC_set hl (by omega)]
    by_cases e : a = i ∧ b = m
    · obtain ⟨rfl, rfl⟩ := e
      rw [if_pos ⟨rfl, rfl⟩, if_pos (by omega)]
    · rw [if_neg e, h.2 a b ha hb]
      by_cases g : 1 ≤ a ∧ 1 ≤ b ∧ (a < i ∨ (a = i ∧ b < m))
      · rw [if_pos g, if_pos (by omega)]
      · rw [if_neg g, if_neg (by omega)]
theorem ViaTo.wide {N : Nat} {ls ls' : List (List Int)} {i : Nat} (h : ViaTo N ls ls' i N) : ViaTo N ls ls' (i + 1) 1 := ⟨h.1, fun a b ha hb => by
  rw [h.2 a b ha hb]
  by_cases g : 1 ≤ a ∧ 1 ≤ b ∧ (a < i ∨ (a = i ∧ b < N))
  · rw [if_pos g, if_pos (by omega)]
  · rw [if_neg g, if_neg (by omega)]⟩
theorem ViaTo.home {N : Nat} {ls ls' : List (List Int)} {i m : Nat} (h : ViaTo N ls ls' i m) {a : Nat} (ha : a < N) (hN : 0 < N) : stepC ls' a 0 = stepC ls a 0 := by rw [h.2 a 0 ha hN, if_neg (by omega)]
theorem ViaTo.out {N : Nat} {ls ls' : List (List Int)} {i m : Nat} (h : ViaTo N ls ls' i m) {b : Nat} (hb : b < N) (hN : 0 < N) : stepC ls' 0 b = stepC ls 0 b := by rw [h.2 0 b hN hb, if_neg (by omega)]
theorem sqB_of {N : Nat} {ls : List (List Int)} (h : Sq N ls) (hc : ∀ a b : Nat, a < N → b < N → 0 ≤ stepC ls a b ∧ stepC ls a b ≤ INF) : sqB N ls = true := by
  refine sqB_all h.1 (fun i l hl => rowB_all (h.2 i l hl) (fun j x hx => ?_))
  have hi := (List.getElem?_eq_some_iff.1 hl).1
  have hj := (List.getElem?_eq_some_iff.1 hx).1
  have hll := h.2 i l hl
  have h1 := h.1
  have := hc i j (by omega) (by omega)
  rw [stepC_eq hl hx] at this
  unfold INF at this
  exact this
theorem via_sq {N : Nat} {ls ls' : List (List Int)} {i m : Nat} (h : ViaTo N ls ls' i m) (hs : sqB N ls = true) : sqB N ls' = true := sqB_of h.1 (fun a b ha hb => by
  rw [h.2 a b ha hb]
  split
  · exact ⟨add2_lo _ _, add2_hi _ _⟩
  · exact costs_bd hs ha hb)
theorem via_fits {n : Nat} {cap lim : Int} {ls ls' : List (List Int)} {st : List (Int × Int)} {i m : Nat} (h : ViaTo (n + 1) ls ls' i m) (hst : st.length = n) (hf : FitsP cap lim ls st) : FitsP cap lim ls' st := fun k p hp => by
  have hk := (List.getElem?_eq_some_iff.1 hp).1
  rw [h.out (b := k + 1) (by omega) (by omega), h.home (a := k + 1) (by omega) (by omega)]
  exact hf k p hp
theorem via_none {n : Nat} {ls ls' : List (List Int)} (h : ViaTo (n + 1) ls ls' (n + 1) 1) (hs : sqB (n + 1) ls = true) : allSv ls' = [] := by
  refine allSv_none h.1.1 (fun a b ha hb => ?_)
  have k1 := costs_bd hs (i := a + 1) (j := 0) (by omega) (by omega)
  have k2 := costs_bd hs (i := 0) (j := b + 1) (by omega) (by omega)
  rw [h.2 (a + 1) (b + 1) (by omega) (by omega), if_pos (by omega), h.home (a := a + 1) (by omega) (by omega), h.out (b := b + 1) (by omega) (by omega), add2_eq k1.1 k1.2 k2.1 k2.2]
  omega
end Go.Proofs.YtjphjbchhhembaaGreatDoor
