/- Rounds that are joined: what SaveRight, SaveAlone, SaveLine say, in plain Lean. -/
import Derived.Test.YtjphjbchhhembaaGreatDoorJnP
namespace Go.Proofs.YtjphjbchhhembaaGreatDoor
open Go.RowKit

/-- What a walk on from i costs, home and all, of no bound. -/
def lenE (ls : List (List Int)) : Nat → List Int → Int
  | i, [] => stepC ls i 0
  | i, k :: t => stepC ls i k.toNat + lenE ls k.toNat t
/-- A table whose costs are costs. -/
def Costs (N : Nat) (ls : List (List Int)) : Prop := ls.length = N + 1 ∧ ∀ i j : Nat, i < N + 1 → j < N + 1 → 0 ≤ stepC ls i j ∧ stepC ls i j ≤ INF
theorem costs_of {N : Nat} {ls : List (List Int)} (hs : sqB (N + 1) ls = true) : Costs N ls := by
  refine ⟨sqB_size hs, fun i j hi hj => ?_⟩
  obtain ⟨hlen, hrow⟩ := sq_of hs
  have h1 : ls[i]? = some ls[i] := List.getElem?_eq_getElem (by omega)
  have h2 := hrow i _ h1
  have h3 : ls[i][j]? = some ls[i][j] := List.getElem?_eq_getElem (by omega)
  rw [stepC_eq h1 h3]
  exact (sqB_get hs h1).2 _ (List.getElem_mem _)
theorem lenE_lo {N : Nat} {ls : List (List Int)} (hc : Costs N ls) : ∀ (r : List Int) (i : Nat), i < N + 1 → (∀ s ∈ r, 1 ≤ s ∧ s ≤ N) → 0 ≤ lenE ls i r
  | [], i, hi, _ => (hc.2 i 0 hi (by omega)).1
  | k :: t, i, hi, h => by
    have hk := h k List.mem_cons_self
    have h1 := (hc.2 i k.toNat hi (by omega)).1
    have h2 := lenE_lo hc t k.toNat (by omega) (fun s hs => h s (List.mem_cons_of_mem _ hs))
    unfold lenE
    omega
theorem lenGo_eq {N : Nat} {ls : List (List Int)} (hc : Costs N ls) : ∀ (r : List Int) (i : Nat) (x : Int), i < N + 1 → (∀ s ∈ r, 1 ≤ s ∧ s ≤ N) → 0 ≤ x → lenGo ls i (min x INF) r = min (x + lenE ls i r) INF
  | [], i, x, hi, _, hx => by
    have h1 := hc.2 i 0 hi (by omega)
    unfold lenGo lenE
    unfold INF at *
    rw [add2_eq (by omega) (by unfold INF; omega) h1.1 (by unfold INF; omega)]
    unfold INF
    omega
  | k :: t, i, x, hi, h, hx => by
    have hk := h k List.mem_cons_self
    have h1 := hc.2 i k.toNat hi (by omega)
    have h2 := lenE_lo hc t k.toNat (by omega) (fun s hs => h s (List.mem_cons_of_mem _ hs))
    have h0 := hc.1
    unfold lenGo lenE
    rw [if_neg (by omega), add2_eq (by unfold INF; omega) (by omega) h1.1 h1.2]
    have e : min (min x INF + stepC ls i k.toNat) INF = min (x + stepC ls i k.toNat) INF := by omega
    rw [e, lenGo_eq hc t k.toNat _ (by omega) (fun s hs => h s (List.mem_cons_of_mem _ hs)) (by omega)]
    congr 1
    omega
theorem lenR_eq {N : Nat} {ls : List (List Int)} (hc : Costs N ls) {r : List Int} (hr : r ≠ []) (h : ∀ s ∈ r, 1 ≤ s ∧ s ≤ N) : lenR ls r = min (lenE ls 0 r) INF := by
  unfold lenR
  rw [if_neg hr]
  have := lenGo_eq hc r 0 0 (by omega) h (by omega)
  rw [show min (0 : Int) INF = 0 by decide, Int.zero_add] at this
  exact this

/-- What all rounds cost, of no bound. -/
def sumE (ls : List (List Int)) (rs : List (List Int)) : Int := (rs.map (lenE ls 0)).sum
/-- Rounds of stops that are. -/
def Within (N : Nat) (rs : List (List Int)) : Prop := ∀ r ∈ rs, r ≠ [] ∧ ∀ s ∈ r, 1 ≤ s ∧ s ≤ (N : Int)
theorem totalR_go {N : Nat} {ls : List (List Int)} (hc : Costs N ls) : ∀ (rs : List (List Int)) (x : Int), Within N rs → 0 ≤ x → rs.foldl (fun a r => add2 a (lenR ls r)) (min x INF) = min (x + sumE ls rs) INF
  | [], x, _, hx => by simp [sumE]
  | r :: t, x, h, hx => by
    obtain ⟨h1, h2⟩ := h r List.mem_cons_self
    have h3 := lenE_lo hc r 0 (by omega) h2
    rw [List.foldl_cons, lenR_eq hc h1 h2, add2_eq (by unfold INF; omega) (by omega) (by unfold INF; omega) (by omega)]
    have e : min (min x INF + min (lenE ls 0 r) INF) INF = min (x + lenE ls 0 r) INF := by unfold INF; omega
    rw [e, totalR_go hc t _ (fun r' hr' => h r' (List.mem_cons_of_mem _ hr')) (by omega)]
    unfold sumE
    rw [List.map_cons, List.sum_cons]
    congr 1
    omega
theorem totalR_eq {N : Nat} {ls rs : List (List Int)} (hc : Costs N ls) (h : Within N rs) : totalR ls rs = min (sumE ls rs) INF := by
  have := totalR_go hc rs 0 h (by omega)
  rw [show min (0 : Int) INF = 0 by decide, Int.zero_add] at this
  exact this
theorem within_of {N : Nat} {rs : List (List Int)} (h : Parts N rs) : Within N rs := fun r hr => ⟨h.1 r hr, fun s hs => by
  have : s ∈ stopsTo N := h.2.subset (List.mem_flatten.2 ⟨r, hr, hs⟩)
  unfold stopsTo at this
  obtain ⟨i, hi, e⟩ := List.mem_map.1 this
  have := List.mem_range.1 hi
  omega⟩

theorem lenE_cons (ls : List (List Int)) (i : Nat) (k : Int) (t : List Int) : lenE ls i (k :: t) = stepC ls i k.toNat + lenE ls k.toNat t := rfl
theorem lenE_join (ls : List (List Int)) (b : List Int) (hb : b ≠ []) : ∀ (a : List Int) (i : Nat), a ≠ [] → lenE ls i (a ++ b) = lenE ls i a - stepC ls (lastI a).toNat 0 + stepC ls (lastI a).toNat (headI b).toNat + (lenE ls 0 b - stepC ls 0 (headI b).toNat)
  | [x], i, _ => by
    cases b with
    | nil => exact absurd rfl hb
    | cons y t => simp [lenE, lastI, headI]; omega
  | x :: y :: t, i, _ => by
    have := lenE_join ls b hb (y :: t) x.toNat (by simp)
    have e : lastI (x :: y :: t) = lastI (y :: t) := by simp [lastI]
    rw [e, List.cons_append, lenE_cons, this, lenE_cons ls i x (y :: t)]
    omega

theorem sum_perm : ∀ {a b : List Int}, a.Perm b → a.sum = b.sum := by
  intro a b h
  induction h with
  | nil => rfl
  | cons x _ ih => simp [ih]
  | swap x y l => simp; omega
  | trans _ _ h1 h2 => rw [h1, h2]
theorem sumE_perm {ls a b : List (List Int)} (h : a.Perm b) : sumE ls a = sumE ls b := sum_perm (h.map _)

theorem svOf_val {ls : List (List Int)} {a b : Nat} {x : Sv} (h : x ∈ svOf ls a b) : a ≠ b ∧ x.1 = (a : Int) + 1 ∧ x.2.1 = (b : Int) + 1 ∧ x.2.2 = stepC ls (a + 1) 0 + stepC ls 0 (b + 1) - stepC ls (a + 1) (b + 1) ∧ 0 < x.2.2 := by
  unfold svOf at h
  split at h
  · cases h
  · rename_i g
    simp only [List.mem_singleton] at h
    subst h
    exact ⟨fun e => g (Or.inl e), rfl, rfl, rfl, by simp only; omega⟩
theorem allSv_val {N : Nat} {ls : List (List Int)} (hl : ls.length = N + 1) {x : Sv} (h : x ∈ allSv ls) : ∃ a b : Nat, a < N ∧ b < N ∧ a ≠ b ∧ x.1 = (a : Int) + 1 ∧ x.2.1 = (b : Int) + 1 ∧ x.2.2 = stepC ls (a + 1) 0 + stepC ls 0 (b + 1) - stepC ls (a + 1) (b + 1) ∧ 0 < x.2.2 := by
  unfold allSv at h
  obtain ⟨a, b, ha, hb, hx⟩ := rawSv_mem h
  obtain ⟨h1, h2, h3, h4, h5⟩ := svOf_val hx
  exact ⟨a, b, by omega, by omega, h1, h2, h3, h4, h5⟩

/-- A step makes the rounds cost no more. -/
theorem joinStep_sum {N : Nat} {cap lim : Int} {ls : List (List Int)} {st : List (Int × Int)} {rs : List (List Int)} {s : Sv} (hl : ls.length = N + 1) (hs : s ∈ allSv ls) (h : Parts N rs) : sumE ls (joinStep cap lim ls st rs s) ≤ sumE ls rs := by
  obtain ⟨a, b, ha, hb, hab, e1, e2, e3, e4⟩ := allSv_val hl hs
  rcases joinStep_cases cap lim ls st rs s with e | ⟨f, t, hf, ht, hne, g1, g2, _, e⟩
  · rw [e]; exact Int.le_refl _
  · rw [e]
    have hX : (rs.set f (rs[f] ++ rs[t])).length = rs.length := by simp
    have p1 := perm_erase (rs.set f (rs[f] ++ rs[t])) t (by omega)
    have p2 := perm_erase (rs.set f (rs[f] ++ rs[t])) f (by omega)
    have p3 := perm_erase rs f hf
    rw [List.getElem_set_ne hne] at p1
    rw [List.getElem_set_self, List.eraseIdx_set_eq] at p2
    have q1 := sumE_perm (ls := ls) p1
    have q2 := sumE_perm (ls := ls) p2
    have q3 := sumE_perm (ls := ls) p3
    have hj := lenE_join ls rs[t] (h.1 _ (List.getElem_mem ht)) rs[f] 0 (h.1 _ (List.getElem_mem hf))
    rw [g1, g2, e1, e2, show ((a : Int) + 1).toNat = a + 1 by omega, show ((b : Int) + 1).toNat = b + 1 by omega] at hj
    unfold sumE at *
    simp only [List.map_cons, List.sum_cons] at q1 q2 q3
    omega
theorem joinAll_sum {N : Nat} {cap lim : Int} {ls : List (List Int)} {st : List (Int × Int)} (hl : ls.length = N + 1) : ∀ (L : List Sv) {rs : List (List Int)}, (∀ s ∈ L, s ∈ allSv ls) → Parts N rs → sumE ls (L.foldl (joinStep cap lim ls st) rs) ≤ sumE ls rs
  | [], rs, _, _ => Int.le_refl _
  | s :: t, rs, hs, h => by
    have h1 := joinStep_sum (cap := cap) (lim := lim) (st := st) hl (hs s List.mem_cons_self) h
    have h2 := joinAll_sum (cap := cap) (lim := lim) (st := st) hl t (fun x hx => hs x (List.mem_cons_of_mem _ hx)) (joinStep_parts (cap := cap) (lim := lim) (ls := ls) (st := st) s h)
    rw [List.foldl_cons]
    omega

theorem joinAll_goes {cap lim : Int} {ls : List (List Int)} {st : List (Int × Int)} : ∀ (L : List Sv) {rs : List (List Int)}, (∀ r ∈ rs, goesB cap lim ls st r = true) → ∀ r ∈ L.foldl (joinStep cap lim ls st) rs, goesB cap lim ls st r = true
  | [], rs, h => h
  | s :: t, rs, h => by
    rw [List.foldl_cons]
    refine joinAll_goes t (fun r hr => ?_)
    rcases joinStep_cases cap lim ls st rs s with e | ⟨f, u, hf, hu, hne, _, _, hg, e⟩
    · rw [e] at hr; exact h r hr
    · rw [e] at hr
      rcases List.mem_or_eq_of_mem_set (List.mem_of_mem_eraseIdx hr) with h3 | h3
      · exact h r h3
      · rw [h3]; exact hg

theorem loadOf_at {st : List (Int × Int)} {i : Nat} {p : Int × Int} (h : st[i]? = some p) : loadOf st ((i : Int) + 1) = p.2 := by
  have hlt := (List.getElem?_eq_some_iff.1 h).1
  unfold loadOf
  rw [if_pos (by omega), show ((i : Int) + 1 - 1).toNat = i by omega, h]
  rfl
theorem goes_single {N : Nat} {cap lim : Int} {ls : List (List Int)} {st : List (Int × Int)} (hc : Costs N ls) (hn : st.length = N) (hf : FitsP cap lim ls st) {i : Nat} (hi : i < N) : goesB cap lim ls st [(i : Int) + 1] = true := by
  obtain ⟨p, hp⟩ : ∃ p, st[i]? = some p := ⟨_, List.getElem?_eq_getElem (by omega)⟩
  obtain ⟨h1, h2, h3, h4, h5⟩ := hf i p hp
  have k1 := hc.2 0 (i + 1) (by omega) (by omega)
  have k2 := hc.2 (i + 1) 0 (by omega) (by omega)
  have hl : lenR ls [(i : Int) + 1] = add2 (stepC ls 0 (i + 1)) (stepC ls (i + 1) 0) := by
    rw [lenR_eq hc (by simp) (by simp; omega), add2_eq k1.1 k1.2 k2.1 k2.2]
    simp only [lenE]
    rw [show ((i : Int) + 1).toNat = i + 1 by omega]
  unfold goesB
  rw [hl]
  have : loadR st [(i : Int) + 1] = p.2 := by unfold loadR; simp [loadOf_at hp]
  rw [this]
  unfold INF
  simp [h1, h4, h5]
theorem singles_get {N i : Nat} (hi : i < N) : (singles N)[i]? = some [(i : Int) + 1] := by
  unfold singles
  simp [hi]
theorem singles_mem {N : Nat} {r : List Int} (h : r ∈ singles N) : ∃ i : Nat, i < N ∧ r = [(i : Int) + 1] := by
  unfold singles at h
  obtain ⟨i, hi, e⟩ := List.mem_map.1 h
  exact ⟨i, List.mem_range.1 hi, e.symm⟩

theorem stopsTo_nodup (N : Nat) : (stopsTo N).Nodup := by
  unfold stopsTo
  rw [List.nodup_iff_pairwise_ne, List.pairwise_map]
  exact (List.nodup_iff_pairwise_ne.1 List.nodup_range).imp (fun h e => h (by omega))
theorem Parts.perm {N : Nat} {a b : List (List Int)} (h : Parts N a) (p : b.Perm a) : Parts N b := ⟨fun r hr => h.1 r (p.subset hr), p.flatten.trans h.2⟩
theorem right_of {N : Nat} {cap lim : Int} {ls rs : List (List Int)} {st : List (Int × Int)} (h : Parts N rs) (hg : ∀ r ∈ rs, goesB cap lim ls st r = true) : RightP N cap lim ls st rs :=
  ⟨fun r hr => ⟨h.1 r hr, hg r hr⟩, (h.2.nodup_iff).2 (stopsTo_nodup N), fun s hs => by
    obtain ⟨r, hr, hsr⟩ := List.mem_flatten.1 hs
    exact (within_of h r hr).2 s hsr, by rw [h.2.length_eq]; simp [stopsTo]⟩

/-- SaveRight's law. -/
theorem saveRight_law {N : Nat} {cap lim : Int} {ls R : List (List Int)} {st : List (Int × Int)} {L : List Sv} (hs : sqB (N + 1) ls = true) (hn : st.length = N) (hf : FitsP cap lim ls st) (hL : L.Perm (allSv ls)) (hR : R.Perm (L.foldl (joinStep cap lim ls st) (singles N))) :
    RightP N cap lim ls st R ∧ totalR ls R ≤ totalR ls (singles N) := by
  have hc := costs_of hs
  have hp := joinAll_parts (cap := cap) (lim := lim) (ls := ls) (st := st) L (singles_parts N)
  have hg := joinAll_goes (cap := cap) (lim := lim) (ls := ls) (st := st) L (rs := singles N) (fun r hr => by obtain ⟨i, hi, rfl⟩ := singles_mem hr; exact goes_single hc hn hf hi)
  refine ⟨right_of (hp.perm hR) (fun r hr => hg r (hR.subset hr)), ?_⟩
  rw [totalR_eq hc (within_of (hp.perm hR)), totalR_eq hc (within_of (singles_parts N)), sumE_perm hR]
  have := joinAll_sum (cap := cap) (lim := lim) (st := st) hc.1 L (fun s hx => hL.subset hx) (singles_parts N)
  omega

/-- Singles, in the order of their heads. -/
theorem singles_sorted (N : Nat) : (singles N).Pairwise (fun a b => headI a < headI b) := by
  unfold singles
  rw [List.pairwise_map]
  exact List.pairwise_lt_range.imp (fun h => by simp [headI]; omega)
theorem sorted_unique : ∀ {a b : List (List Int)}, a.Perm b → a.Pairwise (fun x y => headI x < headI y) → b.Pairwise (fun x y => headI x < headI y) → a = b := by
  intro a b h ha hb
  exact h.eq_of_pairwise (fun x y _ _ h1 h2 => by omega) ha hb

/-- SaveAlone's law. -/
theorem saveAlone_law {N : Nat} {cap lim : Int} {ls R : List (List Int)} {st : List (Int × Int)} {L : List Sv} (hL : L.Perm (allSv ls)) (hR : R.Perm (L.foldl (joinStep cap lim ls st) (singles N))) (hd : R.Pairwise (fun a b => headI a < headI b))
    (h : allSv ls = [] ∨ ∀ i j : Nat, i < N → j < N → cap < loadR st [(i : Int) + 1, (j : Int) + 1]) : R = singles N := by
  have e : L.foldl (joinStep cap lim ls st) (singles N) = singles N := by
    rcases h with h | h
    · rw [h] at hL
      rw [hL.eq_nil]
      rfl
    · clear hL hR
      induction L with
      | nil => rfl
      | cons s t ih =>
        rw [List.foldl_cons]
        have : joinStep cap lim ls st (singles N) s = singles N := by
          rcases joinStep_cases cap lim ls st (singles N) s with e | ⟨f, u, hf, hu, hne, _, _, hg, e⟩
          · exact e
          · obtain ⟨i, hi, e1⟩ := singles_mem (List.getElem_mem hf)
            obtain ⟨j, hj, e2⟩ := singles_mem (List.getElem_mem hu)
            rw [e1, e2] at hg
            have := h i j hi hj
            unfold goesB at hg
            simp only [Bool.and_eq_true, decide_eq_true_eq, List.singleton_append] at hg
            omega
        rw [this]
        exact ih
  rw [e] at hR
  exact sorted_unique hR hd (singles_sorted N)
theorem allSv_none {N : Nat} {ls : List (List Int)} (hl : ls.length = N + 1) (h : ∀ a b : Nat, a < N → b < N → stepC ls (a + 1) (b + 1) ≥ INF ∨ stepC ls (a + 1) 0 + stepC ls 0 (b + 1) - stepC ls (a + 1) (b + 1) ≤ 0) : allSv ls = [] := by
  rw [List.eq_nil_iff_forall_not_mem]
  intro x hx
  unfold allSv at hx
  obtain ⟨a, b, ha, hb, hx⟩ := rawSv_mem hx
  have := h a b (by omega) (by omega)
  unfold svOf at hx
  rw [if_pos (by omega)] at hx
  cases hx
end Go.Proofs.YtjphjbchhhembaaGreatDoor
