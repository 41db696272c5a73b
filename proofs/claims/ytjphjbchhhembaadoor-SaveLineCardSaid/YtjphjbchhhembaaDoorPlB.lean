/- Rounds that are joined: what SaveLine says, in plain Lean. -/
import Derived.Test.YtjphjbchhhembaaDoorPlA
namespace Go.Proofs.YtjphjbchhhembaaDoor
open Go.RowKit

/-- Rounds: 1, 2, .. k, and all behind. -/
def lineSt (n k : Nat) : List (List Int) := singles k ++ [(List.range (n - k)).map (fun i : Nat => ((k + i : Nat) : Int) + 1)]
def atI (at_ : List Int) (k : Int) : Int := (at_[k.toNat]?).getD 0
/-- The savings of stops in a row. -/
def LineSv (n : Nat) (p : Nat → Int) (s : Sv) : Prop := ∃ i j : Nat, 1 ≤ i ∧ i ≤ n ∧ 1 ≤ j ∧ j ≤ n ∧ i ≠ j ∧ s = ((i : Int), (j : Int), 2 * min (p i) (p j))

theorem lineSt_len (n k : Nat) : (lineSt n k).length = k + 1 := by simp [lineSt, singles]
theorem lineSt_lt {n k q : Nat} (h : q < k) : (lineSt n k).getD q [] = [(q : Int) + 1] := by
  rw [List.getD_eq_getElem?_getD]
  unfold lineSt
  rw [List.getElem?_append_left (by simp [singles]; exact h), singles_get h]
  rfl
def behind (n k : Nat) : List Int := (List.range (n - k)).map (fun i : Nat => ((k + i : Nat) : Int) + 1)
theorem lineSt_eq (n k : Nat) : (lineSt n k).getD k [] = behind n k := by
  rw [List.getD_eq_getElem?_getD]
  unfold lineSt
  rw [List.getElem?_append_right (by simp [singles])]
  simp [singles, behind]
theorem behind_head {n k : Nat} (h : k < n) : headI (behind n k) = (k : Int) + 1 := by
  unfold behind headI
  obtain ⟨m, hm⟩ : ∃ m, n - k = m + 1 := ⟨n - k - 1, by omega⟩
  rw [hm, List.range_succ_eq_map]
  simp
theorem behind_last {n k : Nat} (h : k < n) : lastI (behind n k) = (n : Int) := by
  unfold behind lastI
  obtain ⟨m, hm⟩ : ∃ m, n - k = m + 1 := ⟨n - k - 1, by omega⟩
  rw [hm, List.range_succ]
  simp
  omega
theorem behind_next {n k : Nat} (h : k < n) : behind n k = ((k : Int) + 1) :: behind n (k + 1) := by
  unfold behind
  obtain ⟨m, hm⟩ : ∃ m, n - k = m + 1 := ⟨n - k - 1, by omega⟩
  rw [hm, show n - (k + 1) = m by omega, List.range_succ_eq_map]
  simp only [List.map_cons, List.map_map, Nat.add_zero]
  congr 1
  apply List.map_congr_left
  intro a _
  simp only [Function.comp]
  omega

theorem firstOf_line {n k : Nat} (hk : k < n) {i : Nat} (h1 : 1 ≤ i) (_h2 : i ≤ n) : firstOf (lineSt n k) i = if i ≤ k then (i : Int) - 1 else if i = n then (k : Int) else -1 := by
  unfold firstOf
  rw [lineSt_len]
  by_cases hik : i ≤ k
  · rw [if_pos hik, show (i : Int) - 1 = ((i - 1 : Nat) : Int) by omega]
    refine idxP_hit (by omega) (fun j hj => ?_) ?_
    · rw [lineSt_lt (by omega)]; simp [lastI]; omega
    · rw [lineSt_lt (by omega)]; simp [lastI]; omega
  · rw [if_neg hik]
    by_cases hin : i = n
    · rw [if_pos hin]
      refine idxP_hit (by omega) (fun j hj => ?_) ?_
      · rw [lineSt_lt hj]; simp [lastI]; omega
      · rw [lineSt_eq, behind_last hk]; simp; omega
    · rw [if_neg hin]
      refine idxP_miss (fun j hj => ?_)
      rcases Nat.lt_or_ge j k with h | h
      · rw [lineSt_lt h]; simp [lastI]; omega
      · obtain rfl : j = k := by omega
        rw [lineSt_eq, behind_last hk]; simp; omega
theorem thenOf_line {n k : Nat} (hk : k < n) {i : Nat} (h1 : 1 ≤ i) : thenOf (lineSt n k) i = if i ≤ k + 1 then (i : Int) - 1 else -1 := by
  unfold thenOf
  rw [lineSt_len]
  by_cases hik : i ≤ k + 1
  · rw [if_pos hik, show (i : Int) - 1 = ((i - 1 : Nat) : Int) by omega]
    refine idxP_hit (by omega) (fun j hj => ?_) ?_
    · rw [lineSt_lt (by omega)]; simp [headI]; omega
    · rcases Nat.lt_or_ge (i - 1) k with h | h
      · rw [lineSt_lt h]; simp [headI]; omega
      · rw [show i - 1 = k by omega, lineSt_eq, behind_head hk]; simp; omega
  · rw [if_neg hik]
    refine idxP_miss (fun j hj => ?_)
    rcases Nat.lt_or_ge j k with h | h
    · rw [lineSt_lt h]; simp [headI]; omega
    · obtain rfl : j = k := by omega
      rw [lineSt_eq, behind_head hk]; simp; omega

theorem step_stays {cap lim : Int} {ls : List (List Int)} {st : List (Int × Int)} {n k : Nat} (hk : k < n) {s : Sv} {i j : Nat} (h1 : 1 ≤ i) (h2 : i ≤ n) (h3 : 1 ≤ j) (h4 : s.1 = (i : Int)) (h5 : s.2.1 = (j : Int)) (h : k = 0 ∨ (k < i ∧ k < j)) : joinStep cap lim ls st (lineSt n k) s = lineSt n k := by
  unfold joinStep
  rw [h4, h5, firstOf_line hk h1 h2, thenOf_line hk h3]
  refine if_pos ?_
  by_cases a1 : i ≤ k
  · omega
  · rw [if_neg a1]
    by_cases a2 : i = n
    · rw [if_pos a2]
      by_cases a3 : j ≤ k + 1
      · rw [if_pos a3]; omega
      · rw [if_neg a3]; omega
    · rw [if_neg a2]; omega
theorem step_joins {cap lim : Int} {ls : List (List Int)} {st : List (Int × Int)} {n k : Nat} (hk : k + 1 < n) {s : Sv} (h4 : s.1 = (k : Int) + 1) (h5 : s.2.1 = (k : Int) + 2) (hg : goesB cap lim ls st (behind n k) = true) : joinStep cap lim ls st (lineSt n (k + 1)) s = lineSt n k := by
  unfold joinStep
  have e1 : firstOf (lineSt n (k + 1)) s.1 = (k : Int) := by
    have := firstOf_line hk (i := k + 1) (by omega) (by omega)
    rw [if_pos (by omega)] at this
    rw [h4]
    simpa using this
  have e2 : thenOf (lineSt n (k + 1)) s.2.1 = (k : Int) + 1 := by
    have := thenOf_line hk (i := k + 2) (by omega)
    rw [if_pos (by omega)] at this
    rw [h5]
    simp at this
    rw [this]
    omega
  rw [e1, e2]
  simp only
  rw [if_neg (by omega), show ((k : Int) + 1).toNat = k + 1 by omega, Int.toNat_natCast, lineSt_lt (by omega), lineSt_eq]
  have e3 : [(k : Int) + 1] ++ behind n (k + 1) = behind n k := (behind_next (show k < n by omega)).symm
  rw [e3, if_pos hg]
  unfold lineSt
  rw [show (List.range (n - k)).map (fun i : Nat => ((k + i : Nat) : Int) + 1) = behind n k from rfl]
  have hs : singles (k + 1) = singles k ++ [[(k : Int) + 1]] := by
    unfold singles
    rw [List.range_succ]
    simp
  rw [hs, List.append_assoc]
  have hl : (singles k).length = k := by simp [singles]
  rw [List.set_append_right _ _ (by omega), hl, Nat.sub_self]
  simp only [List.singleton_append, List.set_cons_zero]
  rw [List.eraseIdx_append_of_length_le (by omega), hl, show k + 1 - k = 1 by omega]
  rfl

/-- All savings of stops in a row: one round is left. -/
theorem line_fold {cap lim : Int} {ls : List (List Int)} {st : List (Int × Int)} {n : Nat} {p : Nat → Int} (hp : ∀ i j, i < j → j ≤ n → p i < p j) (hg : ∀ k, k < n → goesB cap lim ls st (behind n k) = true) :
    ∀ (Q : List Sv) (k : Nat), k < n → (∀ s ∈ Q, LineSv n p s) → Q.Pairwise svLt → (∀ j : Nat, 1 ≤ j → j ≤ k → ((j : Int), (j : Int) + 1, 2 * p j) ∈ Q) → Q.foldl (joinStep cap lim ls st) (lineSt n k) = lineSt n 0
  | [], k, hk, _, _, hj => by
    rcases Nat.eq_zero_or_pos k with h | h
    · rw [h]; rfl
    · exact absurd (hj k h (Nat.le_refl _)) (by simp)
  | s :: Q, k, hk, hs, ho, hj => by
    obtain ⟨i, j, i1, i2, j1, j2, hij, hse⟩ := hs s List.mem_cons_self
    have ho' := (List.pairwise_cons.1 ho)
    rw [List.foldl_cons]
    rcases Nat.eq_zero_or_pos k with h0 | h0
    · subst h0
      rw [step_stays hk i1 i2 j1 (by rw [hse]) (by rw [hse]) (Or.inl rfl)]
      exact line_fold hp hg Q 0 hk (fun x hx => hs x (List.mem_cons_of_mem _ hx)) ho'.2 (fun q h1 h2 => by omega)
    · have hm := hj k h0 (Nat.le_refl _)
      by_cases he : s = ((k : Int), (k : Int) + 1, 2 * p k)
      · obtain ⟨k', rfl⟩ : ∃ k', k = k' + 1 := ⟨k - 1, by omega⟩
        rw [step_joins (by omega) (by rw [he]; simp) (by rw [he]; simp; omega) (hg k' (by omega))]
        refine line_fold hp hg Q k' (by omega) (fun x hx => hs x (List.mem_cons_of_mem _ hx)) ho'.2 (fun q h1 h2 => ?_)
        rcases List.mem_cons.1 (hj q h1 (by omega)) with h3 | h3
        · rw [he] at h3
          have := congrArg Prod.fst h3
          simp at this
          omega
        · exact h3
      · have hm2 : ((k : Int), (k : Int) + 1, 2 * p k) ∈ Q := by
          rcases List.mem_cons.1 hm with h3 | h3
          · exact absurd h3.symm he
          · exact h3
        have hlt := ho'.1 _ hm2
        rw [hse] at hlt
        have hki : k < i ∧ k < j := by
          have mono : ∀ a : Nat, a ≤ k → p a ≤ p k := fun a ha => by
            rcases Nat.lt_or_eq_of_le ha with h5 | h5
            · have := hp a k h5 (by omega); omega
            · rw [h5]; exact Int.le_refl _
          unfold svLt at hlt
          simp only at hlt
          rcases hlt with h4 | ⟨h4, h6⟩
          · refine ⟨?_, ?_⟩
            · rcases Nat.lt_or_ge k i with h5 | h5
              · exact h5
              · have := mono i h5; omega
            · rcases Nat.lt_or_ge k j with h5 | h5
              · exact h5
              · have := mono j h5; omega
          · have big : ∀ a : Nat, k < a → a ≤ n → p k < p a := fun a h7 h8 => hp k a h7 h8
            have sml : ∀ a : Nat, a < k → p a < p k := fun a h7 => hp a k h7 (by omega)
            -- the least of both is k
            rcases Nat.lt_trichotomy i k with a1 | a1 | a1
            · have := sml i a1; omega
            · rcases Nat.lt_trichotomy j k with a2 | a2 | a2
              · have := sml j a2; omega
              · omega
              · exfalso
                rcases h6 with h7 | ⟨_, h7⟩
                · omega
                · omega
            · rcases Nat.lt_trichotomy j k with a2 | a2 | a2
              · have := sml j a2; omega
              · exfalso
                rcases h6 with h7 | ⟨h7, _⟩
                · omega
                · omega
              · exact ⟨a1, a2⟩
        rw [step_stays hk i1 i2 j1 (by rw [hse]) (by rw [hse]) (Or.inr hki)]
        refine line_fold hp hg Q k hk (fun x hx => hs x (List.mem_cons_of_mem _ hx)) ho'.2 (fun q h1 h2 => ?_)
        rcases List.mem_cons.1 (hj q h1 h2) with h3 | h3
        · rw [hse] at h3
          have e1 := congrArg Prod.fst h3
          simp at e1
          omega
        · exact h3

/-- The table of stops in a row. -/
def LineT (n : Nat) (p : Nat → Int) (ls : List (List Int)) : Prop := ls.length = n + 1 ∧ ∀ i j : Nat, i < n + 1 → j < n + 1 → stepC ls i j = max (p i) (p j) - min (p i) (p j)

theorem lineSv_of {n : Nat} {p : Nat → Int} {ls : List (List Int)} (hT : LineT n p ls) (h0 : p 0 = 0) (hp : ∀ i j, i < j → j ≤ n → p i < p j) {s : Sv} (hs : s ∈ allSv ls) : LineSv n p s := by
  obtain ⟨a, b, ha, hb, hab, e1, e2, e3, _⟩ := allSv_val hT.1 hs
  refine ⟨a + 1, b + 1, by omega, by omega, by omega, by omega, by omega, ?_⟩
  rw [hT.2 _ _ (by omega) (by omega), hT.2 _ _ (by omega) (by omega), hT.2 _ _ (by omega) (by omega), h0] at e3
  have h1 := hp 0 (a + 1) (by omega) (by omega)
  have h2 := hp 0 (b + 1) (by omega) (by omega)
  rw [h0] at h1 h2
  obtain ⟨s1, s2, s3⟩ := s
  simp only at e1 e2 e3
  simp only [Prod.mk.injEq]
  exact ⟨by omega, by omega, by omega⟩
theorem lineSv_in {n : Nat} {p : Nat → Int} {ls : List (List Int)} (hT : LineT n p ls) (h0 : p 0 = 0) (hp : ∀ i j, i < j → j ≤ n → p i < p j) (hb : p n < INF) {j : Nat} (h1 : 1 ≤ j) (h2 : j < n) : ((j : Int), (j : Int) + 1, 2 * p j) ∈ allSv ls := by
  obtain ⟨a, rfl⟩ : ∃ a, j = a + 1 := ⟨j - 1, by omega⟩
  unfold allSv rawSv
  rw [List.mem_flatMap]
  refine ⟨a, List.mem_range.2 (by have := hT.1; omega), ?_⟩
  unfold rowSv
  rw [List.mem_flatMap]
  refine ⟨a + 1, List.mem_range.2 (by have := hT.1; omega), ?_⟩
  have k1 := hp 0 (a + 1) (by omega) (by omega)
  have k2 := hp (a + 1) (a + 1 + 1) (by omega) (by omega)
  have k3 : p (a + 1 + 1) ≤ p n := by
    rcases Nat.lt_or_eq_of_le (show a + 1 + 1 ≤ n by omega) with h5 | h5
    · have := hp _ _ h5 (Nat.le_refl _); omega
    · rw [h5]; exact Int.le_refl _
  unfold svOf
  rw [hT.2 _ _ (by omega) (by omega), hT.2 _ _ (by omega) (by omega), hT.2 _ _ (by omega) (by omega), h0]
  rw [h0] at k1
  rw [if_neg (by omega)]
  simp only [List.mem_singleton, Prod.mk.injEq]
  exact ⟨by omega, trivial, by omega⟩

theorem line_len {n : Nat} {p : Nat → Int} {ls : List (List Int)} (hT : LineT n p ls) (h0 : p 0 = 0) (hp : ∀ i j, i < j → j ≤ n → p i < p j) : ∀ (m k i : Nat), n - k = m → k < n → i ≤ k → lenE ls i (behind n k) = p n - p i + p n
  | m, k, i, hm, hk, hik => by
    rw [behind_next hk]
    unfold lenE
    rw [show ((k : Int) + 1).toNat = k + 1 by omega, hT.2 _ _ (by omega) (by omega)]
    have h1 := hp i (k + 1) (by omega) (by omega)
    by_cases h : k + 1 = n
    · have : behind n (k + 1) = [] := by unfold behind; rw [show n - (k + 1) = 0 by omega]; rfl
      rw [this]
      unfold lenE
      rw [hT.2 _ _ (by omega) (by omega), h0]
      rw [h] at h1 ⊢
      have h2 := hp 0 n (by omega) (by omega)
      rw [h0] at h2
      omega
    · rw [line_len hT h0 hp (m - 1) (k + 1) (k + 1) (by omega) (by omega) (by omega)]
      omega
  termination_by m => m

theorem behind_mem {n k : Nat} {s : Int} (h : s ∈ behind n k) : 1 ≤ s ∧ s ≤ (n : Int) := by
  unfold behind at h
  obtain ⟨i, hi, e⟩ := List.mem_map.1 h
  have := List.mem_range.1 hi
  omega
theorem loadR_ones {st : List (Int × Int)} (h : ∀ q ∈ st, q.2 = 1) : ∀ r : List Int, loadR st r ≤ r.length
  | [] => by simp [loadR]
  | k :: t => by
    have ih := loadR_ones h t
    have : loadOf st k ≤ 1 := by
      unfold loadOf
      split
      · rename_i hk
        have hlt : (k - 1).toNat < st.length := by omega
        rw [List.getElem?_eq_getElem hlt]
        have := h _ (List.getElem_mem hlt)
        simp only [Option.getD_some]
        omega
      · omega
    unfold loadR at *
    simp only [List.map_cons, List.sum_cons, List.length_cons]
    omega

/-- SaveLine's law. -/
theorem saveLine_law {n : Nat} {p : Nat → Int} {ls R : List (List Int)} {st : List (Int × Int)} {L : List Sv} (hn1 : 1 ≤ n) (hn : n ≤ 100) (hs : sqB (n + 1) ls = true) (hst : st.length = n) (hld : ∀ q ∈ st, q.2 = 1) (hT : LineT n p ls) (h0 : p 0 = 0) (hp : ∀ i j, i < j → j ≤ n → p i < p j) (hb : 2 * p n < INF)
    (hL : L.Perm (allSv ls)) (hLs : L.Pairwise svLt) (hR : R.Perm (L.foldl (joinStep 100 INF ls st) (singles n))) : FitsP 100 INF ls st ∧ R = [stopsTo n] ∧ lenR ls (stopsTo n) = 2 * p n ∧ RightP n 100 INF ls st [stopsTo n] := by
  have hc := costs_of hs
  have hpn := hp 0 n (by omega) (by omega)
  rw [h0] at hpn
  have hbl : ∀ k, k < n → behind n k ≠ [] := fun k hk => by rw [behind_next hk]; simp
  have hlen : ∀ k, k < n → lenR ls (behind n k) = 2 * p n := fun k hk => by
    rw [lenR_eq hc (hbl k hk) (fun s h => behind_mem h), line_len hT h0 hp _ k 0 rfl hk (by omega), h0]
    omega
  have hg : ∀ k, k < n → goesB 100 INF ls st (behind n k) = true := fun k hk => by
    unfold goesB
    rw [hlen k hk]
    have := loadR_ones hld (behind n k)
    have h2 : (behind n k).length = n - k := by simp [behind]
    simp only [Bool.and_eq_true, decide_eq_true_eq]
    refine ⟨by omega, by omega, by omega⟩
  have hsing : singles n = lineSt n (n - 1) := by
    unfold lineSt
    obtain ⟨m, rfl⟩ : ∃ m, n = m + 1 := ⟨n - 1, by omega⟩
    rw [show m + 1 - 1 = m by omega, show m + 1 - m = 1 by omega]
    unfold singles
    rw [List.range_succ]
    simp
  have hfold := line_fold (cap := 100) (lim := INF) (ls := ls) (st := st) hp hg L (n - 1) (by omega) (fun s hx => lineSv_of hT h0 hp (hL.subset hx)) hLs (fun j h1 h2 => hL.symm.subset (lineSv_in hT h0 hp (by omega) h1 (by omega)))
  have hst0 : lineSt n 0 = [stopsTo n] := by
    unfold lineSt singles stopsTo
    simp
  have hbs : behind n 0 = stopsTo n := by unfold behind stopsTo; simp
  have hRe : R = [stopsTo n] := by
    rw [hsing, hfold, hst0] at hR
    exact List.perm_singleton.1 hR
  refine ⟨fun i q hq => ?_, hRe, by rw [← hbs]; exact hlen 0 (by omega), ?_⟩
  · have hi := (List.getElem?_eq_some_iff.1 hq).1
    have h1 := hld q (List.mem_of_getElem? hq)
    have k1 := hp 0 (i + 1) (by omega) (by omega)
    have k3 : p (i + 1) ≤ p n := by
      rcases Nat.lt_or_eq_of_le (show i + 1 ≤ n by omega) with h5 | h5
      · have := hp _ _ h5 (Nat.le_refl _); omega
      · rw [h5]; exact Int.le_refl _
    rw [hT.2 _ _ (by omega) (by omega), hT.2 _ _ (by omega) (by omega), h0]
    rw [h0] at k1
    unfold INF at *
    rw [add2_eq (by omega) (by unfold INF; omega) (by omega) (by unfold INF; omega)]
    unfold INF
    omega
  · refine right_of ?_ (fun r hr => ?_)
    · refine ⟨fun r hr => ?_, by simp⟩
      rw [List.mem_singleton.1 hr, ← hbs]
      exact hbl 0 (by omega)
    · rw [List.mem_singleton.1 hr, ← hbs]
      exact hg 0 (by omega)
end Go.Proofs.YtjphjbchhhembaaDoor
