/- Parts of the proof: NeL, NeC, NeR. -/
import Derived.Test.YtpffhoefmcpniaaGreatDoorW1
import Derived.Test.YtpffhoefmcpniaaGreatDoorW16
/- Levels of cells that are built: plain. -/
namespace Go.Proofs.YtpffhoefmcpniaaGreatDoor
open Go.RowKit

/-- All vertices, each in one of some rows that rise. -/
structure Cov (n : Nat) (ps : List (List Nat)) : Prop where
  perm : ps.flatten.Perm (List.range n)
  ok : ∀ p ∈ ps, PcOk n p ∧ p ≠ []
noncomputable def nxt (N : NetD) (bd : Nat) (ps : List (List Nat)) : List (List Nat) := ps.flatMap (pcs N bd)
def allV (n : Nat) : List (List Nat) := [List.range n]
theorem range_ok (n : Nat) : PcOk n (List.range n) := ⟨List.pairwise_lt_range, fun _ hv => List.mem_range.1 hv⟩
theorem nxt_app (N : NetD) (bd : Nat) (ps qs : List (List Nat)) : nxt N bd (ps ++ qs) = nxt N bd ps ++ nxt N bd qs := by simp [nxt]
theorem nxt_one (N : NetD) (bd : Nat) (p : List Nat) : nxt N bd [p] = pcs N bd p := by simp [nxt]
theorem nxt_take {N : NetD} {bd k : Nat} {ps : List (List Nat)} {p : List Nat} (h : ps[k]? = some p) : nxt N bd (ps.take (k + 1)) = nxt N bd (ps.take k) ++ pcs N bd p := by
  obtain ⟨h1, e1⟩ := List.getElem?_eq_some_iff.1 h
  rw [List.take_succ_eq_append_getElem h1, e1, nxt_app, nxt_one]
theorem nxt_perm (N : NetD) (bd : Nat) : ∀ ps : List (List Nat), (nxt N bd ps).flatten.Perm ps.flatten
  | [] => by simp [nxt]
  | p :: ps => by
    have h1 := nxt_perm N bd ps
    have h2 := pcs_perm N bd p
    have e : nxt N bd (p :: ps) = pcs N bd p ++ nxt N bd ps := by simp [nxt]
    rw [e, List.flatten_append, List.flatten_cons]
    exact h2.append h1
theorem nxt_mem {N : NetD} {bd : Nat} {ps : List (List Nat)} {q : List Nat} : q ∈ nxt N bd ps ↔ ∃ p ∈ ps, q ∈ pcs N bd p := by simp [nxt]
theorem nxt_ok {n : Nat} (N : NetD) (bd : Nat) {ps : List (List Nat)} (h : ∀ p ∈ ps, PcOk n p) : ∀ q ∈ nxt N bd ps, PcOk n q ∧ q ≠ [] := fun q hq => by
  obtain ⟨p, hp, hq⟩ := nxt_mem.1 hq
  exact pcs_ok N bd p (h p hp) q hq
theorem nxt_cov {n : Nat} {N : NetD} {bd : Nat} {ps : List (List Nat)} (h : ps.flatten.Perm (List.range n)) (hp : ∀ p ∈ ps, PcOk n p) : Cov n (nxt N bd ps) :=
  ⟨(nxt_perm N bd ps).trans h, nxt_ok N bd hp⟩
theorem nxt_le (N : NetD) {bd : Nat} (hb : 1 ≤ bd) {ps : List (List Nat)} : ∀ q ∈ nxt N bd ps, q.length ≤ bd := fun q hq => by
  obtain ⟨p, _, hq⟩ := nxt_mem.1 hq
  exact pcs_le N hb p q hq
theorem Cov.all {n : Nat} {ps : List (List Nat)} (h : Cov n ps) {v : Nat} (hv : v < n) : ∃ (k : Nat) (p : List Nat), ps[k]? = some p ∧ v ∈ p := by
  have := h.perm.mem_iff.2 (List.mem_range.2 hv)
  obtain ⟨p, hp, hv⟩ := List.mem_flatten.1 this
  obtain ⟨k, hk, e⟩ := List.getElem_of_mem hp
  exact ⟨k, p, by rw [List.getElem?_eq_getElem hk, e], hv⟩
theorem flat_nodup : ∀ {ps : List (List Nat)}, ps.flatten.Nodup → ∀ {i j v : Nat} {p q : List Nat}, ps[i]? = some p → ps[j]? = some q → v ∈ p → v ∈ q → i = j
  | [], _, i, _, _, _, _, h, _, _, _ => by simp at h
  | r :: ps, hn, i, j, v, p, q, h1, h2, g1, g2 => by
    rw [List.flatten_cons, List.nodup_append] at hn
    cases i with
    | zero =>
      cases j with
      | zero => rfl
      | succ j =>
        simp at h1 h2
        subst h1
        exact absurd rfl (hn.2.2 v g1 v (List.mem_flatten.2 ⟨q, List.mem_of_getElem? h2, g2⟩))
    | succ i =>
      cases j with
      | zero =>
        simp at h1 h2
        subst h2
        exact absurd rfl (hn.2.2 v g2 v (List.mem_flatten.2 ⟨p, List.mem_of_getElem? h1, g1⟩))
      | succ j =>
        simp at h1 h2
        rw [flat_nodup hn.2.1 h1 h2 g1 g2]
theorem Cov.inj {n : Nat} {ps : List (List Nat)} (h : Cov n ps) {i j v : Nat} {p q : List Nat} (h1 : ps[i]? = some p) (h2 : ps[j]? = some q) (g1 : v ∈ p) (g2 : v ∈ q) : i = j :=
  flat_nodup (h.perm.nodup_iff.2 List.nodup_range) h1 h2 g1 g2
theorem flat_ge : ∀ {ps : List (List Nat)}, (∀ p ∈ ps, p ≠ []) → ps.length ≤ ps.flatten.length
  | [], _ => by simp
  | p :: ps, h => by
    have := flat_ge (ps := ps) (fun q hq => h q (List.mem_cons_of_mem _ hq))
    have h1 : p.length ≠ 0 := fun e => h p (List.mem_cons_self ..) (List.eq_nil_of_length_eq_zero e)
    simp at this ⊢
    omega
theorem Cov.len {n : Nat} {ps : List (List Nat)} (h : Cov n ps) : ps.length ≤ n := by
  have h1 := flat_ge (fun p hp => (h.ok p hp).2)
  rw [h.perm.length_eq] at h1
  simpa using h1
/-- A row tells of each vertex in which of ps it is. -/
structure IsRow (n : Nat) (ps : List (List Nat)) (row : List Int) : Prop where
  len : row.length = n
  at_ : ∀ (k v : Nat) (p : List Nat), ps[k]? = some p → v ∈ p → row[v]? = some (k : Int)
theorem IsRow.get {n : Nat} {ps : List (List Nat)} {row : List Int} (h : IsRow n ps row) (hc : Cov n ps) {v : Nat} {x : Int} (hx : row[v]? = some x) : ∃ (k : Nat) (p : List Nat), ps[k]? = some p ∧ v ∈ p ∧ x = (k : Int) := by
  have hv : v < n := by rw [← h.len]; exact (List.getElem?_eq_some_iff.1 hx).1
  obtain ⟨k, p, h1, h2⟩ := hc.all hv
  have := h.at_ k v p h1 h2
  rw [hx] at this
  exact ⟨k, p, h1, h2, Option.some.inj this⟩
theorem IsRow.unique {n : Nat} {ps : List (List Nat)} {row rov : List Int} (h : IsRow n ps row) (g : IsRow n ps rov) (hc : Cov n ps) : row = rov := by
  apply List.ext_getElem?
  intro v
  rcases Nat.lt_or_ge v n with hv | hv
  · obtain ⟨k, p, h1, h2⟩ := hc.all hv
    rw [h.at_ k v p h1 h2, g.at_ k v p h1 h2]
  · rw [List.getElem?_eq_none (by rw [h.len]; exact hv), List.getElem?_eq_none (by rw [g.len]; exact hv)]
theorem IsRow.most {n : Nat} {ps : List (List Nat)} {row : List Int} (h : IsRow n ps row) (hc : Cov n ps) : mostN row = (ps.length : Int) := by
  have h0 := mostN_nonneg row
  have h1 : mostN row ≤ (ps.length : Int) := mostN_le (fun x hx => by
    obtain ⟨v, hv, e⟩ := List.getElem_of_mem hx
    obtain ⟨k, p, g1, _, rfl⟩ := h.get hc (x := x) (by rw [List.getElem?_eq_getElem hv, e])
    have := (List.getElem?_eq_some_iff.1 g1).1
    omega) (by omega)
  rcases Nat.eq_zero_or_pos ps.length with hz | hz
  · omega
  · have hl : ps.length - 1 < ps.length := by omega
    have e := List.getElem?_eq_getElem hl
    have hne := (hc.ok _ (List.getElem_mem hl)).2
    obtain ⟨v, hv⟩ := List.exists_mem_of_ne_nil _ hne
    have := lt_mostN (List.mem_of_getElem? (h.at_ _ v _ e hv))
    omega
theorem IsRow.lvl {n : Nat} {ps : List (List Nat)} {row : List Int} (h : IsRow n ps row) (hc : Cov n ps) : LvlOk n row := by
  have hm := h.most hc
  have hl := hc.len
  refine ⟨h.len, fun x hx => ?_, fun x hx => ?_, fun c hcm => ?_⟩
  · obtain ⟨v, hv, e⟩ := List.getElem_of_mem hx
    obtain ⟨k, p, _, _, rfl⟩ := h.get hc (x := x) (by rw [List.getElem?_eq_getElem hv, e])
    omega
  · have := lt_mostN hx
    omega
  · have hk : c < ps.length := by omega
    obtain ⟨v, hv⟩ := List.exists_mem_of_ne_nil _ (hc.ok _ (List.getElem_mem hk)).2
    exact List.mem_of_getElem? (h.at_ c v _ (List.getElem?_eq_getElem hk) hv)
/-- From which row what is at a place comes. -/
theorem flatMap_at (f : List Nat → List (List Nat)) : ∀ ps : List (List Nat), ∃ g : Nat → Nat, (∀ x y, x ≤ y → g x ≤ g y) ∧ ∀ (x : Nat) q, (ps.flatMap f)[x]? = some q → ∃ p, ps[g x]? = some p ∧ q ∈ f p
  | [] => ⟨fun _ => 0, fun _ _ _ => Nat.le_refl _, fun x q h => by simp at h⟩
  | p :: ps => by
    obtain ⟨g, h1, h2⟩ := flatMap_at f ps
    refine ⟨fun x => if x < (f p).length then 0 else g (x - (f p).length) + 1, fun x y hxy => ?_, fun x q h => ?_⟩
    · simp only
      split
      · omega
      · rw [if_neg (by omega)]
        have := h1 (x - (f p).length) (y - (f p).length) (by omega)
        omega
    · rw [List.flatMap_cons] at h
      simp only
      split
      · rename_i hx
        rw [List.getElem?_append_left hx] at h
        exact ⟨p, rfl, List.mem_of_getElem? h⟩
      · rename_i hx
        rw [List.getElem?_append_right (by omega)] at h
        obtain ⟨r, k1, k2⟩ := h2 _ q h
        exact ⟨r, k1, k2⟩
theorem pcs_sub (N : NetD) (bd : Nat) (vl : List Nat) : ∀ p ∈ pcs N bd vl, ∀ v ∈ p, v ∈ vl := fun p hp _ hv =>
  (pcs_perm N bd vl).mem_iff.1 (List.mem_flatten.2 ⟨p, hp, hv⟩)
theorem nest_rows {n bd : Nat} {N : NetD} {ps : List (List Nat)} {row up : List Int} (hu : IsRow n ps up) (h : IsRow n (nxt N bd ps) row) (hc : Cov n (nxt N bd ps)) : NestOk row up := by
  intro a b x y u v ha hb hua hub hxy
  obtain ⟨g, g1, g2⟩ := flatMap_at (pcs N bd) ps
  obtain ⟨i, p, i1, i2, rfl⟩ := h.get hc ha
  obtain ⟨j, q, j1, j2, rfl⟩ := h.get hc hb
  obtain ⟨p', p1, p2⟩ := g2 i p i1
  obtain ⟨q', q1, q2⟩ := g2 j q j1
  have e1 := hu.at_ _ a _ p1 (pcs_sub N bd p' p p2 a i2)
  have e2 := hu.at_ _ b _ q1 (pcs_sub N bd q' q q2 b j2)
  rw [hua] at e1
  rw [hub] at e2
  have := g1 i j (by omega)
  cases e1
  cases e2
  omega
theorem IsRow.count {n : Nat} {ps : List (List Nat)} {row : List Int} (h : IsRow n ps row) (hc : Cov n ps) {k : Nat} {p : List Nat} (hk : ps[k]? = some p) : (List.range n).filter (fun v => row[v]? == some (k : Int)) = p := by
  have hp := (hc.ok p (List.mem_of_getElem? hk)).1
  have e : ∀ v, v ∈ (List.range n).filter (fun v => row[v]? == some (k : Int)) ↔ v ∈ p := by
    intro v
    rw [List.mem_filter, List.mem_range]
    simp only [beq_iff_eq]
    constructor
    · rintro ⟨_, h2⟩
      obtain ⟨j, q, q1, q2, e⟩ := h.get hc h2
      obtain rfl : k = j := by omega
      rw [hk] at q1
      cases q1
      exact q2
    · intro hv
      exact ⟨hp.2 v hv, h.at_ k v p hk hv⟩
  have s1 : ((List.range n).filter (fun v => row[v]? == some (k : Int))).Pairwise (· < ·) := List.pairwise_lt_range.filter _
  refine List.Perm.eq_of_pairwise (le := (· < ·)) (fun a b _ _ h1 h2 => by omega) s1 hp.1 ?_
  rw [List.perm_ext_iff_of_nodup (s1.imp (fun h => Nat.ne_of_lt h)) hp.nodup]
  exact e
/-- The numbers that are set: of each of vl k. -/
def setK (row : List Int) (k : Nat) (vl : List Nat) : List Int := vl.foldl (fun r v => r.set v (k : Int)) row
theorem setK_len (k : Nat) : ∀ (vl : List Nat) (row : List Int), (setK row k vl).length = row.length
  | [], _ => rfl
  | v :: vl, row => by
    show (setK (row.set v (k : Int)) k vl).length = _
    rw [setK_len k vl, List.length_set]
theorem setK_take {row : List Int} {k j v : Nat} {vl : List Nat} (h : vl[j]? = some v) : setK row k (vl.take (j + 1)) = (setK row k (vl.take j)).set v (k : Int) := by
  obtain ⟨h1, e1⟩ := List.getElem?_eq_some_iff.1 h
  rw [List.take_succ_eq_append_getElem h1, e1]
  unfold setK
  rw [List.foldl_append]
  rfl
theorem setK_at (k v : Nat) : ∀ (vl : List Nat) (row : List Int), (∀ u ∈ vl, u < row.length) → (setK row k vl)[v]? = if v ∈ vl then some (k : Int) else row[v]?
  | [], _, _ => by simp [setK]
  | u :: vl, row, h => by
    show (setK (row.set u (k : Int)) k vl)[v]? = _
    rw [setK_at k v vl _ (fun x hx => by rw [List.length_set]; exact h x (List.mem_cons_of_mem _ hx))]
    have hu := h u (List.mem_cons_self ..)
    by_cases e1 : v ∈ vl
    · simp [e1]
    · by_cases e2 : v = u
      · subst e2
        simp [e1, hu]
      · rw [if_neg e1, List.getElem?_set_ne (fun e => e2 e.symm), if_neg (by simp [e1, e2])]
def rowTo (n : Nat) (ps : List (List Nat)) (k : Nat) : List Int := (ps.take k).zipIdx.foldl (fun r p => setK r p.2 p.1) (List.replicate n 0)
theorem rowTo_zero (n : Nat) (ps : List (List Nat)) : rowTo n ps 0 = List.replicate n 0 := by simp [rowTo]
theorem rowTo_succ {n k : Nat} {ps : List (List Nat)} {p : List Nat} (h : ps[k]? = some p) : rowTo n ps (k + 1) = setK (rowTo n ps k) k p := by
  obtain ⟨h1, e1⟩ := List.getElem?_eq_some_iff.1 h
  unfold rowTo
  rw [List.take_succ_eq_append_getElem h1, e1, List.zipIdx_append, List.foldl_append]
  have : (ps.take k).length = k := by rw [List.length_take]; omega
  rw [this]
  simp
theorem rowTo_len (n : Nat) (ps : List (List Nat)) : ∀ k, k ≤ ps.length → (rowTo n ps k).length = n
  | 0, _ => by rw [rowTo_zero]; simp
  | k + 1, h => by rw [rowTo_succ (List.getElem?_eq_getElem (show k < ps.length by omega)), setK_len, rowTo_len n ps k (by omega)]
theorem rowTo_at {n : Nat} {ps : List (List Nat)} (hc : Cov n ps) : ∀ k, k ≤ ps.length → ∀ (i v : Nat) (p : List Nat), i < k → ps[i]? = some p → v ∈ p → (rowTo n ps k)[v]? = some (i : Int)
  | 0, _, i, _, _, hi, _, _ => by omega
  | k + 1, h, i, v, p, hi, hp, hv => by
    have hk : k < ps.length := by omega
    have e := List.getElem?_eq_getElem hk
    rw [rowTo_succ e, setK_at _ _ _ _ (fun u hu => by rw [rowTo_len n ps k (by omega)]; exact (hc.ok _ (List.getElem_mem hk)).1.2 u hu)]
    by_cases e2 : i = k
    · subst e2
      rw [hp] at e
      cases e
      rw [if_pos hv]
    · rw [if_neg (fun hv2 => e2 (hc.inj hp e hv hv2))]
      exact rowTo_at hc k (by omega) i v p (by omega) hp hv
def rowN (n : Nat) (ps : List (List Nat)) : List Int := rowTo n ps ps.length
theorem rowN_is {n : Nat} {ps : List (List Nat)} (hc : Cov n ps) : IsRow n ps (rowN n ps) :=
  ⟨rowTo_len n ps _ (Nat.le_refl _), fun k v p hp hv => rowTo_at hc _ (Nat.le_refl _) k v p (List.getElem?_eq_some_iff.1 hp).1 hp hv⟩
/-- The pieces of the levels, from the highest on: bounds as they are, rising. lvP N n bds i: the pieces of level i + 1. -/
noncomputable def downP (N : NetD) : List Nat → List (List Nat)
  | [] => allV N.vs.length
  | b :: bs => nxt N b (downP N bs)
noncomputable def rowsN (N : NetD) : List Nat → List (List Int)
  | [] => []
  | b :: bs => rowN N.vs.length (downP N (b :: bs)) :: rowsN N bs
theorem rowsN_len (N : NetD) : ∀ bs, (rowsN N bs).length = bs.length
  | [] => rfl
  | _ :: bs => by simp [rowsN, rowsN_len N bs]
theorem rowsN_get (N : NetD) : ∀ (bs : List Nat) (i : Nat), i < bs.length → (rowsN N bs)[i]? = some (rowN N.vs.length (downP N (bs.drop i)))
  | [], i, h => by simp at h
  | b :: bs, 0, _ => rfl
  | b :: bs, i + 1, h => by simpa [rowsN] using rowsN_get N bs i (by simpa using h)
theorem downP_perm (N : NetD) : ∀ bs, (downP N bs).flatten.Perm (List.range N.vs.length) ∧ ∀ p ∈ downP N bs, PcOk N.vs.length p
  | [] => ⟨by simp [downP, allV], fun p hp => by rw [List.mem_singleton.1 hp]; exact range_ok _⟩
  | b :: bs => by
    have h := downP_perm N bs
    have hc := nxt_cov (N := N) (bd := b) h.1 h.2
    exact ⟨hc.perm, fun p hp => (hc.ok p hp).1⟩
theorem downP_cov (N : NetD) (b : Nat) (bs : List Nat) : Cov N.vs.length (downP N (b :: bs)) := nxt_cov (downP_perm N bs).1 (downP_perm N bs).2
theorem rows_nest (N : NetD) (b c : Nat) (bs : List Nat) : NestOk (rowN N.vs.length (downP N (b :: c :: bs))) (rowN N.vs.length (downP N (c :: bs))) :=
  nest_rows (rowN_is (downP_cov N c bs)) (rowN_is (downP_cov N b (c :: bs))) (downP_cov N b (c :: bs))
theorem rows_partOk (N : NetD) {bs : List Nat} (h1 : 1 ≤ bs.length) (h6 : bs.length ≤ 6) : PartOk N.vs.length (rowsN N bs) := by
  have hdrop : ∀ i, i < bs.length → ∃ b cs, bs.drop i = b :: cs ∧ cs = bs.drop (i + 1) := fun i hi => ⟨bs[i], bs.drop (i + 1), List.drop_eq_getElem_cons hi, rfl⟩
  refine ⟨by rw [rowsN_len]; exact h1, by rw [rowsN_len]; exact h6, fun l hl => ?_, fun i p l hp hl => ?_⟩
  · obtain ⟨i, hi, e⟩ := List.getElem_of_mem hl
    rw [rowsN_len] at hi
    have g := rowsN_get N bs i hi
    rw [List.getElem?_eq_getElem (by rw [rowsN_len]; exact hi), e] at g
    obtain ⟨b, cs, e2, _⟩ := hdrop i hi
    rw [e2] at g
    cases g
    exact (rowN_is (downP_cov N b cs)).lvl (downP_cov N b cs)
  · have hi : i + 1 < bs.length := by have := (List.getElem?_eq_some_iff.1 hl).1; rw [rowsN_len] at this; exact this
    obtain ⟨b, cs, e1, e2⟩ := hdrop i (by omega)
    obtain ⟨c, ds, e3, _⟩ := hdrop (i + 1) hi
    rw [rowsN_get N bs i (by omega), e1, e2, e3] at hp
    rw [rowsN_get N bs _ hi, e3] at hl
    cases hp
    cases hl
    exact rows_nest N b c ds
end Go.Proofs.YtpffhoefmcpniaaGreatDoor

/- What bounds, vertices may be: plain. -/
namespace Go.Proofs.YtpffhoefmcpniaaGreatDoor
open Go.RowKit

theorem natsOf_len (l : List Int) : (natsOf l).length = l.length := by simp [natsOf]
/-- The bound at place i is greater than 0 and than the one ahead. -/
def bGood (bs : List Int) (i : Nat) : Prop := ∃ b, bs[i]? = some b ∧ 1 ≤ b ∧ ∀ a, i ≠ 0 → bs[i - 1]? = some a → a < b
structure BndOk (bs : List Int) : Prop where
  l1 : 1 ≤ bs.length
  l6 : bs.length ≤ 6
  all : ∀ i, i < bs.length → bGood bs i
def BndBad (bs : List Int) (k c : Int) : Prop :=
  (bs.length = 0 ∧ k = 0 ∧ c = 1) ∨ (6 < bs.length ∧ k = 0 ∧ c = 4) ∨ (1 ≤ bs.length ∧ bs.length ≤ 6 ∧ ∃ i : Nat, i < bs.length ∧ (∀ j, j < i → bGood bs j) ∧ ¬ bGood bs i ∧ k = i ∧ c = 1)
theorem leastN {P : Nat → Prop} : ∀ n : Nat, (∀ i, i < n → P i) ∨ ∃ i, i < n ∧ ¬ P i ∧ ∀ j, j < i → P j
  | 0 => .inl (fun i h => by omega)
  | n + 1 => by
    rcases leastN (P := P) n with h | ⟨i, h1, h2, h3⟩
    · by_cases hn : P n
      · exact .inl (fun i hi => by
          by_cases e : i = n
          · rw [e]; exact hn
          · exact h i (by omega))
      · exact .inr ⟨n, by omega, hn, h⟩
    · exact .inr ⟨i, by omega, h2, h3⟩
theorem bnd_or (bs : List Int) : BndOk bs ∨ ∃ k c, BndBad bs k c := by
  by_cases h0 : bs.length = 0
  · exact .inr ⟨0, 1, .inl ⟨h0, rfl, rfl⟩⟩
  by_cases h6 : 6 < bs.length
  · exact .inr ⟨0, 4, .inr (.inl ⟨h6, rfl, rfl⟩)⟩
  rcases leastN (P := bGood bs) bs.length with h | ⟨i, h1, h2, h3⟩
  · exact .inl ⟨by omega, by omega, h⟩
  · exact .inr ⟨i, 1, .inr (.inr ⟨by omega, by omega, i, h1, h3, h2, rfl, rfl⟩)⟩
theorem BndBad.ne {bs : List Int} {k c : Int} (h : BndBad bs k c) : c ≠ 0 := by
  rcases h with ⟨_, _, rfl⟩ | ⟨_, _, rfl⟩ | ⟨_, _, _, _, _, _, _, rfl⟩ <;> omega
theorem bGood_bad {bs : List Int} {i : Nat} {b : Int} (hb : bs[i]? = some b) (h : ¬ bGood bs i) : b < 1 ∨ (i ≠ 0 ∧ ∃ a, bs[i - 1]? = some a ∧ b ≤ a) := by
  by_cases h1 : b < 1
  · exact .inl h1
  · right
    by_cases h0 : i = 0
    · exact absurd ⟨b, hb, by omega, fun a h => absurd h0 h⟩ h
    · refine ⟨h0, ?_⟩
      have hlt := (List.getElem?_eq_some_iff.1 hb).1
      have e := List.getElem?_eq_getElem (show i - 1 < bs.length by omega)
      refine ⟨_, e, ?_⟩
      by_cases h2 : bs[i - 1] < b
      · exact absurd ⟨b, hb, by omega, fun a _ ha => by rw [e] at ha; cases ha; exact h2⟩ h
      · omega
/-- The bounds as numbers. -/
theorem BndOk.nats {bs : List Int} (h : BndOk bs) : bs = nats (natsOf bs) := by
  refine (nats_of (fun x hx => ?_)).symm
  obtain ⟨i, hi, rfl⟩ := List.getElem_of_mem hx
  obtain ⟨b, hb, h1, _⟩ := h.all i hi
  rw [List.getElem?_eq_getElem hi] at hb
  cases hb
  omega
theorem BndOk.pos {bs : List Int} (h : BndOk bs) : ∀ b ∈ natsOf bs, 1 ≤ b := fun b hb => by
  obtain ⟨x, hx, rfl⟩ := mem_natsOf.1 hb
  obtain ⟨i, hi, rfl⟩ := List.getElem_of_mem hx
  obtain ⟨b, hb, h1, _⟩ := h.all i hi
  rw [List.getElem?_eq_getElem hi] at hb
  cases hb
  omega
/-- The vertex at place i is one of n, and greater than the one ahead. -/
def vGood (n : Nat) (vs : List Int) (i : Nat) : Prop := ∃ v, vs[i]? = some v ∧ 0 ≤ v ∧ v < n ∧ ∀ a, i ≠ 0 → vs[i - 1]? = some a → a < v
def VrtOk (n : Nat) (vs : List Int) : Prop := ∀ i, i < vs.length → vGood n vs i
/-- The first vertex that is wrong: code nm, where it is none; tw, where it is not greater. -/
def VrtBad (n : Nat) (nm tw : Int) (vs : List Int) (i : Nat) (c : Int) : Prop :=
  i < vs.length ∧ (∀ j, j < i → vGood n vs j) ∧ ∃ v, vs[i]? = some v ∧ (((v < 0 ∨ (n : Int) ≤ v) ∧ c = nm) ∨ (0 ≤ v ∧ v < n ∧ i ≠ 0 ∧ c = tw ∧ ∃ a, vs[i - 1]? = some a ∧ v ≤ a))
theorem vrt_or (n : Nat) (nm tw : Int) (vs : List Int) : VrtOk n vs ∨ ∃ i c, VrtBad n nm tw vs i c := by
  rcases leastN (P := vGood n vs) vs.length with h | ⟨i, h1, h2, h3⟩
  · exact .inl h
  · refine .inr ?_
    have e := List.getElem?_eq_getElem h1
    by_cases hr : vs[i] < 0 ∨ (n : Int) ≤ vs[i]
    · exact ⟨i, nm, h1, h3, _, e, .inl ⟨hr, rfl⟩⟩
    · by_cases h0 : i = 0
      · exact absurd ⟨_, e, by omega, by omega, fun a h => absurd h0 h⟩ h2
      · have e2 := List.getElem?_eq_getElem (show i - 1 < vs.length by omega)
        by_cases hlt : vs[i - 1] < vs[i]
        · exact absurd ⟨_, e, by omega, by omega, fun a _ ha => by rw [e2] at ha; cases ha; exact hlt⟩ h2
        · exact ⟨i, tw, h1, h3, _, e, .inr ⟨by omega, by omega, h0, rfl, _, e2, by omega⟩⟩
theorem VrtOk.nats {n : Nat} {vs : List Int} (h : VrtOk n vs) : vs = nats (natsOf vs) := by
  refine (nats_of (fun x hx => ?_)).symm
  obtain ⟨i, hi, rfl⟩ := List.getElem_of_mem hx
  obtain ⟨b, hb, h1, _⟩ := h i hi
  rw [List.getElem?_eq_getElem hi] at hb
  cases hb
  exact h1
theorem VrtOk.ok {n : Nat} {vs : List Int} (h : VrtOk n vs) : PcOk n (natsOf vs) := by
  have hlt : ∀ i (hi : i < vs.length), 0 ≤ vs[i] ∧ vs[i] < n := fun i hi => by
    obtain ⟨b, hb, h1, h2, _⟩ := h i hi
    rw [List.getElem?_eq_getElem hi] at hb
    cases hb
    exact ⟨h1, h2⟩
  refine ⟨?_, fun v hv => ?_⟩
  · unfold natsOf
    rw [List.pairwise_map, List.pairwise_iff_getElem]
    have step : ∀ i j (hi : i < vs.length) (hj : j < vs.length), i < j → vs[i] < vs[j] := by
      intro i j
      induction j with
      | zero => intro _ _ h; omega
      | succ j ih =>
        intro hi hj hij
        obtain ⟨b, hb, _, _, h3⟩ := h (j + 1) hj
        rw [List.getElem?_eq_getElem hj] at hb
        cases hb
        have h4 := h3 _ (by omega) (List.getElem?_eq_getElem (show j + 1 - 1 < vs.length by omega))
        by_cases e : i = j
        · subst e; exact h4
        · have := ih hi (by omega) (by omega)
          simp only [Nat.add_sub_cancel] at h4
          omega
    intro i j hi hj hij
    have := step i j hi hj hij
    have := hlt i hi
    omega
  · obtain ⟨x, hx, rfl⟩ := mem_natsOf.1 hv
    obtain ⟨i, hi, rfl⟩ := List.getElem_of_mem hx
    have := hlt i hi
    omega
end Go.Proofs.YtpffhoefmcpniaaGreatDoor

/- Cells of a level: how many, which; plain. -/
namespace Go.Proofs.YtpffhoefmcpniaaGreatDoor
open Go.RowKit

/-- Those of the first k vertices that are in cell c. -/
def memN (row : List Int) (c : Int) (k : Nat) : List Nat := (List.range k).filter (fun v => row[v]? == some c)
theorem memN_succ {row : List Int} {c x : Int} {k : Nat} (h : row[k]? = some x) : memN row c (k + 1) = memN row c k ++ if x = c then [k] else [] := by
  unfold memN
  rw [List.range_succ, List.filter_append]
  congr 1
  by_cases e : x = c
  · subst e
    simp [h]
  · simp [h, e]
theorem memN_len (row : List Int) (c : Int) (k : Nat) : (memN row c k).length ≤ k := by
  have := List.length_filter_le (fun v => row[v]? == some c) (List.range k)
  simpa [memN] using this
theorem IsRow.mem {n : Nat} {ps : List (List Nat)} {row : List Int} (h : IsRow n ps row) (hc : Cov n ps) {k : Nat} {p : List Nat} (hk : ps[k]? = some p) : memN row (k : Int) n = p := h.count hc hk
theorem IsRow.countP {n : Nat} {ps : List (List Nat)} {row : List Int} (h : IsRow n ps row) (hc : Cov n ps) {k : Nat} {p : List Nat} (hk : ps[k]? = some p) : row.countP (fun x => x == (k : Int)) = p.length := by
  have e : row = (List.range n).map (fun v => row.getD v 0) := by
    apply List.ext_getElem?
    intro v
    rw [List.getElem?_map]
    rcases Nat.lt_or_ge v n with hv | hv
    · rw [List.getElem?_range hv, List.getElem?_eq_getElem (by rw [h.len]; exact hv)]
      simp [h.len, hv]
    · rw [List.getElem?_eq_none (by rw [h.len]; exact hv), List.getElem?_eq_none (by simpa using hv)]
      rfl
  have hm := h.mem hc hk
  unfold memN at hm
  rw [← hm, ← List.countP_eq_length_filter]
  conv => lhs; rw [e]
  rw [List.countP_map]
  apply List.countP_congr
  intro v hv
  have hv := List.mem_range.1 hv
  rw [List.getElem?_eq_getElem (by rw [h.len]; exact hv)]
  simp [h.len, hv]
theorem nxt_get {N : NetD} {bd c i : Nat} {ps : List (List Nat)} {p q : List Nat} (hp : ps[c]? = some p) (hq : (pcs N bd p)[i]? = some q) : (nxt N bd ps)[(nxt N bd (ps.take c)).length + i]? = some q := by
  obtain ⟨h1, e1⟩ := List.getElem?_eq_some_iff.1 hp
  have e : nxt N bd ps = nxt N bd (ps.take c) ++ (pcs N bd p ++ nxt N bd (ps.drop (c + 1))) := by
    conv => lhs; rw [← List.take_append_drop c ps, List.drop_eq_getElem_cons h1, e1]
    rw [nxt_app]
    simp [nxt]
  rw [e, List.getElem?_append_right (by omega), show (nxt N bd (ps.take c)).length + i - (nxt N bd (ps.take c)).length = i by omega]
  rw [List.getElem?_append_left (List.getElem?_eq_some_iff.1 hq).1]
  exact hq
/-- Each vertex is a piece of its own. -/
theorem nxt_ones {N : NetD} {n : Nat} {ps : List (List Nat)} (h : ps.flatten.Perm (List.range n)) (hp : ∀ p ∈ ps, PcOk n p) : (nxt N 1 ps).length = n := by
  have hc := nxt_cov (N := N) (bd := 1) h hp
  have h1 : ∀ q ∈ nxt N 1 ps, q.length = 1 := fun q hq => by
    have g1 := nxt_le N (Nat.le_refl 1) q hq
    have g2 := (hc.ok q hq).2
    have : q.length ≠ 0 := fun e => g2 (List.eq_nil_of_length_eq_zero e)
    omega
  rw [← flat_ones h1, hc.perm.length_eq]
  simp
end Go.Proofs.YtpffhoefmcpniaaGreatDoor
