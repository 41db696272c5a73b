/- Parts of the proof: NeL, NeC, NeR, NeW. -/
import Derived.Test.YtpffhoefmcpniaaGreatDoorB1
import Derived.Test.YtpffhoefmcpniaaGreatDoorB2
import Derived.Test.YtpffhoefmcpniaaGreatDoorB20
namespace Go.Proofs.YtpffhoefmcpniaaGreatDoor
open Go.RowKit

structure Cov (n : Nat) (ps : List (List Nat)) : Prop where
 perm : ps.flatten.Perm (List.range n)
 ok : ∀ p ∈ ps, PcOk n p ∧ p ≠ []
noncomputable def nxt (N : NetD) (bd : Nat) (ps : List (List Nat)) : List (List Nat) := ps.flatMap (pcs N bd)
def allV (n : Nat) : List (List Nat) := [List.range n]
theorem range_ok (n : Nat) : PcOk n (List.range n) := ⟨List.pairwise_lt_range, fun _ hv => List.mem_range.1 hv⟩
theorem nxt_app (N : NetD) (bd : Nat) (ps qs : List (List Nat)) : nxt N bd (ps ++ qs) = nxt N bd ps ++ nxt N bd qs := by simp [nxt]
theorem nxt_one (N : NetD) (bd : Nat) (p : List Nat) : nxt N bd [p] = pcs N bd p := by simp [nxt]
theorem nxt_take {N : NetD} {bd k : Nat} {ps : List (List Nat)} {p : List Nat} (h : ps[k]? = some p) : nxt N bd (ps.take (k + 1)) = nxt N bd (ps.take k) ++ pcs N bd p := by
 obtain ⟨h1, e1⟩ := List.getElem?_eq_some_iff.1 h
 rw [List.take_succ_eq_append_getElem h1, e1, nxt_app, nxt_one]
theorem nxt_perm (N : NetD) (bd : Nat) : ∀ ps : List (List Nat), (nxt N bd ps).flatten.Perm ps.flatten
 | [] => by simp [nxt]
 | p :: ps => by
  have h1 := nxt_perm N bd ps
  have h2 := pcs_perm N bd p
  have e : nxt N bd (p :: ps) = pcs N bd p ++ nxt N bd ps := by simp [nxt]
  rw [e, List.flatten_append, List.flatten_cons]
  exact h2.append h1
theorem nxt_mem {N : NetD} {bd : Nat} {ps : List (List Nat)} {q : List Nat} : q ∈ nxt N bd ps ↔ ∃ p ∈ ps, q ∈ pcs N bd p := by simp [nxt]
theorem nxt_ok {n : Nat} (N : NetD) (bd : Nat) {ps : List (List Nat)} (h : ∀ p ∈ ps, PcOk n p) : ∀ q ∈ nxt N bd ps, PcOk n q ∧ q ≠ [] := fun q hq => by
 obtain ⟨p, hp, hq⟩ := nxt_mem.1 hq
 exact pcs_ok N bd p (h p hp) q hq
theorem nxt_cov {n : Nat} {N : NetD} {bd : Nat} {ps : List (List Nat)} (h : ps.flatten.Perm (List.range n)) (hp : ∀ p ∈ ps, PcOk n p) : Cov n (nxt N bd ps) :=
 ⟨(nxt_perm N bd ps).trans h, nxt_ok N bd hp⟩
theorem nxt_le (N : NetD) {bd : Nat} (hb : 1 ≤ bd) {ps : List (List Nat)} : ∀ q ∈ nxt N bd ps, q.length ≤ bd := fun q hq => by
 obtain ⟨p, _, hq⟩ := nxt_mem.1 hq
 exact pcs_le N hb p q hq
theorem Cov.all {n : Nat} {ps : List (List Nat)} (h : Cov n ps) {v : Nat} (hv : v < n) : ∃ (k : Nat) (p : List Nat), ps[k]? = some p ∧ v ∈ p := by
 have := h.perm.mem_iff.2 (List.mem_range.2 hv)
 obtain ⟨p, hp, hv⟩ := List.mem_flatten.1 this
 obtain ⟨k, hk, e⟩ := List.getElem_of_mem hp
 exact ⟨k, p, by rw [List.getElem?_eq_getElem hk, e], hv⟩
theorem flat_nodup : ∀ {ps : List (List Nat)}, ps.flatten.Nodup → ∀ {i j v : Nat} {p q : List Nat}, ps[i]? = some p → ps[j]? = some q → v ∈ p → v ∈ q → i = j
 | [], _, i, _, _, _, _, h, _, _, _ => by simp at h
 | r :: ps, hn, i, j, v, p, q, h1, h2, g1, g2 => by
  rw [List.flatten_cons, List.nodup_append] at hn
  cases i with
  | zero =>
   cases j with
   | zero => rfl
   | succ j =>
    simp at h1 h2
    subst h1
    exact absurd rfl (hn.2.2 v g1 v (List.mem_flatten.2 ⟨q, List.mem_of_getElem? h2, g2⟩))
  | succ i =>
   cases j with
   | zero =>
    simp at h1 h2
    subst h2
    exact absurd rfl (hn.2.2 v g2 v (List.mem_flatten.2 ⟨p, List.mem_of_getElem? h1, g1⟩))
   | succ j =>
    simp at h1 h2
    rw [flat_nodup hn.2.1 h1 h2 g1 g2]
theorem Cov.inj {n : Nat} {ps : List (List Nat)} (h : Cov n ps) {i j v : Nat} {p q : List Nat} (h1 : ps[i]? = some p) (h2 : ps[j]? = some q) (g1 : v ∈ p) (g2 : v ∈ q) : i = j :=
 flat_nodup (h.perm.nodup_iff.2 List.nodup_range) h1 h2 g1 g2
theorem flat_ge : ∀ {ps : List (List Nat)}, (∀ p ∈ ps, p ≠ []) → ps.length ≤ ps.flatten.length
 | [], _ => by simp
 | p :: ps, h => by
  have := flat_ge (ps := ps) (fun q hq => h q (List.mem_cons_of_mem _ hq))
  have h1 : p.length ≠ 0 := fun e => h p (List.mem_cons_self ..) (List.eq_nil_of_length_eq_zero e)
  simp at this ⊢
  omega
theorem Cov.len {n : Nat} {ps : List (List Nat)} (h : Cov n ps) : ps.length ≤ n := by
 have h1 := flat_ge (fun p hp => (h.ok p hp).2)
 rw [h.perm.length_eq] at h1
 simpa using h1
structure IsRow (n : Nat) (ps : List (List Nat)) (row : List Int) : Prop where
 len : row.length = n
 at_ : ∀ (k v : Nat) (p : List Nat), ps[k]? = some p → v ∈ p → row[v]? = some (k : Int)
theorem IsRow.get {n : Nat} {ps : List (List Nat)} {row : List Int} (h : IsRow n ps row) (hc : Cov n ps) {v : Nat} {x : Int} (hx : row[v]? = some x) : ∃ (k : Nat) (p : List Nat), ps[k]? = some p ∧ v ∈ p ∧ x = (k : Int) := by
 have hv : v < n := by rw [← h.len]; exact (List.getElem?_eq_some_iff.1 hx).1
 obtain ⟨k, p, h1, h2⟩ := hc.all hv
 have := h.at_ k v p h1 h2
 rw [hx] at this
 exact ⟨k, p, h1, h2, Option.some.inj this⟩
theorem IsRow.most {n : Nat} {ps : List (List Nat)} {row : List Int} (h : IsRow n ps row) (hc : Cov n ps) : mostN row = (ps.length : Int) := by
 have h0 := mostN_nonneg row
 have h1 : mostN row ≤ (ps.length : Int) := mostN_le (fun x hx => by
  obtain ⟨v, hv, e⟩ := List.getElem_of_mem hx
  obtain ⟨k, p, g1, _, rfl⟩ := h.get hc (x := x) (by rw [List.getElem?_eq_getElem hv, e])
  have := (List.getElem?_eq_some_iff.1 g1).1
  omega) (by omega)
 rcases Nat.eq_zero_or_pos ps.length with hz | hz
 · omega
 · have hl : ps.length - 1 < ps.length := by omega
   have e := List.getElem?_eq_getElem hl
   have hne := (hc.ok _ (List.getElem_mem hl)).2
   obtain ⟨v, hv⟩ := List.exists_mem_of_ne_nil _ hne
   have := lt_mostN (List.mem_of_getElem? (h.at_ _ v _ e hv))
   omega
theorem IsRow.lvl {n : Nat} {ps : List (List Nat)} {row : List Int} (h : IsRow n ps row) (hc : Cov n ps) : LvlOk n row := by
 have hm := h.most hc
 have hl := hc.len
 refine ⟨h.len, fun x hx => ?_, fun x hx => ?_, fun c hcm => ?_⟩
 · obtain ⟨v, hv, e⟩ := List.getElem_of_mem hx
   obtain ⟨k, p, _, _, rfl⟩ := h.get hc (x := x) (by rw [List.getElem?_eq_getElem hv, e])
   omega
 · have := lt_mostN hx
   omega
 · have hk : c < ps.length := by omega
   obtain ⟨v, hv⟩ := List.exists_mem_of_ne_nil _ (hc.ok _ (List.getElem_mem hk)).2
   exact List.mem_of_getElem? (h.at_ c v _ (List.getElem?_eq_getElem hk) hv)
theorem flatMap_at (f : List Nat → List (List Nat)) : ∀ ps : List (List Nat), ∃ g : Nat → Nat, (∀ x y, x ≤ y → g x ≤ g y) ∧ ∀ (x : Nat) q, (ps.flatMap f)[x]? = some q → ∃ p, ps[g x]? = some p ∧ q ∈ f p
 | [] => ⟨fun _ => 0, fun _ _ _ => Nat.le_refl _, fun x q h => by simp at h⟩
 | p :: ps => by
  obtain ⟨g, h1, h2⟩ := flatMap_at f ps
  refine ⟨fun x => if x < (f p).length then 0 else g (x - (f p).length) + 1, fun x y hxy => ?_, fun x q h => ?_⟩
  · simp only
    split
    · omega
    · rw [if_neg (by omega)]
      have := h1 (x - (f p).length) (y - (f p).length) (by omega)
      omega
  · rw [List.flatMap_cons] at h
    simp only
    split
    · rename_i hx
      rw [List.getElem?_append_left hx] at h
      exact ⟨p, rfl, List.mem_of_getElem? h⟩
    · rename_i hx
      rw [List.getElem?_append_right (by omega)] at h
      obtain ⟨r, k1, k2⟩ := h2 _ q h
      exact ⟨r, k1, k2⟩
theorem pcs_sub (N : NetD) (bd : Nat) (vl : List Nat) : ∀ p ∈ pcs N bd vl, ∀ v ∈ p, v ∈ vl := fun p hp _ hv =>
 (pcs_perm N bd vl).mem_iff.1 (List.mem_flatten.2 ⟨p, hp, hv⟩)
theorem nest_rows {n bd : Nat} {N : NetD} {ps : List (List Nat)} {row up : List Int} (hu : IsRow n ps up) (h : IsRow n (nxt N bd ps) row) (hc : Cov n (nxt N bd ps)) : NestOk row up := by
 intro a b x y u v ha hb hua hub hxy
 obtain ⟨g, g1, g2⟩ := flatMap_at (pcs N bd) ps
 obtain ⟨i, p, i1, i2, rfl⟩ := h.get hc ha
 obtain ⟨j, q, j1, j2, rfl⟩ := h.get hc hb
 obtain ⟨p', p1, p2⟩ := g2 i p i1
 obtain ⟨q', q1, q2⟩ := g2 j q j1
 have e1 := hu.at_ _ a _ p1 (pcs_sub N bd p' p p2 a i2)
 have e2 := hu.at_ _ b _ q1 (pcs_sub N bd q' q q2 b j2)
 rw [hua] at e1
 rw [hub] at e2
 have := g1 i j (by omega)
 cases e1
 cases e2
 omega
theorem IsRow.count {n : Nat} {ps : List (List Nat)} {row : List Int} (h : IsRow n ps row) (hc : Cov n ps) {k : Nat} {p : List Nat} (hk : ps[k]? = some p) : (List.range n).filter (fun v => row[v]? == some (k : Int)) = p := by
 have hp := (hc.ok p (List.mem_of_getElem? hk)).1
 have e : ∀ v, v ∈ (List.range n).filter (fun v => row[v]? == some (k : Int)) ↔ v ∈ p := by
  intro v
  rw [List.mem_filter, List.mem_range]
  simp only [beq_iff_eq]
  constructor
  · rintro ⟨_, h2⟩
    obtain ⟨j, q, q1, q2, e⟩ := h.get hc h2
    obtain rfl : k = j := by omega
    rw [hk] at q1
    cases q1
    exact q2
  · intro hv
    exact ⟨hp.2 v hv, h.at_ k v p hk hv⟩
 have s1 : ((List.range n).filter (fun v => row[v]? == some (k : Int))).Pairwise (· < ·) := List.pairwise_lt_range.filter _
 refine List.Perm.eq_of_pairwise (le := (· < ·)) (fun a b _ _ h1 h2 => by omega) s1 hp.1 ?_
 rw [List.perm_ext_iff_of_nodup (s1.imp (fun h => Nat.ne_of_lt h)) hp.nodup]
 exact e
def setK (row : List Int) (k : Nat) (vl : List Nat) : List Int := vl.foldl (fun r v => r.set v (k : Int)) row
theorem setK_len (k : Nat) : ∀ (vl : List Nat) (row : List Int), (setK row k vl).length = row.length
 | [], _ => rfl
 | v :: vl, row => by
  show (setK (row.set v (k : Int)) k vl).length = _
  rw [setK_len k vl, List.length_set]
theorem setK_take {row : List Int} {k j v : Nat} {vl : List Nat} (h : vl[j]? = some v) : setK row k (vl.take (j + 1)) = (setK row k (vl.take j)).set v (k : Int) := by
 obtain ⟨h1, e1⟩ := List.getElem?_eq_some_iff.1 h
 rw [List.take_succ_eq_append_getElem h1, e1]
 unfold setK
 rw [List.foldl_append]
 rfl
theorem setK_at (k v : Nat) : ∀ (vl : List Nat) (row : List Int), (∀ u ∈ vl, u < row.length) → (setK row k vl)[v]? = if v ∈ vl then some (k : Int) else row[v]?
 | [], _, _ => by simp [setK]
 | u :: vl, row, h => by
  show (setK (row.set u (k : Int)) k vl)[v]? = _
  rw [setK_at k v vl _ (fun x hx => by rw [List.length_set]; exact h x (List.mem_cons_of_mem _ hx))]
  have hu := h u (List.mem_cons_self ..)
  by_cases e1 : v ∈ vl
  · simp [e1]
  · by_cases e2 : v = u
    · subst e2
      simp [e1, hu]
    · rw [if_neg e1, List.getElem?_set_ne (fun e => e2 e.symm), if_neg (by simp [e1, e2])]
def rowTo (n : Nat) (ps : List (List Nat)) (k : Nat) : List Int := (ps.take k).zipIdx.foldl (fun r p => setK r p.2 p.1) (List.replicate n 0)
theorem rowTo_zero (n : Nat) (ps : List (List Nat)) : rowTo n ps 0 = List.replicate n 0 := by simp [rowTo]
theorem rowTo_succ {n k : Nat} {ps : List (List Nat)} {p : List Nat} (h : ps[k]? = some p) : rowTo n ps (k + 1) = setK (rowTo n ps k) k p := by
 obtain ⟨h1, e1⟩ := List.getElem?_eq_some_iff.1 h
 unfold rowTo
 rw [List.take_succ_eq_append_getElem h1, e1, List.zipIdx_append, List.foldl_append]
 have : (ps.take k).length = k := by rw [List.length_take]; omega
 rw [this]
 simp
theorem rowTo_len (n : Nat) (ps : List (List Nat)) : ∀ k, k ≤ ps.length → (rowTo n ps k).length = n
 | 0, _ => by rw [rowTo_zero]; simp
 | k + 1, h => by rw [rowTo_succ (List.getElem?_eq_getElem (show k < ps.length by omega)), setK_len, rowTo_len n ps k (by omega)]
theorem rowTo_at {n : Nat} {ps : List (List Nat)} (hc : Cov n ps) : ∀ k, k ≤ ps.length → ∀ (i v : Nat) (p : List Nat), i < k → ps[i]? = some p → v ∈ p → (rowTo n ps k)[v]? = some (i : Int)
 | 0, _, i, _, _, hi, _, _ => by omega
 | k + 1, h, i, v, p, hi, hp, hv => by
  have hk : k < ps.length := by omega
  have e := List.getElem?_eq_getElem hk
  rw [rowTo_succ e, setK_at _ _ _ _ (fun u hu => by rw [rowTo_len n ps k (by omega)]; exact (hc.ok _ (List.getElem_mem hk)).1.2 u hu)]
  by_cases e2 : i = k
  · subst e2
    rw [hp] at e
    cases e
    rw [if_pos hv]
  · rw [if_neg (fun hv2 => e2 (hc.inj hp e hv hv2))]
    exact rowTo_at hc k (by omega) i v p (by omega) hp hv
def rowN (n : Nat) (ps : List (List Nat)) : List Int := rowTo n ps ps.length
theorem rowN_is {n : Nat} {ps : List (List Nat)} (hc : Cov n ps) : IsRow n ps (rowN n ps) :=
 ⟨rowTo_len n ps _ (Nat.le_refl _), fun k v p hp hv => rowTo_at hc _ (Nat.le_refl _) k v p (List.getElem?_eq_some_iff.1 hp).1 hp hv⟩
noncomputable def downP (N : NetD) : List Nat → List (List Nat)
 | [] => allV N.vs.length
 | b :: bs => nxt N b (downP N bs)
noncomputable def rowsN (N : NetD) : List Nat → List (List Int)
 | [] => []
 | b :: bs => rowN N.vs.length (downP N (b :: bs)) :: rowsN N bs
theorem rowsN_len (N : NetD) : ∀ bs, (rowsN N bs).length = bs.length
 | [] => rfl
 | _ :: bs => by simp [rowsN, rowsN_len N bs]
theorem rowsN_get (N : NetD) : ∀ (bs : List Nat) (i : Nat), i < bs.length → (rowsN N bs)[i]? = some (rowN N.vs.length (downP N (bs.drop i)))
 | [], i, h => by simp at h
 | b :: bs, 0, _ => rfl
 | b :: bs, i + 1, h => by simpa [rowsN] using rowsN_get N bs i (by simpa using h)
theorem downP_perm (N : NetD) : ∀ bs, (downP N bs).flatten.Perm (List.range N.vs.length) ∧ ∀ p ∈ downP N bs, PcOk N.vs.length p
 | [] => ⟨by simp [downP, allV], fun p hp => by rw [List.mem_singleton.1 hp]; exact range_ok _⟩
 | b :: bs => by
  have h := downP_perm N bs
  have hc := nxt_cov (N := N) (bd := b) h.1 h.2
  exact ⟨hc.perm, fun p hp => (hc.ok p hp).1⟩
theorem downP_cov (N : NetD) (b : Nat) (bs : List Nat) : Cov N.vs.length (downP N (b :: bs)) := nxt_cov (downP_perm N bs).1 (downP_perm N bs).2
theorem rows_nest (N : NetD) (b c : Nat) (bs : List Nat) : NestOk (rowN N.vs.length (downP N (b :: c :: bs))) (rowN N.vs.length (downP N (c :: bs))) :=
 nest_rows (rowN_is (downP_cov N c bs)) (rowN_is (downP_cov N b (c :: bs))) (downP_cov N b (c :: bs))
theorem rows_partOk (N : NetD) {bs : List Nat} (h1 : 1 ≤ bs.length) (h6 : bs.length ≤ 6) : PartOk N.vs.length (rowsN N bs) := by
 have hdrop : ∀ i, i < bs.length → ∃ b cs, bs.drop i = b :: cs ∧ cs = bs.drop (i + 1) := fun i hi => ⟨bs[i], bs.drop (i + 1), List.drop_eq_getElem_cons hi, rfl⟩
 refine ⟨by rw [rowsN_len]; exact h1, by rw [rowsN_len]; exact h6, fun l hl => ?_, fun i p l hp hl => ?_⟩
 · obtain ⟨i, hi, e⟩ := List.getElem_of_mem hl
   rw [rowsN_len] at hi
   have g := rowsN_get N bs i hi
   rw [List.getElem?_eq_getElem (by rw [rowsN_len]; exact hi), e] at g
   obtain ⟨b, cs, e2, _⟩ := hdrop i hi
   rw [e2] at g
   cases g
   exact (rowN_is (downP_cov N b cs)).lvl (downP_cov N b cs)
 · have hi : i + 1 < bs.length := by have := (List.getElem?_eq_some_iff.1 hl).1; rw [rowsN_len] at this; exact this
   obtain ⟨b, cs, e1, e2⟩ := hdrop i (by omega)
   obtain ⟨c, ds, e3, _⟩ := hdrop (i + 1) hi
   rw [rowsN_get N bs i (by omega), e1, e2, e3] at hp
   rw [rowsN_get N bs _ hi, e3] at hl
   cases hp
   cases hl
   exact rows_nest N b c ds
end Go.Proofs.YtpffhoefmcpniaaGreatDoor

namespace Go.Proofs.YtpffhoefmcpniaaGreatDoor
open Go.RowKit

theorem natsOf_len (l : List Int) : (natsOf l).length = l.length := by simp [natsOf]
def bGood (bs : List Int) (i : Nat) : Prop := ∃ b, bs[i]? = some b ∧ 1 ≤ b ∧ ∀ a, i ≠ 0 → bs[i - 1]? = some a → a < b
structure BndOk (bs : List Int) : Prop where
 l1 : 1 ≤ bs.length
 l6 : bs.length ≤ 6
 all : ∀ i, i < bs.length → bGood bs i
def BndBad (bs : List Int) (k c : Int) : Prop :=
 (bs.length = 0 ∧ k = 0 ∧ c = 1) ∨ (6 < bs.length ∧ k = 0 ∧ c = 4) ∨ (1 ≤ bs.length ∧ bs.length ≤ 6 ∧ ∃ i : Nat, i < bs.length ∧ (∀ j, j < i → bGood bs j) ∧ ¬ bGood bs i ∧ k = i ∧ c = 1)
theorem leastN {P : Nat → Prop} : ∀ n : Nat, (∀ i, i < n → P i) ∨ ∃ i, i < n ∧ ¬ P i ∧ ∀ j, j < i → P j
 | 0 => .inl (fun i h => by omega)
 | n + 1 => by
  rcases leastN (P := P) n with h | ⟨i, h1, h2, h3⟩
  · by_cases hn : P n
    · exact .inl (fun i hi => by
       by_cases e : i = n
       · rw [e]; exact hn
       · exact h i (by omega))
    · exact .inr ⟨n, by omega, hn, h⟩
  · exact .inr ⟨i, by omega, h2, h3⟩
theorem bnd_or (bs : List Int) : BndOk bs ∨ ∃ k c, BndBad bs k c := by
 by_cases h0 : bs.length = 0
 · exact .inr ⟨0, 1, .inl ⟨h0, rfl, rfl⟩⟩
 by_cases h6 : 6 < bs.length
 · exact .inr ⟨0, 4, .inr (.inl ⟨h6, rfl, rfl⟩)⟩
 rcases leastN (P := bGood bs) bs.length with h | ⟨i, h1, h2, h3⟩
 · exact .inl ⟨by omega, by omega, h⟩
 · exact .inr ⟨i, 1, .inr (.inr ⟨by omega, by omega, i, h1, h3, h2, rfl, rfl⟩)⟩
theorem BndBad.ne {bs : List Int} {k c : Int} (h : BndBad bs k c) : c ≠ 0 := by
 rcases h with ⟨_, _, rfl⟩ | ⟨_, _, rfl⟩ | ⟨_, _, _, _, _, _, _, rfl⟩ <;> omega
theorem bGood_bad {bs : List Int} {i : Nat} {b : Int} (hb : bs[i]? = some b) (h : ¬ bGood bs i) : b < 1 ∨ (i ≠ 0 ∧ ∃ a, bs[i - 1]? = some a ∧ b ≤ a) := by
 by_cases h1 : b < 1
 · exact .inl h1
 · right
   by_cases h0 : i = 0
   · exact absurd ⟨b, hb, by omega, fun a h => absurd h0 h⟩ h
   · refine ⟨h0, ?_⟩
     have hlt := (List.getElem?_eq_some_iff.1 hb).1
     have e := List.getElem?_eq_getElem (show i - 1 < bs.length by omega)
     refine ⟨_, e, ?_⟩
     by_cases h2 : bs[i - 1] < b
     · exact absurd ⟨b, hb, by omega, fun a _ ha => by rw [e] at ha; cases ha; exact h2⟩ h
     · omega
theorem BndOk.nats {bs : List Int} (h : BndOk bs) : bs = nats (natsOf bs) := by
 refine (nats_of (fun x hx => ?_)).symm
 obtain ⟨i, hi, rfl⟩ := List.getElem_of_mem hx
 obtain ⟨b, hb, h1, _⟩ := h.all i hi
 rw [List.getElem?_eq_getElem hi] at hb
 cases hb
 omega
theorem BndOk.pos {bs : List Int} (h : BndOk bs) : ∀ b ∈ natsOf bs, 1 ≤ b := fun b hb => by
 obtain ⟨x, hx, rfl⟩ := mem_natsOf.1 hb
 obtain ⟨i, hi, rfl⟩ := List.getElem_of_mem hx
 obtain ⟨b, hb, h1, _⟩ := h.all i hi
 rw [List.getElem?_eq_getElem hi] at hb
 cases hb
 omega
def vGood (n : Nat) (vs : List Int) (i : Nat) : Prop := ∃ v, vs[i]? = some v ∧ 0 ≤ v ∧ v < n ∧ ∀ a, i ≠ 0 → vs[i - 1]? = some a → a < v
def VrtOk (n : Nat) (vs : List Int) : Prop := ∀ i, i < vs.length → vGood n vs i
def VrtBad (n : Nat) (nm tw : Int) (vs : List Int) (i : Nat) (c : Int) : Prop :=
 i < vs.length ∧ (∀ j, j < i → vGood n vs j) ∧ ∃ v, vs[i]? = some v ∧ (((v < 0 ∨ (n : Int) ≤ v) ∧ c = nm) ∨ (0 ≤ v ∧ v < n ∧ i ≠ 0 ∧ c = tw ∧ ∃ a, vs[i - 1]? = some a ∧ v ≤ a))
theorem vrt_or (n : Nat) (nm tw : Int) (vs : List Int) : VrtOk n vs ∨ ∃ i c, VrtBad n nm tw vs i c := by
 rcases leastN (P := vGood n vs) vs.length with h | ⟨i, h1, h2, h3⟩
 · exact .inl h
 · refine .inr ?_
   have e := List.getElem?_eq_getElem h1
   by_cases hr : vs[i] < 0 ∨ (n : Int) ≤ vs[i]
   · exact ⟨i, nm, h1, h3, _, e, .inl ⟨hr, rfl⟩⟩
   · by_cases h0 : i = 0
     · exact absurd ⟨_, e, by omega, by omega, fun a h => absurd h0 h⟩ h2
     · have e2 := List.getElem?_eq_getElem (show i - 1 < vs.length by omega)
       by_cases hlt : vs[i - 1] < vs[i]
       · exact absurd ⟨_, e, by omega, by omega, fun a _ ha => by rw [e2] at ha; cases ha; exact hlt⟩ h2
       · exact ⟨i, tw, h1, h3, _, e, .inr ⟨by omega, by omega, h0, rfl, _, e2, by omega⟩⟩
theorem VrtOk.nats {n : Nat} {vs : List Int} (h : VrtOk n vs) : vs = nats (natsOf vs) := by
 refine (nats_of (fun x hx => ?_)).symm
 obtain ⟨i, hi, rfl⟩ := List.getElem_of_mem hx
 obtain ⟨b, hb, h1, _⟩ := h i hi
 rw [List.getElem?_eq_getElem hi] at hb
 cases hb
 exact h1
theorem VrtOk.ok {n : Nat} {vs : List Int} (h : VrtOk n vs) : PcOk n (natsOf vs) := by
 have hlt : ∀ i (hi : i < vs.length), 0 ≤ vs[i] ∧ vs[i] < n := fun i hi => by
  obtain ⟨b, hb, h1, h2, _⟩ := h i hi
  rw [List.getElem?_eq_getElem hi] at hb
  cases hb
  exact ⟨h1, h2⟩
 refine ⟨?_, fun v hv => ?_⟩
 · unfold natsOf
   rw [List.pairwise_map, List.pairwise_iff_getElem]
   have step : ∀ i j (hi : i < vs.length) (hj : j < vs.length), i < j → vs[i] < vs[j] := by
    intro i j
    induction j with
    | zero => intro _ _ h; omega
    | succ j ih =>
     intro hi hj hij
     obtain ⟨b, hb, _, _, h3⟩ := h (j + 1) hj
     rw [List.getElem?_eq_getElem hj] at hb
     cases hb
     have h4 := h3 _ (by omega) (List.getElem?_eq_getElem (show j + 1 - 1 < vs.length by omega))
     by_cases e : i = j
     · subst e; exact h4
     · have := ih hi (by omega) (by omega)
       simp only [Nat.add_sub_cancel] at h4
       omega
   intro i j hi hj hij
   have := step i j hi hj hij
   have := hlt i hi
   omega
 · obtain ⟨x, hx, rfl⟩ := mem_natsOf.1 hv
   obtain ⟨i, hi, rfl⟩ := List.getElem_of_mem hx
   have := hlt i hi
   omega
end Go.Proofs.YtpffhoefmcpniaaGreatDoor

namespace Go.Proofs.YtpffhoefmcpniaaGreatDoor
open Go.RowKit

def memN (row : List Int) (c : Int) (k : Nat) : List Nat := (List.range k).filter (fun v => row[v]? == some c)
theorem IsRow.mem {n : Nat} {ps : List (List Nat)} {row : List Int} (h : IsRow n ps row) (hc : Cov n ps) {k : Nat} {p : List Nat} (hk : ps[k]? = some p) : memN row (k : Int) n = p := h.count hc hk
theorem IsRow.countP {n : Nat} {ps : List (List Nat)} {row : List Int} (h : IsRow n ps row) (hc : Cov n ps) {k : Nat} {p : List Nat} (hk : ps[k]? = some p) : row.countP (fun x => x == (k : Int)) = p.length := by
 have e : row = (List.range n).map (fun v => row.getD v 0) := by
  apply List.ext_getElem?
  intro v
  rw [List.getElem?_map]
  rcases Nat.lt_or_ge v n with hv | hv
  · rw [List.getElem?_range hv, List.getElem?_eq_getElem (by rw [h.len]; exact hv)]
    simp [h.len, hv]
  · rw [List.getElem?_eq_none (by rw [h.len]; exact hv), List.getElem?_eq_none (by simpa using hv)]
    rfl
 have hm := h.mem hc hk
 unfold memN at hm
 rw [← hm, ← List.countP_eq_length_filter]
 conv => lhs; rw [e]
 rw [List.countP_map]
 apply List.countP_congr
 intro v hv
 have hv := List.mem_range.1 hv
 rw [List.getElem?_eq_getElem (by rw [h.len]; exact hv)]
 simp [h.len, hv]
theorem nxt_ones {N : NetD} {n : Nat} {ps : List (List Nat)} (h : ps.flatten.Perm (List.range n)) (hp : ∀ p ∈ ps, PcOk n p) : (nxt N 1 ps).length = n := by
 have hc := nxt_cov (N := N) (bd := 1) h hp
 have h1 : ∀ q ∈ nxt N 1 ps, q.length = 1 := fun q hq => by
  have g1 := nxt_le N (Nat.le_refl 1) q hq
  have g2 := (hc.ok q hq).2
  have : q.length ≠ 0 := fun e => g2 (List.eq_nil_of_length_eq_zero e)
  omega
 rw [← flat_ones h1, hc.perm.length_eq]
 simp
end Go.Proofs.YtpffhoefmcpniaaGreatDoor

namespace Go.Proofs.YtpffhoefmcpniaaGreatDoor
open Go.RowKit

def ovr (L : List Int) (cs : List Value) : Array Value := (icells L ++ cs).toArray
theorem ovr_get {L : List Int} {cs : List Value} {i : Nat} {x : Int} (h : L[i]? = some x) : (ovr L cs)[i]? = some (.int .i64 x) := by
 unfold ovr icells
 rw [List.getElem?_toArray, List.getElem?_append_left (by rw [List.length_map]; exact (List.getElem?_eq_some_iff.1 h).1), List.getElem?_map, h]
 rfl
theorem ovr_set {L : List Int} {cs : List Value} {i : Nat} (x : Int) (h : i < L.length) : (ovr L cs).setIfInBounds i (.int .i64 x) = ovr (L.set i x) cs := by
 unfold ovr icells
 rw [List.setIfInBounds_toArray, List.set_append_left _ _ (by rw [List.length_map]; exact h), List.map_set]
def PlI (W : World) (A : Option Addr) (cs : List Value) (L : List Int) : Prop := (A = none ∧ L = []) ∨ ∃ g, A = some ⟨g, 0, none⟩ ∧ Blk W g 3 (ovr L cs)
theorem PlI.at_ {W : World} {A : Option Addr} {cs : List Value} {L : List Int} {i : Nat} {x : Int} (h : PlI W A cs L) (hx : L[i]? = some x) : ∃ g, A = some ⟨g, 0, none⟩ ∧ W.cell? ⟨g, i, none⟩ = some (.int .i64 x) ∧ W.frozen? ⟨g, i, none⟩ = false ∧ g < W.heap.size ∧ ∀ y, PlI (W.setCell ⟨g, i, none⟩ (.int .i64 y)) A cs (L.set i y) := by
 rcases h with ⟨_, rfl⟩ | ⟨g, rfl, h⟩
 · simp at hx
 · exact ⟨g, rfl, by rw [h.cell, ovr_get hx], h.frozen i, h.lt, fun y => .inr ⟨g, rfl, by have := h.set_ i (.int .i64 y); rwa [ovr_set y (List.getElem?_eq_some_iff.1 hx).1] at this⟩⟩
theorem PlI.keep {W W' : World} {A : Option Addr} {cs : List Value} {L : List Int} (h : PlI W A cs L) (hk : ∀ g, blkOf A = some g → g < W.heap.size → W'.heap[g]? = W.heap[g]?) : PlI W' A cs L := by
 rcases h with h | ⟨g, rfl, h⟩
 · exact .inl h
 · exact .inr ⟨g, rfl, (hk g rfl h.lt).trans h⟩
def plcL (n : Nat) (vl : List Nat) (j : Nat) : List Int := (List.range n).map (fun v => if v ∈ vl.take j then (vl.idxOf v : Int) else -1)
def clrL (n : Nat) (vl : List Nat) (j : Nat) : List Int := (List.range n).map (fun v => if v ∈ vl ∧ v ∉ vl.take j then (vl.idxOf v : Int) else -1)
theorem plcL_len (n : Nat) (vl : List Nat) (j : Nat) : (plcL n vl j).length = n := by simp [plcL]
theorem clrL_len (n : Nat) (vl : List Nat) (j : Nat) : (clrL n vl j).length = n := by simp [clrL]
theorem plcL_zero (n : Nat) (vl : List Nat) : plcL n vl 0 = List.replicate n (-1) := by
 apply List.ext_getElem?
 intro i
 rcases Nat.lt_or_ge i n with h | h
 · simp [plcL, h]
 · rw [List.getElem?_eq_none (by rw [plcL_len]; exact h), List.getElem?_eq_none (by simpa using h)]
theorem plcL_at {n j v : Nat} {vl : List Nat} (h : v < n) : (plcL n vl j)[v]? = some (if v ∈ vl.take j then (vl.idxOf v : Int) else -1) := by
 unfold plcL
 rw [List.getElem?_map, List.getElem?_range h]
 rfl
theorem clrL_at {n j v : Nat} {vl : List Nat} (h : v < n) : (clrL n vl j)[v]? = some (if v ∈ vl ∧ v ∉ vl.take j then (vl.idxOf v : Int) else -1) := by
 unfold clrL
 rw [List.getElem?_map, List.getElem?_range h]
 rfl
theorem take_mem {vl : List Nat} {j v u : Nat} (hv : vl[j]? = some v) : u ∈ vl.take (j + 1) ↔ u ∈ vl.take j ∨ u = v := by
 obtain ⟨h1, e1⟩ := List.getElem?_eq_some_iff.1 hv
 rw [List.take_succ_eq_append_getElem h1, e1, List.mem_append, List.mem_singleton]
theorem idxOf_atW {vl : List Nat} (hn : vl.Nodup) {j v : Nat} (hv : vl[j]? = some v) : vl.idxOf v = j := by
 obtain ⟨h1, e1⟩ := List.getElem?_eq_some_iff.1 hv
 rw [← e1]
 exact hn.idxOf_getElem j h1
theorem plcL_next {n j v : Nat} {vl : List Nat} (hn : vl.Nodup) (hv : vl[j]? = some v) (h : v < n) : (plcL n vl j).set v (j : Int) = plcL n vl (j + 1) := by
 apply List.ext_getElem?
 intro i
 rcases Nat.lt_or_ge i n with hi | hi
 · rw [plcL_at hi]
   by_cases e : v = i
   · subst e
     rw [List.getElem?_set_self (by rw [plcL_len]; exact h), if_pos ((take_mem hv).2 (.inr rfl)), idxOf_atW hn hv]
   · rw [List.getElem?_set_ne e, plcL_at hi]
     have : i ∈ vl.take (j + 1) ↔ i ∈ vl.take j := by rw [take_mem hv]; exact ⟨fun h => h.resolve_right (fun h => e h.symm), .inl⟩
     simp only [this]
 · rw [List.getElem?_eq_none (by rw [List.length_set, plcL_len]; exact hi), List.getElem?_eq_none (by rw [plcL_len]; exact hi)]
theorem clrL_zero (n : Nat) (vl : List Nat) : clrL n vl 0 = plcL n vl vl.length := by
 apply List.ext_getElem?
 intro i
 rcases Nat.lt_or_ge i n with hi | hi
 · rw [plcL_at hi, clrL_at hi]
   simp
 · rw [List.getElem?_eq_none (by rw [clrL_len]; exact hi), List.getElem?_eq_none (by rw [plcL_len]; exact hi)]
theorem clrL_all (n : Nat) (vl : List Nat) : clrL n vl vl.length = List.replicate n (-1) := by
 apply List.ext_getElem?
 intro i
 rcases Nat.lt_or_ge i n with hi | hi
 · rw [clrL_at hi]
   simp [hi]
 · rw [List.getElem?_eq_none (by rw [clrL_len]; exact hi), List.getElem?_eq_none (by simpa using hi)]
theorem clrL_next {n j v : Nat} {vl : List Nat} (hv : vl[j]? = some v) (h : v < n) : (clrL n vl j).set v (-1) = clrL n vl (j + 1) := by
 apply List.ext_getElem?
 intro i
 rcases Nat.lt_or_ge i n with hi | hi
 · rw [clrL_at hi]
   by_cases e : v = i
   · subst e
     rw [List.getElem?_set_self (by rw [clrL_len]; exact h), if_neg (fun q => q.2 ((take_mem hv).2 (.inr rfl)))]
   · rw [List.getElem?_set_ne e, clrL_at hi]
     have : i ∈ vl.take (j + 1) ↔ i ∈ vl.take j := by rw [take_mem hv]; exact ⟨fun h => h.resolve_right (fun h => e h.symm), .inl⟩
     simp only [this]
 · rw [List.getElem?_eq_none (by rw [List.length_set, clrL_len]; exact hi), List.getElem?_eq_none (by rw [clrL_len]; exact hi)]
theorem plcL_full {n v : Nat} {vl : List Nat} (h : v < n) : (plcL n vl vl.length)[v]? = some (if v ∈ vl then (vl.idxOf v : Int) else -1) := by
 rw [plcL_at h, List.take_length]
structure CtL (W : World) (gc : Nat) (AP AE AL : Option Addr) (cp ce cl : Nat) (cs : List Value) (N : NetD) (L : List Int) : Prop where
 blk : Blk W gc 125 #[.slice AP N.vs.length cp, .slice AE N.ar.length ce, .slice AL N.vs.length cl]
 pts : RdP W AP N.vs.length (N.vs.map (fun v => (v.1, v.2.1)))
 ends : RdP W AE N.ar.length (N.ar.map (fun a => (a.1, a.2.1)))
 place : PlI W AL cs L
 len : L.length = N.vs.length
 far : ∀ g, blkOf AL = some g → g ≠ gc ∧ blkOf AP ≠ some g ∧ blkOf AE ≠ some g
 lt : ∀ b, blkOf AP = some b ∨ blkOf AE = some b ∨ blkOf AL = some b → b < W.heap.size
 capP : N.vs.length ≤ cp
 capE : N.ar.length ≤ ce
 capL : N.vs.length ≤ cl
def NoPl (N : NetD) : List Int := List.replicate N.vs.length (-1)
abbrev CtV (W : World) (gc : Nat) (AP AE AL : Option Addr) (cp ce cl : Nat) (cs : List Value) (N : NetD) : Prop := CtL W gc AP AE AL cp ce cl cs N (NoPl N)
section
variable {W W' w : World} {gc cp ce cl g : Nat} {AP AE AL : Option Addr} {cs : List Value} {N : NetD} {L : List Int}
theorem RdP.grownN {A : Option Addr} {n : Nat} {r : Option Nat} {l : List (Int × Int)} (h : RdP W A n l) (hg : W.grownBy W' r) (hne : ∀ g, blkOf A = some g → r ≠ some g) : RdP W' A n l :=
 ⟨h.1, fun i x hx => by
  obtain ⟨b, o, e, h1, h2⟩ := h.2 i x hx
  subst e
  have hk := hg.block b (lt_of_cell h1) (fun e => hne b rfl e.symm)
  refine ⟨b, o, rfl, ?_, ?_⟩
  all_goals
   unfold World.cell? at h1 h2 ⊢
   rw [hk]
   assumption⟩
theorem CtL.below (h : CtL W gc AP AE AL cp ce cl cs N L) (hb : Below W.heap.size W W') : CtL W' gc AP AE AL cp ce cl cs N L :=
 ⟨h.blk.below hb h.blk.lt, h.pts.below hb, h.ends.below hb, h.place.keep (fun g _ hl => hb.block g hl), h.len, h.far, fun b hx => Nat.lt_of_lt_of_le (h.lt b hx) hb.size, h.capP, h.capE, h.capL⟩
theorem CtL.grown {r : Option Nat} (h : CtL W gc AP AE AL cp ce cl cs N L) (hg : W.grownBy W' r) (hr : ∀ k, r = some k → k ≠ gc ∧ blkOf AP ≠ some k ∧ blkOf AE ≠ some k ∧ blkOf AL ≠ some k) : CtL W' gc AP AE AL cp ce cl cs N L :=
 ⟨h.blk.grown hg (fun e => (hr gc e).1 rfl), h.pts.grownN hg (fun g e1 e2 => (hr g e2).2.1 e1), h.ends.grownN hg (fun g e1 e2 => (hr g e2).2.2.1 e1), h.place.keep (fun g e hl => hg.block g hl (fun e2 => (hr g e2.symm).2.2.2 e)), h.len, h.far, fun b hx => Nat.lt_of_lt_of_le (h.lt b hx) hg.size, h.capP, h.capE, h.capL⟩
theorem CtL.at_ {v : Nat} (h : CtL W gc AP AE AL cp ce cl cs N L) (hv : v < N.vs.length) : ∃ (g : Nat) (x : Int), L[v]? = some x ∧ AL = some ⟨g, 0, none⟩ ∧ W.cell? ⟨g, v, none⟩ = some (.int .i64 x) ∧ W.frozen? ⟨g, v, none⟩ = false ∧ g < W.heap.size ∧ ∀ y, CtL (W.setCell ⟨g, v, none⟩ (.int .i64 y)) gc AP AE AL cp ce cl cs N (L.set v y) := by
 have hx := List.getElem?_eq_getElem (show v < L.length by rw [h.len]; exact hv)
 obtain ⟨g, rfl, h1, h2, h3, h4⟩ := h.place.at_ hx
 have hf := h.far g rfl
 exact ⟨g, _, hx, rfl, h1, h2, h3, fun y => ⟨h.blk.grown (grownBy_set W g v _) (fun e => hf.1 (by cases e; rfl)), h.pts.grownN (grownBy_set W g v _) (fun k e1 e2 => hf.2.1 (by cases e2; exact e1)), h.ends.grownN (grownBy_set W g v _) (fun k e1 e2 => hf.2.2 (by cases e2; exact e1)), h4 y, by rw [List.length_set, h.len], h.far, fun b hx => by simpa [World.setCell] using h.lt b hx, h.capP, h.capE, h.capL⟩⟩
theorem CtL.new {k : Nat} (h : CtL W gc AP AE AL cp ce cl cs N L) (hk : W.heap.size ≤ k) : k ≠ gc ∧ blkOf AP ≠ some k ∧ blkOf AE ≠ some k ∧ blkOf AL ≠ some k :=
 ⟨fun e => by have := h.blk.lt; omega, fun e => by have := h.lt k (.inl e); omega, fun e => by have := h.lt k (.inr (.inl e)); omega, fun e => by have := h.lt k (.inr (.inr e)); omega⟩
theorem CtL.back (h : CtL w gc AP AE AL cp ce cl cs N L) (h' : CtL W gc AP AE AL cp ce cl cs N L) (hg : w.grownBy W (blkOf AL)) : Below w.heap.size w W where
 os := hg.os
 tape := hg.tape
 output := hg.output
 size := hg.size
 block := fun k hk => by
  by_cases e : some k = blkOf AL
  · rcases h.place with ⟨e0, _⟩ | ⟨g, e0, p1⟩
    · rw [e0] at e; cases e
    · rcases h'.place with ⟨e1, _⟩ | ⟨g', e2, p2⟩
      · rw [e0] at e1; cases e1
      · rw [e0] at e2 e
        cases e2
        cases e
        exact p2.trans p1.symm
  · exact hg.block k hk e
end
end Go.Proofs.YtpffhoefmcpniaaGreatDoor
