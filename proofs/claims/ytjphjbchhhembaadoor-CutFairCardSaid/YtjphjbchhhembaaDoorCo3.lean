/- Plain laws: the order by keys (XPl1, for the cut of the cards). No walk. -/
import Derived.Test.YtjphjbchhhembaaDoorCo2
namespace Go.Proofs.YtjphjbchhhembaaDoor

/-- a stands ahead of b by the keys, of one key by place -/
def klt (ks : List Int) (a b : Int) : Prop := ks.getD a.toNat 0 < ks.getD b.toNat 0 ∨ (ks.getD a.toNat 0 = ks.getD b.toNat 0 ∧ a < b)
instance (ks : List Int) (a b : Int) : Decidable (klt ks a b) := by unfold klt; infer_instance
def IsOrd (ks : List Int) (n : Nat) (o : List Int) : Prop := o.Perm (iota n) ∧ o.Pairwise (klt ks)
instance (ks : List Int) (n : Nat) (o : List Int) : Decidable (IsOrd ks n o) := by unfold IsOrd; infer_instance

theorem iota_mem {n : Nat} {x : Int} : x ∈ iota n ↔ 0 ≤ x ∧ x < n := by
  unfold iota
  rw [List.mem_map]
  constructor
  · rintro ⟨i, hi, rfl⟩; rw [List.mem_range] at hi; omega
  · rintro ⟨h0, h1⟩; exact ⟨x.toNat, by rw [List.mem_range]; omega, by omega⟩
theorem iota_nodup (n : Nat) : (iota n).Nodup := by
  unfold iota
  exact List.Pairwise.map _ (fun a b h => by intro e; exact h (by omega)) List.nodup_range
theorem klt_trans {ks : List Int} {a b c : Int} (h1 : klt ks a b) (h2 : klt ks b c) : klt ks a c := by unfold klt at *; omega
theorem klt_irr {ks : List Int} {a : Int} : ¬ klt ks a a := by unfold klt; omega
theorem klt_tot {ks : List Int} {a b : Int} (h : a ≠ b) : klt ks a b ∨ klt ks b a := by unfold klt; omega

theorem isOrd_unique {ks : List Int} {n : Nat} {o o' : List Int} (h : IsOrd ks n o) (h' : IsOrd ks n o') : o = o' :=
  List.Perm.eq_of_pairwise (le := klt ks) (fun _ _ _ _ h1 h2 => absurd (klt_trans h1 h2) klt_irr) h.2 h'.2 (h.1.trans h'.1.symm)

theorem finRange_map (n : Nat) : (List.finRange n).map (fun x => (x.val : Int)) = iota n := by
  unfold iota
  apply List.ext_getElem?
  intro i
  simp only [List.getElem?_map]
  rcases Nat.lt_or_ge i n with h | h
  · rw [List.getElem?_eq_getElem (by simpa using h), List.getElem?_eq_getElem (by simpa using h)]
    simp
  · rw [List.getElem?_eq_none (by simpa using h), List.getElem?_eq_none (by simpa using h)]
    rfl

theorem sortIdx_ord (ks : List Int) (n : Nat) : IsOrd ks n (sortIdx (cmpK ks) n) := by
  have hk : ∀ a b : Int, cmpK ks a b < 0 ↔ klt ks a b := fun a b => by rw [cmpK_neg]; rfl
  have hp : (sortIdx (cmpK ks) n).Perm (iota n) := by
    unfold sortIdx
    rw [← finRange_map]
    exact (List.mergeSort_perm _ _).map _
  refine ⟨hp, ?_⟩
  have hnd : (sortIdx (cmpK ks) n).Nodup := hp.nodup_iff.2 (iota_nodup n)
  have hs : (sortIdx (cmpK ks) n).Pairwise (fun a b => ¬ klt ks b a) := by
    unfold sortIdx
    have h := List.pairwise_mergeSort (le := fun x y : Fin n => !decide (cmpK ks y.val x.val < 0))
      (fun a b c h1 h2 => by
        simp only [Bool.not_eq_true', decide_eq_false_iff_not, hk] at *
        intro h3
        by_cases hab : a.val = b.val
        · rw [hab] at h3; exact h2 h3
        · rcases klt_tot (ks := ks) (a := (a.val : Int)) (b := b.val) (by omega) with h4 | h4
          · exact h2 (klt_trans h3 h4)
          · exact h1 h4)
      (fun a b => by
        simp only [Bool.or_eq_true, Bool.not_eq_true', decide_eq_false_iff_not, hk]
        by_cases h : klt ks b.val a.val
        · right; intro h2; exact klt_irr (klt_trans h h2)
        · left; exact h)
      (List.finRange n)
    exact List.Pairwise.map _ (fun a b h => by simp only [Bool.not_eq_true', decide_eq_false_iff_not, hk] at h; exact h) h
  have := hs.and hnd
  exact this.imp (fun {a b} h => by
    rcases klt_tot (ks := ks) h.2 with h1 | h1
    · exact h1
    · exact absurd h1 h.1)

theorem order_ord (l : List (Int × Int)) (d : Int) : IsOrd (keysOf l d) l.length (order l d) := sortIdx_ord _ _
theorem order_eq {l : List (Int × Int)} {d : Int} {o : List Int} (h : IsOrd (keysOf l d) l.length o) : order l d = o := isOrd_unique (order_ord l d) h
theorem order_len (l : List (Int × Int)) (d : Int) : (order l d).length = l.length := by rw [(order_ord l d).1.length_eq]; simp [iota]
theorem order_mem {l : List (Int × Int)} {d : Int} {x : Int} (h : x ∈ order l d) : 0 ≤ x ∧ x < l.length := iota_mem.1 ((order_ord l d).1.mem_iff.1 h)
theorem order_nodup (l : List (Int × Int)) (d : Int) : (order l d).Nodup := (order_ord l d).1.nodup_iff.2 (iota_nodup _)

theorem nodup_at {l : List Int} {i j : Nat} {x : Int} (h : l.Nodup) (hij : i < j) (hi : l[i]? = some x) (hj : l[j]? = some x) : False := by
  obtain ⟨h1, e1⟩ := List.getElem?_eq_some_iff.1 hi
  obtain ⟨h2, e2⟩ := List.getElem?_eq_some_iff.1 hj
  exact (List.pairwise_iff_getElem.1 h i j h1 h2 hij) (e1.trans e2.symm)
theorem order_k1 : order [(3, 0), (0, 4), (3, 1), (-1, -1)] 0 = [3, 1, 0, 2] := order_eq (by decide)
theorem order_k2 : order [(3, 0), (0, 4), (3, 1), (-1, -1)] 3 = [1, 3, 2, 0] := order_eq (by decide)
def moveP (dx dy : Int) (l : List (Int × Int)) : List (Int × Int) := l.map (fun p => (p.1 + dx, p.2 + dy))
theorem key_move (dx dy d : Int) (h0 : 0 ≤ d) (h3 : d ≤ 3) : ∃ c, ∀ p : Int × Int, key (p.1 + dx, p.2 + dy) d = key p d + c := by
  rcases (show d = 0 ∨ d = 1 ∨ d = 2 ∨ d = 3 by omega) with rfl | rfl | rfl | rfl
  · exact ⟨dx, fun p => by simp [key]⟩
  · exact ⟨dy, fun p => by simp [key]⟩
  · exact ⟨dx + dy, fun p => by simp [key]; omega⟩
  · exact ⟨dx - dy, fun p => by simp [key]; omega⟩
theorem keys_at {l : List (Int × Int)} {d a : Int} (h0 : 0 ≤ a) (h1 : a < l.length) : (keysOf l d).getD a.toNat 0 = key (l[a.toNat]'(by omega)) d := by
  unfold keysOf
  rw [List.getD_eq_getElem?_getD, List.getElem?_map, List.getElem?_eq_getElem (by omega)]
  rfl
theorem order_move (l : List (Int × Int)) (dx dy d : Int) (h0 : 0 ≤ d) (h3 : d ≤ 3) : order (moveP dx dy l) d = order l d := by
  obtain ⟨c, hc⟩ := key_move dx dy d h0 h3
  apply order_eq
  have ho := order_ord l d
  refine ⟨by simpa [moveP] using ho.1, ho.2.imp_of_mem (fun {a b} ha hb h => ?_)⟩
  have ha' := order_mem ha
  have hb' := order_mem hb
  unfold klt at *
  rw [keys_at ha'.1 ha'.2, keys_at hb'.1 hb'.2] at h
  rw [keys_at ha'.1 (by simpa [moveP] using ha'.2), keys_at hb'.1 (by simpa [moveP] using hb'.2)]
  simp only [moveP, List.getElem_map, hc]
  omega
end Go.Proofs.YtjphjbchhhembaaDoor
