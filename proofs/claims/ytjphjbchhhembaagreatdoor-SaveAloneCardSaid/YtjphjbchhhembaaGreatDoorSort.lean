/- slices.SortFunc over savings, over rows of routes: what it leaves. -/
import Derived.Test.YtjphjbchhhembaaGreatDoorSv
import Derived.Test.YtjphjbchhhembaaGreatDoorApp
namespace Go.Proofs.YtjphjbchhhembaaGreatDoor
open Go.RowKit Go.Sort Go.Shelf Go.Lib

/-- A slice of savings reads as L. -/
def RdS (w : World) (A : Option Addr) (n : Nat) (L : List Sv) : Prop :=
  L.length = n ∧ ∀ i x, L[i]? = some x → ∃ b o, A = some ⟨b, o, none⟩ ∧ w.cell? ⟨b, o + i * 3, none⟩ = some (.int .i64 x.1) ∧ w.cell? ⟨b, o + i * 3 + 1, none⟩ = some (.int .i64 x.2.1) ∧ w.cell? ⟨b, o + i * 3 + 2, none⟩ = some (.int .i64 x.2.2)
theorem RdS.below {w w' : World} {A : Option Addr} {n : Nat} {L : List Sv} (h : RdS w A n L) (hb : RowKit.Below w.heap.size w w') : RdS w' A n L :=
  ⟨h.1, fun i x hx => by obtain ⟨b, o, e, h1, h2, h3⟩ := h.2 i x hx; exact ⟨b, o, e, Below.cellOf hb (Nat.le_refl _) h1, Below.cellOf hb (Nat.le_refl _) h2, Below.cellOf hb (Nat.le_refl _) h3⟩⟩
theorem RdS.at_ {w : World} {A : Option Addr} {n i : Nat} {L : List Sv} (h : RdS w A n L) (hi : i < n) :
    ∃ b o I J S, A = some ⟨b, o, none⟩ ∧ L[i]? = some (I, J, S) ∧ w.cell? ⟨b, o + i * 3, none⟩ = some (.int .i64 I) ∧ w.cell? ⟨b, o + i * 3 + 1, none⟩ = some (.int .i64 J) ∧ w.cell? ⟨b, o + i * 3 + 2, none⟩ = some (.int .i64 S) := by
  have hl : i < L.length := by rw [h.1]; exact hi
  obtain ⟨b, o, e, h1, h2, h3⟩ := h.2 i _ (List.getElem?_eq_getElem hl)
  exact ⟨b, o, _, _, _, e, List.getElem?_eq_getElem hl, h1, h2, h3⟩

/-- savings as cells -/
def scells : List Sv → List Value
  | [] => []
  | p :: t => .int .i64 p.1 :: .int .i64 p.2.1 :: .int .i64 p.2.2 :: scells t
theorem scells_len : ∀ l : List Sv, (scells l).length = l.length * 3
  | [] => rfl
  | _ :: t => by simp [scells, scells_len t]; omega
theorem scells_app : ∀ l m : List Sv, scells (l ++ m) = scells l ++ scells m
  | [], _ => rfl
  | p :: t, m => by simp [scells, scells_app t m]
theorem scells_get : ∀ {l : List Sv} {i : Nat} {p : Sv}, l[i]? = some p → (scells l)[i * 3]? = some (.int .i64 p.1) ∧ (scells l)[i * 3 + 1]? = some (.int .i64 p.2.1) ∧ (scells l)[i * 3 + 2]? = some (.int .i64 p.2.2)
  | [], i, p, h => by simp at h
  | q :: t, 0, p, h => by simp at h; subst h; simp [scells]
  | q :: t, i + 1, p, h => by
    have := scells_get (l := t) (i := i) (p := p) (by simpa using h)
    rw [show (i + 1) * 3 = i * 3 + 1 + 1 + 1 by omega]
    simpa [scells] using this
theorem scells_one (l : List Sv) : ∀ u ∈ scells l, u.oneCell' = true := by
  induction l with
  | nil => intro u hu; cases hu
  | cons p t ih =>
    intro u hu
    simp only [scells, List.mem_cons] at hu
    rcases hu with rfl | rfl | rfl | hu
    · rfl
    · rfl
    · rfl
    · exact ih u hu
theorem Rds.rdS {w : World} {n : Nat} {A : Option Addr} {l : List Sv} (h : Rds w 3 A n (scells l)) : RdS w A n l :=
  ⟨by have := h.1; rw [scells_len] at this; omega, fun i p hp => by
    obtain ⟨h1, h2, h3⟩ := scells_get hp
    obtain ⟨b, o, e, c1⟩ := h.2 _ _ h1
    obtain ⟨b', o', e', c2⟩ := h.2 _ _ h2
    obtain ⟨b2, o2, e2, c3⟩ := h.2 _ _ h3
    rw [e] at e' e2; cases e'; cases e2
    exact ⟨b, o, e, c1, by rw [Nat.add_assoc]; exact c2, by rw [Nat.add_assoc]; exact c3⟩⟩

/-- One saving stands ahead of another one. -/
def svLt (a b : Sv) : Prop := b.2.2 < a.2.2 ∨ (a.2.2 = b.2.2 ∧ (a.1 < b.1 ∨ (a.1 = b.1 ∧ a.2.1 < b.2.1)))
instance svLtDec (a b : Sv) : Decidable (svLt a b) := by unfold svLt; infer_instance
theorem svCf_neg (a b : Sv) : svCf a b < 0 ↔ svLt a b := by
  unfold svCf svLt or3
  have h1 := cmpI_neg b.2.2 a.2.2
  have h2 := cmpI_zero b.2.2 a.2.2
  have h3 := cmpI_neg a.1 b.1
  have h4 := cmpI_zero a.1 b.1
  have h5 := cmpI_neg a.2.1 b.2.1
  by_cases e1 : cmpI b.2.2 a.2.2 = 0
  · rw [if_neg (by simpa using e1)]
    by_cases e2 : cmpI a.1 b.1 = 0
    · rw [if_neg (by simpa using e2), h5]
      rw [h2] at e1; rw [h4] at e2
      omega
    · rw [if_pos e2, h3]
      rw [h2] at e1; rw [h4] at e2
      omega
  · rw [if_pos e1, h1]
    rw [h2] at e1
    omega
theorem svLt_total {a b : Sv} (h1 : ¬ svLt a b) (h2 : ¬ svLt b a) : a = b := by
  unfold svLt at *
  obtain ⟨a1, a2, a3⟩ := a
  obtain ⟨b1, b2, b3⟩ := b
  simp only at *
  have e3 : a3 = b3 := by omega
  have e1 : a1 = b1 := by omega
  have e2 : a2 = b2 := by omega
  rw [e1, e2, e3]

theorem ltOf_sv (a b : Sv) : ltOf svCf a b = decide (svLt a b) := by
  unfold ltOf
  by_cases h : svLt a b
  · rw [decide_eq_true ((svCf_neg a b).2 h), decide_eq_true h]
  · rw [decide_eq_false (fun g => h ((svCf_neg a b).1 g)), decide_eq_false h]
theorem swo_sv : SWO (ltOf svCf) where
  irrefl x := by rw [ltOf_sv]; simp [svLt]
  trans x y z h1 h2 := by
    rw [ltOf_sv] at *
    simp only [decide_eq_true_eq] at *
    unfold svLt at *
    omega
  ntrans x y z h1 h2 := by
    rw [ltOf_sv] at *
    simp only [decide_eq_false_iff_not] at *
    unfold svLt at *
    omega

theorem isAggSv (w : World) : (isAgg 50).run Tryz.prog w = .ok true w := by kernel_rfl
theorem sizeOfSv (w : World) : (Go.sizeOf 50).run Tryz.prog w = .ok 3 w := by kernel_rfl

theorem grownBy_sortWorld {α : Type} [Inhabited α] (enc : α → Value) (w : World) (g : Nat) (d : Array α) (n : Nat) (os : Array Obj) : w.grownBy (sortWorld enc w g 0 n d os) (some g) where
  os := rfl
  tape := rfl
  output := rfl
  size := by simp [sortWorld, putRow, mapBlock, Sort.ahead]
  block := by
    intro k hk hne
    have hne' : k ≠ g := fun e => hne (by rw [e])
    have hlt : k < (putRow enc (Sort.ahead w n) g 0 d).heap.size := by simpa [putRow, mapBlock, Sort.ahead] using hk
    unfold sortWorld
    rw [heap_grow_old _ _ hlt]
    simp only [putRow, mapBlock, Array.getElem?_modify]
    rw [if_neg (by omega)]
    rfl
theorem below_sortWorld {α : Type} [Inhabited α] (enc : α → Value) (w : World) (g B : Nat) (d : Array α) (n : Nat) (os : Array Obj) (hg : B ≤ g) (hB : B ≤ w.heap.size) : RowKit.Below B w (sortWorld enc w g 0 n d os) :=
  (RowKit.Below.refl B w).grown (grownBy_sortWorld enc w g d n os) hB fun k hk => by cases hk; exact hg

/-- What an owned row is, at one element at least. -/
theorem Own.block {w : World} {B s n c : Nat} {e : TypeId} {A : Option Addr} {xs : List Value} (h : Own w B e s A n c xs) (hn : 0 < n) :
    ∃ g cur, A = some ⟨g, 0, none⟩ ∧ B ≤ g ∧ Blk w g e cur ∧ n ≤ c ∧ cur.size = c * s ∧ ∀ (j : Nat) (u : Value), xs[j]? = some u → cur[j]? = some u := by
  rcases h.2 with ⟨_, h0⟩ | ⟨g, cap, cur, h1, h2, h3, h4, _, h6, h7⟩
  · omega
  · cases h1
    refine ⟨g, cur, rfl, h2, h3, h4, h6, fun j u hu => ?_⟩
    rw [← h7, List.getElem?_take] at hu
    split at hu
    · simpa using hu
    · cases hu

theorem sortSv (A : Option Addr) (n c B : Nat) (L : List Sv) (w : World) (hO : Own w B 50 3 A n c (scells L)) (hN : L.Nodup) (hB : B ≤ w.heap.size) (hbig : n < 4611686018427387904) :
    Calls Tryz.prog 35 #[.slice A n c, .func (.func 36) #[] #[]] w fun e w' =>
      e = .returned (.tuple #[]) ∧ (∃ L' : List Sv, L'.Perm L ∧ L'.Pairwise svLt ∧ RdS w' A n L') ∧ RowKit.Below B w w' := by
  have hlen : L.length = n := by
    have := hO.1
    rw [scells_len] at this
    omega
  rcases Nat.eq_zero_or_pos n with h0 | h0
  · subst h0
    have hL : L = [] := List.eq_nil_of_length_eq_zero hlen
    subst hL
    have hcon := AnyF.slices_SortFunc_none { Tryz.sortSv with } A c (.func (.func 36) #[] #[]) w
    refine Calls.mono (show Calls Tryz.prog 35 _ _ _ from hcon) ?_
    rintro e w' ⟨rfl, rfl⟩
    exact ⟨rfl, ⟨[], List.Perm.refl _, List.Pairwise.nil, rfl, fun i x hx => by simp at hx⟩, RowKit.Below.refl _ _⟩
  · obtain ⟨g, cur, rfl, hg, hblk, hnc, hsz, hcur⟩ := hO.block h0
    have eg : ∀ args w, (callFunc 36 args).run Tryz.prog w = .ok (.enter 36 args) w := enters_of Tryz.func36 (by kernel_rfl) rfl
    have hds : L.toArray.size = n := by simpa using hlen
    have hget : ∀ i (hi : i < n), L.toArray[i]! = L[i] := fun i hi => by
      rw [getElem!_pos L.toArray i (by omega)]
      simp
    have hH : HoldsK svCells 3 w g 0 L.toArray := fun j hj => by
      have hj' : j < n * 3 := by rw [size_flatK, hds] at hj; exact hj
      rw [Nat.zero_add]
      refine ⟨?_, hblk.frozen j⟩
      rw [hblk.cell, get_flatK _ _ _ _ (by rw [hds]; exact hj'), hget (j / 3) (by omega)]
      obtain ⟨c1, c2, c3⟩ := scells_get (l := L) (i := j / 3) (p := L[j / 3]) (List.getElem?_eq_getElem (by omega))
      generalize L[j / 3] = p at *
      rcases (show j % 3 = 0 ∨ j % 3 = 1 ∨ j % 3 = 2 by omega) with e | e | e
      · have := hcur _ _ c1
        rw [show j / 3 * 3 = j by omega] at this
        rw [this, e]; rfl
      · have := hcur _ _ c2
        rw [show j / 3 * 3 + 1 = j by omega] at this
        rw [this, e]; rfl
      · have := hcur _ _ c3
        rw [show j / 3 * 3 + 2 = j by omega] at this
        rw [this, e]; rfl
    have hC : CmpLays Tryz.prog 36 #[] svCells 3 svCf g 0 L.toArray.size w := fun m os dk hs x y => by
      have := list1_any x y (sortWorldK svCells 3 w g 0 m dk os)
      simpa using this
    have hcon := AnyQ.slices_SortFunc Tryz.sortSv 3 isAggSv sizeOfSv svCells (fun _ => rfl) (fun x v hv => by simp [svCells] at hv; rcases hv with rfl | rfl | rfl <;> rfl) svCf swo_sv 36 #[] g 0 c L.toArray w eg hC hH hblk.lt (by omega)
    rw [hds] at hcon
    refine Calls.mono (show Calls Tryz.prog 35 _ _ _ from hcon) ?_
    rintro e w' ⟨rfl, d', q, os, hp, hsd, rfl⟩
    have hd' : d'.size = n := by rw [hp.1, hds]
    have hperm : d'.toList.Perm L := by
      have h3 := hp.2.2
      rw [show d'.extract 0 n = d' by rw [← hd']; simp, show L.toArray.extract 0 n = L.toArray by rw [← hds]; simp] at h3
      simpa using h3
    have hnd : d'.toList.Nodup := hperm.nodup_iff.2 hN
    refine ⟨rfl, ⟨d'.toList, hperm, ?_, ?_⟩, below_sortWorld id w g B (flatK svCells 3 d') q os hg hB⟩
    · rw [List.pairwise_iff_getElem]
      intro i j hi hj hij
      have hi' : i < n := by simpa [hd'] using hi
      have hj' : j < n := by simpa [hd'] using hj
      have h4 := hsd i j (Nat.zero_le _) hij hj'
      rw [ltOf_sv, getElem!_pos d' j (by omega), getElem!_pos d' i (by omega)] at h4
      simp only [decide_eq_false_iff_not] at h4
      simp only [Array.getElem_toList]
      refine Classical.byContradiction fun hn => ?_
      have he := svLt_total hn h4
      exact (List.pairwise_iff_getElem.1 hnd i j hi hj hij) (by simpa using he)
    · have hH' := holdsK_sortWorldK_c svCells 3 w g 0 L.toArray d' q os hH hblk.lt (by rw [hd', hds])
      refine ⟨by simpa using hd', fun i x hx => ?_⟩
      have hi : i < d'.size := by have := (List.getElem?_eq_some_iff.1 hx).1; simpa using this
      have hx2 : d'[i]! = x := by
        rw [getElem!_pos d' i hi]
        have := (List.getElem?_eq_some_iff.1 hx).2
        simpa using this
      have h1 := (HoldsK.cell hH' hi (show 0 < 3 by omega)).1
      have h2 := (HoldsK.cell hH' hi (show 1 < 3 by omega)).1
      have h3 := (HoldsK.cell hH' hi (show 2 < 3 by omega)).1
      rw [hx2] at h1 h2 h3
      exact ⟨g, 0, rfl, h1, h2, h3⟩
end Go.Proofs.YtjphjbchhhembaaGreatDoor
