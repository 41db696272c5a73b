/- Routes: rows that lie in a block of the call's own; slices.Delete, slices.SortFunc, slices.Clone over them. -/
import Derived.Test.YtjphjbchhhembaaGreatDoorJn2
namespace Go.Proofs.YtjphjbchhhembaaGreatDoor
open Go.RowKit Go.Shelf Go.Lib Go.Sort

theorem blk_put {α : Type} [Inhabited α] (enc : α → Value) (w : World) (g t : Nat) (c : Array Value) (d : Array α) (n : Nat) (os : Array Obj) (h : Blk w g t c) :
    ∃ c', Blk (sortWorld enc w g 0 n d os) g t c' ∧ c'.size = c.size ∧ ∀ k, k < c.size → c'[k]? = if k < d.size then some (enc d[k]!) else c[k]? := by
  have hlt : g < (putRow enc (Sort.ahead w n) g 0 d).heap.size := by
    have := h.lt
    simpa [putRow, mapBlock, Sort.ahead] using this
  have hb : (Sort.ahead w n).heap[g]? = some (.cells c t (0, 0)) := h
  refine ⟨putCells enc 0 d c, ?_, by simp [putCells], fun k hk => ?_⟩
  · unfold Blk sortWorld
    rw [heap_grow_old _ _ hlt]
    simp only [putRow, mapBlock, Array.getElem?_modify, hb, if_true, Option.map_some, onCells]
  · simp only [putCells, Array.getElem?_mapIdx, Array.getElem?_eq_getElem hk, Option.map_some]
    by_cases h1 : k < d.size
    · rw [if_pos ⟨by omega, by omega⟩, if_pos h1, Nat.sub_zero]
    · rw [if_neg (by omega), if_neg h1]

theorem RdK.grown {k : IntKind} {w w' : World} {A : Option Addr} {n g : Nat} {l : List Int} (h : RdK k w A n l) (hg : w.grownBy w' (some g)) (hne : blkOf A ≠ some g) : RdK k w' A n l :=
  ⟨h.1, fun i x hx => by
    obtain ⟨b, o, e, hc⟩ := h.2 i x hx
    subst e
    refine ⟨b, o, rfl, ?_⟩
    have hb := lt_of_cell hc
    have hbne : (some b : Option Nat) ≠ some g := hne
    have := hg.block b hb (fun e => hbne e)
    unfold World.cell? at hc ⊢
    rw [this]
    exact hc⟩

/-- Routes: the first cells of block g, whose rows lie elsewhere. -/
def Rts (W : World) (g N : Nat) (rs : List (List Int)) : Prop :=
  rs.length ≤ N ∧ ∃ cs, Blk W g 38 cs ∧ cs.size = N ∧ ∀ (j : Nat) (l : List Int), rs[j]? = some l → ∃ A n c, cs[j]? = some (.slice A n c) ∧ RdI W A n l ∧ blkOf A ≠ some g ∧ n ≤ c ∧ c ≤ 9223372036854775807
theorem Rts.rdT {W : World} {g N : Nat} {rs : List (List Int)} (h : Rts W g N rs) : RdT W (some ⟨g, 0, none⟩) rs.length rs := by
  obtain ⟨_, cs, hb, _, hr⟩ := h
  refine ⟨rfl, fun i l hl => ?_⟩
  obtain ⟨A, n, c, h1, h2, _, h4, h5⟩ := hr i l hl
  exact ⟨g, 0, A, n, c, rfl, by rw [Nat.zero_add, hb.cell]; exact h1, h2, h4, h5⟩
theorem Rts.below {W W' : World} {g N : Nat} {rs : List (List Int)} (h : Rts W g N rs) (hb : RowKit.Below W.heap.size W W') : Rts W' g N rs := by
  obtain ⟨h0, cs, h1, h2, hr⟩ := h
  refine ⟨h0, cs, h1.below hb h1.lt, h2, fun j l hl => ?_⟩
  obtain ⟨A, n, c, g1, g2, g3, g4, g5⟩ := hr j l hl
  exact ⟨A, n, c, g1, g2.below hb, g3, g4, g5⟩
theorem Rts.lt {W : World} {g N : Nat} {rs : List (List Int)} (h : Rts W g N rs) : g < W.heap.size := by
  obtain ⟨_, cs, h1, _⟩ := h
  exact h1.lt
theorem grownBy_set (W : World) (g i : Nat) (v : Value) : W.grownBy (W.setCell ⟨g, i, none⟩ v) (some g) where
  os := rfl
  tape := rfl
  output := rfl
  size := by simp [World.setCell]
  block := fun k hk hne => Below.heap_setCell W ⟨g, i, none⟩ v k (fun e => hne (by rw [e]))
theorem Rts.set {W : World} {g N i : Nat} {rs : List (List Int)} {l : List Int} {A : Option Addr} {n c : Nat} (h : Rts W g N rs) (hi : i < rs.length) (hA : RdI W A n l) (hne : blkOf A ≠ some g) (h4 : n ≤ c) (h5 : c ≤ 9223372036854775807) :
    Rts (W.setCell ⟨g, i, none⟩ (.slice A n c)) g N (rs.set i l) := by
  obtain ⟨h0, cs, h1, h2, hr⟩ := h
  have hgb := grownBy_set W g i (.slice A n c)
  refine ⟨by rw [List.length_set]; exact h0, _, h1.set_ i (.slice A n c), by simpa using h2, fun j l' hl => ?_⟩
  by_cases e : i = j
  · subst e
    rw [List.getElem?_set_self hi] at hl
    cases hl
    exact ⟨A, n, c, by rw [Array.getElem?_setIfInBounds_self_of_lt (by omega)], hA.grown hgb hne, hne, h4, h5⟩
  · rw [List.getElem?_set_ne e] at hl
    obtain ⟨A', n', c', g1, g2, g3, g4, g5⟩ := hr j l' hl
    exact ⟨A', n', c', by rw [Array.getElem?_setIfInBounds_ne e]; exact g1, g2.grown hgb g3, g3, g4, g5⟩

instance inhV1 : Inhabited {v : Value // v.oneCell' = true} := ⟨⟨.int .i64 0, rfl⟩⟩
theorem infoRow : ∃ i, Tryz.prog.info? 38 = some i ∧ i.size = 1 := by
  have h : (Tryz.prog.info? 38).map (·.size) = some 1 := by kernel_rfl
  obtain ⟨i, h1, h2⟩ := Option.map_eq_some_iff.1 h
  exact ⟨i, h1, h2⟩

theorem list_of1 {α : Type} {p : Nat → α → Prop} : ∀ (n : Nat), (∀ i, i < n → ∃ a, p i a) → ∃ l : List α, l.length = n ∧ ∀ (i : Nat) a, l[i]? = some a → p i a
  | 0, _ => ⟨[], rfl, fun i a h => by simp at h⟩
  | n + 1, h => by
    obtain ⟨l, hl, hp⟩ := list_of1 n (fun i hi => h i (by omega))
    obtain ⟨a, ha⟩ := h n (by omega)
    refine ⟨l ++ [a], by simp [hl], fun i b hb => ?_⟩
    rcases Nat.lt_or_ge i n with h1 | h1
    · rw [List.getElem?_append_left (by omega)] at hb; exact hp i b hb
    · rw [List.getElem?_append_right (by omega), hl] at hb
      have : i = n := by
        rcases Nat.lt_or_ge (i - n) 1 with h2 | h2
        · omega
        · rw [List.getElem?_eq_none (by simpa using h2)] at hb; cases hb
      subst this
      simp at hb
      subst hb
      exact ha
theorem zeroRow (w : World) : (zeroValue 38).run Tryz.prog w = .ok (.slice none 0 0) w := by kernel_rfl

/-- The rows of a block, as values of one cell. -/
theorem Rts.vals {w : World} {g N : Nat} {rs : List (List Int)} (h : Rts w g N rs) : ∃ (cs : Array Value) (dl : List {v : Value // v.oneCell' = true}), Blk w g 38 cs ∧ cs.size = N ∧ dl.length = rs.length ∧ (∀ (j : Nat) v, dl[j]? = some v → cs[j]? = some v.val) ∧
    ∀ (j : Nat) (l : List Int) v, rs[j]? = some l → dl[j]? = some v → ∃ A n c, v.val = .slice A n c ∧ RdI w A n l ∧ blkOf A ≠ some g ∧ n ≤ c ∧ c ≤ 9223372036854775807 := by
  obtain ⟨h0, cs, h1, h2, hr⟩ := h
  obtain ⟨dl, hdl, hdp⟩ := list_of1 (p := fun j (v : {v : Value // v.oneCell' = true}) => cs[j]? = some v.val) rs.length (fun j hj => by
    obtain ⟨A, n, c, g1, _⟩ := hr j _ (List.getElem?_eq_getElem hj)
    exact ⟨⟨.slice A n c, rfl⟩, g1⟩)
  refine ⟨cs, dl, h1, h2, hdl, hdp, fun j l v hl hv => ?_⟩
  obtain ⟨A, n, c, g1, g2, g3, g4, g5⟩ := hr j l hl
  have := hdp j v hv
  rw [g1] at this
  exact ⟨A, n, c, (Option.some.inj this).symm, g2, g3, g4, g5⟩

/-- What is behind a row that is laid anew. -/
theorem Rts.put {α : Type} [Inhabited α] (enc : α → Value) {w : World} {g N : Nat} {rs' : List (List Int)} {cs : Array Value} {d : List α} (hb : Blk w g 38 cs) (hs : cs.size = N) (hN : d.length ≤ N) (hle : rs'.length ≤ d.length) (q : Nat) (os : Array Obj)
    (hd : ∀ (j : Nat) (l : List Int), rs'[j]? = some l → ∃ v A n c, d[j]? = some v ∧ enc v = .slice A n c ∧ RdI w A n l ∧ blkOf A ≠ some g ∧ n ≤ c ∧ c ≤ 9223372036854775807) :
    Rts (sortWorld enc w g 0 q d.toArray os) g N rs' := by
  obtain ⟨c', h1, h2, h3⟩ := blk_put enc w g 38 cs d.toArray q os hb
  refine ⟨by omega, c', h1, by omega, fun j l hl => ?_⟩
  have hj := (List.getElem?_eq_some_iff.1 hl).1
  obtain ⟨v, A, n, c, g0, g1, g2, g3, g4, g5⟩ := hd j l hl
  refine ⟨A, n, c, ?_, g2.grown (grownBy_sortWorld _ w g _ q os) g3, g3, g4, g5⟩
  rw [h3 j (by omega), if_pos (by simpa using (show j < d.length by omega)), getElem!_pos d.toArray j (by simpa using (show j < d.length by omega))]
  have := (List.getElem?_eq_some_iff.1 g0).2
  simp only [List.getElem_toArray, this, g1]

/-- slices.Delete of one route. -/
theorem delete_any (g N B i : Nat) (rs : List (List Int)) (w : World) (h : Rts w g N rs) (hi : i < rs.length) (hN : N ≤ 1000000000) (hB : B ≤ g) :
    Calls Tryz.prog 26 #[.slice (some ⟨g, 0, none⟩) rs.length N, .int .i64 i, .int .i64 ((i : Int) + 1)] w fun e w' => e = .returned (.slice (some ⟨g, 0, none⟩) (rs.length - 1) N) ∧ Rts w' g N (rs.eraseIdx i) ∧ w.grownBy w' (some g) ∧ RowKit.Below B w w' := by
  have h0 := h.1
  have hlt := h.lt
  obtain ⟨cs, dl, hb, hs, hdl, hdc, hdv⟩ := h.vals
  obtain ⟨i0, hi0, hz1⟩ := infoRow
  have hH : Holds (fun v : {v : Value // v.oneCell' = true} => v.val) w g 0 dl.toArray := fun j hj => by
    have hj' : j < dl.length := by simpa using hj
    rw [Nat.zero_add, hb.cell, getElem!_pos dl.toArray j hj]
    exact ⟨by simpa using hdc j _ (List.getElem?_eq_getElem hj'), hb.frozen j⟩
  have hcon := AnyE.slices_Delete Tryz.delRow (fun v : {v : Value // v.oneCell' = true} => v.val) (fun v => v.property) ⟨.slice none 0 0, rfl⟩ zeroRow i0 hi0 hz1 g 0 N i (i + 1) dl.toArray w hH (by simp; omega) (by omega) (by omega) (by simp; omega)
  rw [show dl.toArray.size = rs.length by simpa using hdl] at hcon
  refine Calls.mono (show Calls Tryz.prog 26 _ _ _ from hcon) ?_
  rintro e w' ⟨rfl, q, rfl⟩
  have hw : putRow (fun v : {v : Value // v.oneCell' = true} => v.val) (Sort.ahead w q) g 0 (dl.toArray.toList.take i ++ dl.toArray.toList.drop (i + 1) ++ List.replicate (i + 1 - i) (⟨.slice none 0 0, rfl⟩ : {v : Value // v.oneCell' = true})).toArray = sortWorld (fun v : {v : Value // v.oneCell' = true} => v.val) w g 0 q (dl.eraseIdx i ++ [(⟨.slice none 0 0, rfl⟩ : {v : Value // v.oneCell' = true})]).toArray #[] := by
    unfold sortWorld
    rw [grow_empty, show i + 1 - i = 1 by omega]
    simp [List.eraseIdx_eq_take_drop_succ]
  rw [hw]
  have hle : (rs.eraseIdx i).length = rs.length - 1 := by rw [List.length_eraseIdx, if_pos hi]
  have hle2 : (dl.eraseIdx i).length = rs.length - 1 := by rw [List.length_eraseIdx, if_pos (by omega), hdl]
  refine ⟨by rw [show i + 1 - i = 1 by omega], Rts.put _ hb hs (by simp [hle2]; omega) (by simp [hle, hle2]) q #[] (fun j l hl => ?_), grownBy_sortWorld _ w g _ q #[], below_sortWorld _ w g B _ q #[] hB (by omega)⟩
  have hj := (List.getElem?_eq_some_iff.1 hl).1
  rw [hle] at hj
  obtain ⟨j', hj', e1, e2⟩ : ∃ j', j' < rs.length ∧ rs[j']? = some l ∧ (dl.eraseIdx i)[j]? = dl[j']? := by
    rw [List.getElem?_eraseIdx] at hl
    rw [List.getElem?_eraseIdx]
    split at hl
    · rename_i hji
      exact ⟨j, by omega, hl, by rw [if_pos hji]⟩
    · rename_i hji
      exact ⟨j + 1, by omega, hl, by rw [if_neg hji]⟩
  have e3 : dl[j']? = some dl[j'] := List.getElem?_eq_getElem (by omega)
  obtain ⟨A, n, c, g1, g2, g3, g4, g5⟩ := hdv j' l _ e1 e3
  exact ⟨_, A, n, c, by rw [List.getElem?_append_left (by omega), e2, e3], g1, g2, g3, g4, g5⟩
end Go.Proofs.YtjphjbchhhembaaGreatDoor
