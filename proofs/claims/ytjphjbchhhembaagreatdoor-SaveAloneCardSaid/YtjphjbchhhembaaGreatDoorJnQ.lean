/- What save.Join's second loop asks for: a round's place among the routes, a round of two. -/
import Derived.Test.YtjphjbchhhembaaGreatDoorJnP
namespace Go.Proofs.YtjphjbchhhembaaGreatDoor
open Go.RowKit

attribute [local go_sem ↓] Go.wp_at_zero Go.wp_at_succ

theorem fold_next {α β : Type} (F : β → α → β) (z : β) {L : List α} {q : Nat} {s : α} (h : L[q]? = some s) : (L.take (q + 1)).foldl F z = F ((L.take q).foldl F z) s := by
  have hlt := (List.getElem?_eq_some_iff.1 h).1
  have e := (List.getElem?_eq_some_iff.1 h).2
  rw [List.take_succ_eq_append_getElem hlt, e, List.foldl_append]
  rfl
theorem joinStep_skip {cap lim : Int} {ls : List (List Int)} {st : List (Int × Int)} {rs : List (List Int)} {s : Sv} (h : firstOf rs s.1 < 0 ∨ thenOf rs s.2.1 < 0 ∨ firstOf rs s.1 = thenOf rs s.2.1) : joinStep cap lim ls st rs s = rs := by
  unfold joinStep
  exact if_pos h
theorem joinStep_go {cap lim : Int} {ls : List (List Int)} {st : List (Int × Int)} {rs : List (List Int)} {s : Sv} {f t : Nat} (hf : firstOf rs s.1 = f) (ht : thenOf rs s.2.1 = t) (hne : f ≠ t) :
    joinStep cap lim ls st rs s = if goesB cap lim ls st (rs.getD f [] ++ rs.getD t []) then (rs.set f (rs.getD f [] ++ rs.getD t [])).eraseIdx t else rs := by
  unfold joinStep
  rw [hf, ht]
  simp only [Int.toNat_natCast]
  rw [if_neg (by omega)]
theorem firstOf_cases (rs : List (List Int)) (I : Int) : firstOf rs I < 0 ∨ ∃ f : Nat, f < rs.length ∧ firstOf rs I = f := by
  rcases idxP_range rs.length (fun i => lastI (rs.getD i []) == I) with h | ⟨f, h1, h2, _⟩
  · left; unfold firstOf; rw [h]; omega
  · exact Or.inr ⟨f, h1, h2⟩
theorem thenOf_cases (rs : List (List Int)) (I : Int) : thenOf rs I < 0 ∨ ∃ f : Nat, f < rs.length ∧ thenOf rs I = f := by
  rcases idxP_range rs.length (fun i => headI (rs.getD i []) == I) with h | ⟨f, h1, h2, _⟩
  · left; unfold thenOf; rw [h]; omega
  · exact Or.inr ⟨f, h1, h2⟩
theorem Rts.row {W : World} {g N i : Nat} {rs : List (List Int)} (h : Rts W g N rs) (hi : i < rs.length) : ∃ A n c, W.cell? ⟨g, i, none⟩ = some (.slice A n c) ∧ W.frozen? ⟨g, i, none⟩ = false ∧ RdI W A n (rs.getD i []) ∧ blkOf A ≠ some g ∧ n ≤ c ∧ c ≤ 9223372036854775807 := by
  obtain ⟨h0, cs, h1, h2, hr⟩ := h
  obtain ⟨A, n, c, g1, g2, g3, g4, g5⟩ := hr i _ (List.getElem?_eq_getElem hi)
  refine ⟨A, n, c, by rw [h1.cell]; exact g1, h1.frozen i, ?_, g3, g4, g5⟩
  rw [getD_eq hi]
  exact g2
/-- Rounds part the stops: each has one at least, none more than there are. -/
theorem Parts.bd {k i : Nat} {rs : List (List Int)} (h : Parts k rs) (hi : i < rs.length) : 0 < (rs.getD i []).length ∧ (rs.getD i []).length ≤ k := by
  rw [getD_eq hi]
  have h1 := h.1 _ (List.getElem_mem hi)
  have h2 : rs[i].Sublist rs.flatten := List.sublist_flatten_of_mem (List.getElem_mem hi)
  have h3 := h2.length_le
  rw [h.2.length_eq] at h3
  simp only [stopsTo, List.length_map, List.length_range] at h3
  exact ⟨List.length_pos_iff.2 h1, h3⟩

theorem Parts.ne {k : Nat} {rs : List (List Int)} (h : Parts k rs) : ∀ r ∈ rs, r ≠ [] := h.1
theorem Parts.heads {k : Nat} {rs : List (List Int)} (h : Parts k rs) : rs.Pairwise (fun a b => headI a ≠ headI b) := by
  have hn : rs.flatten.Nodup := (h.2.nodup_iff).2 (by
    unfold stopsTo
    rw [List.nodup_iff_pairwise_ne, List.pairwise_map]
    exact (List.nodup_iff_pairwise_ne.1 List.nodup_range).imp (fun h e => h (by omega)))
  rw [List.nodup_iff_pairwise_ne, List.pairwise_flatten] at hn
  have head_mem : ∀ r ∈ rs, headI r ∈ r := fun r hr => by
    cases r with
    | nil => exact absurd rfl (h.1 _ hr)
    | cons x t => simp [headI]
  refine hn.2.imp_of_mem ?_
  intro a b ha hb hab
  exact hab _ (head_mem a ha) _ (head_mem b hb)
/-- slices.IndexFunc by the last stop. -/
theorem first_any (g N c bx k : Nat) (I : Int) (rs : List (List Int)) (W : World) (h : Rts W g N rs) (hp : Parts k rs) (hk : k ≤ 1000) (hN : N ≤ 1000000000) (hb : W.cell? ⟨bx, 0, none⟩ = some (.int .i64 I)) :
    Calls Tryz.prog 21 #[.slice (some ⟨g, 0, none⟩) rs.length c, .func (.func 22) #[] #[.pointer (some ⟨bx, 0, none⟩)]] W fun e w' => e = .returned (.int .i64 (firstOf rs I)) ∧ Below W.heap.size W w' := by
  have h0 := h.1
  refine indexFunc_any (some ⟨g, 0, none⟩) rs.length c 22 #[.pointer (some ⟨bx, 0, none⟩)] (fun i => lastI (rs.getD i []) == I) W (enters_of Tryz.func22 (by kernel_rfl) rfl) (by omega) (fun i hi => ?_)
  obtain ⟨A, n, c', g1, _, g3, _⟩ := h.row hi
  have hbd := hp.bd hi
  have hl := g3.1
  refine ⟨g, 0, .slice A n c', rfl, by rw [Nat.zero_add]; exact g1, fun V hV => ?_⟩
  exact join1_any A n c' bx (rs.getD i []) I V (g3.below hV) (by omega) (by omega) (Below.cellOf hV (Nat.le_refl _) hb)
/-- slices.IndexFunc by the first stop. -/
theorem then_any (g N c bx k : Nat) (J : Int) (rs : List (List Int)) (W : World) (h : Rts W g N rs) (hp : Parts k rs) (_hk : k ≤ 1000) (hN : N ≤ 1000000000) (hb : W.cell? ⟨bx, 1, none⟩ = some (.int .i64 J)) :
    Calls Tryz.prog 21 #[.slice (some ⟨g, 0, none⟩) rs.length c, .func (.func 23) #[] #[.pointer (some ⟨bx, 0, none⟩)]] W fun e w' => e = .returned (.int .i64 (thenOf rs J)) ∧ Below W.heap.size W w' := by
  have h0 := h.1
  refine indexFunc_any (some ⟨g, 0, none⟩) rs.length c 23 #[.pointer (some ⟨bx, 0, none⟩)] (fun i => headI (rs.getD i []) == J) W (enters_of Tryz.func23 (by kernel_rfl) rfl) (by omega) (fun i hi => ?_)
  obtain ⟨A, n, c', g1, _, g3, _⟩ := h.row hi
  have hbd := hp.bd hi
  have hl := g3.1
  refine ⟨g, 0, .slice A n c', rfl, by rw [Nat.zero_add]; exact g1, fun V hV => ?_⟩
  exact join2_any A n c' bx (rs.getD i []) J V (g3.below hV) (by omega) (Below.cellOf hV (Nat.le_refl _) hb)

/-- slices.Concat of two rows. -/
theorem concat2_any (A1 A2 : Option Addr) (n1 c1 n2 c2 g c : Nat) (l1 l2 : List Int) (w : World) (hB : Blk w g 38 #[.slice A1 n1 c1, .slice A2 n2 c2]) (h1 : RdI w A1 n1 l1) (h2 : RdI w A2 n2 l2) (b1 : n1 ≤ c1) (b2 : n2 ≤ c2) (m1 : c1 ≤ 9223372036854775807) (m2 : c2 ≤ 9223372036854775807) (h0 : 0 < n1) (hb : n1 + n2 ≤ 1000000000) :
    Calls Tryz.prog 24 #[.slice (some ⟨g, 0, none⟩) 2 c] w fun e w' => ∃ A' m c', e = .returned (.slice A' m c') ∧ m ≤ 1000000000 ∧ RdI w' A' m (l1 ++ l2) ∧ m ≤ c' ∧ c' ≤ 9223372036854775807 ∧ (∀ g, g < w.heap.size → blkOf A' ≠ some g) ∧ Below w.heap.size w w' := by
  have hR : RdT w (some ⟨g, 0, none⟩) 2 [l1, l2] := ⟨rfl, fun i l hl => by
    match i, hl with
    | 0, hl => cases hl; exact ⟨g, 0, A1, n1, c1, rfl, by rw [hB.cell]; rfl, h1, b1, m1⟩
    | 1, hl => cases hl; exact ⟨g, 0, A2, n2, c2, rfl, by rw [hB.cell]; rfl, h2, b2, m2⟩
    | i + 2, hl => simp at hl⟩
  have e : [l1, l2].flatten = l1 ++ l2 := by simp
  have l1' := h1.1
  have l2' := h2.1
  have hc := concat_any (some ⟨g, 0, none⟩) 2 c [l1, l2] w hR (by omega) (by rw [e, List.length_append]; omega) (by rw [e, List.length_append]; omega)
  refine hc.mono ?_
  rintro e' w' ⟨A', c', rfl, g1, g2, g3, g4, g5⟩
  rw [e] at g1
  refine ⟨A', _, c', rfl, by rw [e, List.length_append]; omega, ?_, g2, g3, g4, g5⟩
  rw [e]
  exact g1
end Go.Proofs.YtjphjbchhhembaaGreatDoor
