/- Operations of a drawn region that make memory, in any order; flow.Max. -/
import Derived.Test.YtjphjbchhhembaaDoorFlN
namespace Go.Proofs.YtjphjbchhhembaaDoor
open Go.RowKit

attribute [local go_sem ↓] Go.wp_at_zero Go.wp_at_succ

section
variable {P : Program} {ops : Array Oper} {Q : Exit → Act → World → Prop} {md : Region.Mode} {S : World → Prop}
/-- Whichever way the next operations come up, C holds behind them. -/
def wpC (P : Program) (md : Region.Mode) (ops : Array Oper) (Q : Exit → Act → World → Prop) (S : World → Prop) (L : Array Bool) (C : Act → World → Prop) : Nat → Array Bool → Act → World → Prop
  | 0, listed, a, w => listed = L ∧ C a w
  | n + 1, listed, a, w => Region.ready md ops listed ≠ [] ∧ ∀ i ∈ Region.ready md ops listed, wpOp P ops Q i (fun a' w' => S w' ∧ wpC P md ops Q S L C n (listed.setIfInBounds i true) a' w') a w
theorem wpC_run {L : Array Bool} {C : Act → World → Prop} {f0 : Nat} (h : ∀ a w, C a w → wpAnyH P md ops Q S f0 L a w) : ∀ (n : Nat) (listed : Array Bool) (a : Act) (w : World), wpC P md ops Q S L C n listed a w → wpAnyH P md ops Q S (f0 + n) listed a w
  | 0, _, _, _, ⟨e, hc⟩ => by subst e; exact h _ _ hc
  | n + 1, listed, a, w, ⟨hne, hall⟩ => wpAnyH_all (fuel := f0 + n) rfl hne (fun i hi => wpOp_mono (fun a' w' h' => ⟨h'.1, wpC_run h n _ a' w' h'.2⟩) (hall i hi))
def AllC (P : Program) (md : Region.Mode) (ops : Array Oper) (Q : Exit → Act → World → Prop) (S : World → Prop) (L : Array Bool) (C : Act → World → Prop) (n : Nat) (listed : Array Bool) (a : Act) (w : World) (rs : List Nat) : Prop :=
  ∀ i ∈ rs, wpOp P ops Q i (fun a' w' => S w' ∧ wpC P md ops Q S L C n (listed.setIfInBounds i true) a' w') a w
theorem AllC.nil {L : Array Bool} {C : Act → World → Prop} {n : Nat} {listed : Array Bool} {a : Act} {w : World} : AllC P md ops Q S L C n listed a w [] := fun _ h => by cases h
theorem AllC.cons {L : Array Bool} {C : Act → World → Prop} {n : Nat} {listed : Array Bool} {a : Act} {w : World} {i : Nat} {o : Oper} {rs : List Nat} (ho : ops[i]? = some o)
    (h : ∀ K' : Act → World → Prop, Shut (∀ a w, S w → (S w → wpC P md ops Q S L C n (listed.setIfInBounds i true) a w) → K' a w) → if Region.wanted o (yielded ops a.tmps) = true then Oper.wp P o a w K' Q else K' (a.put o.dst undef) w)
    (hs : AllC P md ops Q S L C n listed a w rs) : AllC P md ops Q S L C n listed a w (i :: rs) := fun j hj => by
  rcases List.mem_cons.1 hj with rfl | hj
  · exact wpOp_step ho (fun K' hK => h K' (fun a w hS hW => hK a w ⟨hS, hW hS⟩))
  · exact hs j hj
theorem wpC_ready {L : Array Bool} {C : Act → World → Prop} {rs : List Nat} {n : Nat} {listed : Array Bool} {a : Act} {w : World} (hr : Region.ready md ops listed = rs) (hne : rs ≠ []) (h : AllC P md ops Q S L C n listed a w rs) : wpC P md ops Q S L C (n + 1) listed a w :=
  ⟨hr ▸ hne, hr ▸ h⟩
/-- Three operations, in any order. -/
theorem wpAnyH_three {G : Value → Value → Value → World → Prop} {L listed : Array Bool} {f0 fuel : Nat} {a : Act} {w : World} (d1 d2 d3 : Option Tmp) (hf : fuel = f0 + 3)
    (hA : ∀ C : Act → World → Prop, Shut (∀ v1 v2 v3 w', G v1 v2 v3 w' → C (((a.put d1 v1).put d2 v2).put d3 v3) w') → wpC P md ops Q S L C 3 listed a w)
    (hB : ∀ v1 v2 v3 w', G v1 v2 v3 w' → wpAnyH P md ops Q S f0 L (((a.put d1 v1).put d2 v2).put d3 v3) w') : wpAnyH P md ops Q S fuel listed a w := by
  subst hf
  exact wpC_run (C := fun a' w' => wpAnyH P md ops Q S f0 L a' w') (fun _ _ h => h) 3 listed a w (hA _ hB)
end
theorem ghost_size (lo hi : Nat) (w : World) : (ghost lo hi w).heap.size = w.heap.size := by simp [ghost]
theorem ghost_free {lo hi k : Nat} {w : World} (h : (lo ≤ k ∧ k < hi) ∨ w.heap.size ≤ k) : Freew (ghost lo hi w) k := fun p e => by
  cases hc : (ghost lo hi w).cell? p with
  | none => rfl
  | some v =>
    exfalso
    have hlt := lt_of_cell hc
    rw [ghost_size] at hlt
    rcases h with h | h
    · have hb : (ghost lo hi w).heap[p.block]? = some (Obj.cells #[] 0) := by
        unfold ghost
        simp only [Array.getElem?_mapIdx]
        rw [Array.getElem?_eq_getElem hlt, Option.map_some, if_pos (by omega)]
      unfold World.cell? at hc
      rw [hb] at hc
      simp at hc
    · omega
theorem ghost_sub (lo hi : Nat) (w : World) : Subw (ghost lo hi w) w := fun p v e => by
  have hlt := lt_of_cell e
  rw [ghost_size] at hlt
  by_cases h : p.block < lo ∨ hi ≤ p.block
  · unfold World.cell? at e ⊢
    rw [ghost_block h] at e
    exact e
  · rw [ghost_free (.inl (by omega)) p rfl] at e; cases e
theorem sub_ghost {lo hi : Nat} {a b : World} (h : Below lo a b) (ha : a.heap.size ≤ lo) : Subw a (ghost lo hi b) := fun p v e => by
  have hlt := lt_of_cell e
  exact ghost_cell (Below.cellOf h ha e) (.inl (by omega))
theorem lkIn_of {n : Nat} {E : List Edg} (hE : Ends n E) (hm : E.length ≤ 1000000) : LkIn n E.length (lksTo n E E.length) ∧ LinksOf n E (lksTo n E E.length) := by
  have hL := (lksTo_ok hE E.length (Nat.le_refl _)).all
  refine ⟨fun a l hl => ⟨by have := lksTo_bd n E E.length a l hl; omega, fun k hk => ?_⟩, hL⟩
  obtain ⟨h1, h2, _, h4⟩ := hL.sound a l k hl hk
  refine ⟨h1, h2, ?_, ?_⟩
  · rcases h4 with ⟨_, h⟩ | ⟨_, h⟩ <;> exact (List.getElem?_eq_some_iff.1 h).1
  · rcases h4 with ⟨h, _⟩ | ⟨h, _⟩
    · exact .inl h
    · exact .inr h
end Go.Proofs.YtjphjbchhhembaaDoor
