/- Parts: what cells that may be are; plain. -/
import Derived.Test.YtgkeolddpielpaaGreatNv
namespace Go.Proofs.YtgkeolddpielpaaGreat
open Go.RowKit

theorem snoc_ind {P : List Int → Prop} (h0 : P []) (hs : ∀ l x, P l → P (l ++ [x])) (l : List Int) : P l := by
  have h : ∀ l : List Int, P l.reverse := by
    intro l
    induction l with
    | nil => exact h0
    | cons x l ih => rw [List.reverse_cons]; exact hs _ _ ih
  have := h l.reverse
  rwa [List.reverse_reverse] at this
/-- One more than the greatest number of a row. -/
def mostN (l : List Int) : Int := l.foldl (fun n x => max n (x + 1)) 0
theorem mostN_app (l : List Int) (x : Int) : mostN (l ++ [x]) = max (mostN l) (x + 1) := by simp [mostN]
theorem mostN_nonneg : ∀ l : List Int, 0 ≤ mostN l := by
  refine snoc_ind (by simp [mostN]) (fun l x ih => by rw [mostN_app]; omega)
theorem lt_mostN {l : List Int} {x : Int} : x ∈ l → x < mostN l := by
  revert x
  refine snoc_ind (P := fun l => ∀ {x : Int}, x ∈ l → x < mostN l) (fun h => by cases h) (fun l y ih => ?_) l
  · intro x h
    rw [mostN_app]
    rcases List.mem_append.1 h with h | h
    · have := ih h; omega
    · rw [List.mem_singleton.1 h]; omega
theorem mostN_mem {l : List Int} : 0 < mostN l → ∃ x ∈ l, mostN l = x + 1 := by
  refine snoc_ind (P := fun l => 0 < mostN l → ∃ x ∈ l, mostN l = x + 1) (fun h => by simp [mostN] at h) (fun l y ih => ?_) l
  · intro h
    rw [mostN_app] at h ⊢
    by_cases h1 : mostN l ≤ y + 1
    · exact ⟨y, by simp, by omega⟩
    · have h0 := mostN_nonneg l
      obtain ⟨x, hx, e⟩ := ih (by omega)
      exact ⟨x, List.mem_append_left _ hx, by omega⟩
theorem mostN_le {l : List Int} {n : Int} (h : ∀ x ∈ l, x < n) (hn : 0 ≤ n) : mostN l ≤ n := by
  by_cases h0 : 0 < mostN l
  · obtain ⟨x, hx, e⟩ := mostN_mem h0
    have := h x hx
    omega
  · omega
/-- A level's numbers: of each vertex one, none is left out. -/
structure LvlOk (n : Nat) (l : List Int) : Prop where
  len : l.length = n
  lo : ∀ x ∈ l, 0 ≤ x
  hi : ∀ x ∈ l, x < n
  all : ∀ c : Nat, (c : Int) < mostN l → (c : Int) ∈ l
/-- The cells of a level stand in those of the next one, and in their order. -/
def NestOk (p l : List Int) : Prop := ∀ (a b : Nat) (x y u v : Int), p[a]? = some x → p[b]? = some y → l[a]? = some u → l[b]? = some v → x ≤ y → u ≤ v
/-- Cells that may be. -/
structure PartOk (n : Nat) (ls : List (List Int)) : Prop where
  l1 : 1 ≤ ls.length
  l6 : ls.length ≤ 6
  lvl : ∀ l ∈ ls, LvlOk n l
  nest : ∀ (i : Nat) p l, ls[i]? = some p → ls[i + 1]? = some l → NestOk p l
/-- What is wrong with a level, as an Errno: 0 none. -/
noncomputable def lvlCode (n : Nat) (p : Option (List Int)) (l : List Int) : Int := by
  classical exact if l.length ≠ n then 1 else if LvlOk n l ∧ ∀ q, p = some q → NestOk q l then 0 else 10
end Go.Proofs.YtgkeolddpielpaaGreat
