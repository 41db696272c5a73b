/- Marks that are set one behind the other: plain. -/
import Derived.Test.YtjphjbchhhembaaDoorFl6
namespace Go.Proofs.YtjphjbchhhembaaDoor
open Go.RowKit

def setBs (b : List Bool) (l : List Nat) : List Bool := l.foldl (fun b v => b.set v true) b
theorem setBs_len : ∀ (l : List Nat) (b : List Bool), (setBs b l).length = b.length
  | [], _ => rfl
  | v :: l, b => by
    show (setBs (b.set v true) l).length = _
    rw [setBs_len l, List.length_set]
theorem getD_setT (b : List Bool) (v t : Nat) : (b.set v true).getD t false = true ↔ b.getD t false = true ∨ (t = v ∧ t < b.length) := by
  simp only [List.getD_eq_getElem?_getD]
  by_cases h : v = t
  · subst h
    by_cases g : v < b.length
    · rw [List.getElem?_set_self g]; simp [g]
    · rw [List.getElem?_eq_none (by rw [List.length_set]; omega)]
      rw [List.getElem?_eq_none (by omega)]
      simp [g]
  · rw [List.getElem?_set_ne h]
    constructor
    · intro e; exact .inl e
    · rintro (e | ⟨e, _⟩)
      · exact e
      · exact absurd e.symm h
theorem setBs_at : ∀ (l : List Nat) (b : List Bool) (t : Nat), (setBs b l).getD t false = true ↔ b.getD t false = true ∨ (t ∈ l ∧ t < b.length)
  | [], b, t => by simp [setBs]
  | v :: l, b, t => by
    show (setBs (b.set v true) l).getD t false = true ↔ _
    rw [setBs_at l, getD_setT, List.length_set, List.mem_cons]
    constructor
    · rintro ((h | h) | h)
      · exact .inl h
      · exact .inr ⟨.inl h.1, h.2⟩
      · exact .inr ⟨.inr h.1, h.2⟩
    · rintro (h | ⟨h | h, g⟩)
      · exact .inl (.inl h)
      · exact .inl (.inr ⟨h, g⟩)
      · exact .inr ⟨h, g⟩
/-- n marks, of the places of l. -/
def mkB (n : Nat) (l : List Nat) : List Bool := setBs (List.replicate n false) l
theorem mkB_len (n : Nat) (l : List Nat) : (mkB n l).length = n := by unfold mkB; rw [setBs_len, List.length_replicate]
theorem mkB_at (n : Nat) (l : List Nat) (t : Nat) : (mkB n l).getD t false = true ↔ t ∈ l ∧ t < n := by
  unfold mkB
  rw [setBs_at, List.length_replicate]
  have : (List.replicate n false).getD t false = false := by
    rw [List.getD_eq_getElem?_getD, List.getElem?_replicate]; split <;> rfl
  rw [this]
  simp
theorem mkB_nil (n : Nat) (l : List Nat) : bools (mkB n (l.take 0)) = zeros (.bool false) n := by simp [mkB, setBs, bools, zeros]
theorem mkB_next {n k v : Nat} {l : List Nat} (h : l[k]? = some v) : (mkB n (l.take k)).set v true = mkB n (l.take (k + 1)) := by
  have hlt := (List.getElem?_eq_some_iff.1 h).1
  have e := (List.getElem?_eq_some_iff.1 h).2
  rw [List.take_succ_eq_append_getElem hlt, e]
  unfold mkB setBs
  rw [List.foldl_append]
  rfl
theorem nats_getE {s : List Nat} {k : Nat} {x : Int} (h : (nats s)[k]? = some x) : ∃ v : Nat, x = v ∧ s[k]? = some v := by
  unfold nats at h
  rw [List.getElem?_map] at h
  cases e : s[k]? with
  | none => rw [e] at h; cases h
  | some v => rw [e] at h; cases h; exact ⟨v, rfl, rfl⟩
theorem nats_mem {s : List Nat} {v : Nat} : (v : Int) ∈ nats s ↔ v ∈ s := by
  unfold nats
  rw [List.mem_map]
  constructor
  · rintro ⟨a, ha, e⟩
    obtain rfl : a = v := by exact Int.ofNat.inj e
    exact ha
  · intro h; exact ⟨v, h, rfl⟩
end Go.Proofs.YtjphjbchhhembaaDoor
