/- A law's arguments, opened: what a slice that came in reads as. -/
import Derived.Test.YtgkeolddpielpaaGreatVoc
import Derived.Test.YtgkeolddpielpaaGreatRows
import Derived.ProofKit
import Derived.OpenShut
import Derived.Deep.Slices
import Derived.SizedLaws
namespace Go.Proofs.YtgkeolddpielpaaGreat
open Go.ChangeShapes Go.WideShapes Go.ChangeAt Go.RowKit Go.Deep

theorem own_ : ownKnob Tryz.prog.godebug = none := by kernel_rfl
theorem laidOut_ : laidOutB Tryz.prog = true := by kernel_rfl

theorem list_of {α : Type} {p : Nat → α → Prop} : ∀ (n : Nat), (∀ i, i < n → ∃ a, p i a) → ∃ l : List α, l.length = n ∧ ∀ i a, l[i]? = some a → p i a
  | 0, _ => ⟨[], rfl, fun i a h => by simp at h⟩
  | n + 1, h => by
    obtain ⟨l, hl, hp⟩ := list_of n (fun i hi => h i (by omega))
    obtain ⟨a, ha⟩ := h n (by omega)
    refine ⟨l ++ [a], by simp [hl], fun i b hb => ?_⟩
    rcases Nat.lt_or_ge i n with h1 | h1
    · rw [List.getElem?_append_left (by omega)] at hb; exact hp i b hb
    · rw [List.getElem?_append_right (by omega), hl] at hb
      have : i = n := by
        rcases Nat.lt_or_ge (i - n) 1 with h2 | h2
        · omega
        · rw [List.getElem?_eq_none (by simpa using h2)] at hb; cases hb
      subst this
      simp at hb
      subst hb
      exact ha

section
variable {H : Type} {enc : TypeId × Value → H} {P : Program} {w : World} {base : Nat} {spare : Nat → Bool} {held : Bool}

/-- A slice: its elements by a relation between an element's cells and what they say. -/
theorem open_list {α : Type} {t e k : Nat} (ht : P.underlying t = some (.slice e)) (hk : P.cellsOf e = k) (hk0 : 0 < k) (Rel : List Value → α → Prop)
    (hel : ∀ (fuel : Nat) (cs : List Value) (x : DataW H × List MemPlace), DataW.trod enc P w base spare held fuel e cs = some x → ∃ a, Rel cs a)
    {A : Option Addr} {n c fuel : Nat} {x : DataW H × List MemPlace} (h : DataW.trod enc P w base spare held fuel t [.slice A n c] = some x) :
    ∃ l : List α, l.length = n ∧ n ≤ c ∧ c ≤ 9223372036854775807 ∧ (n = 0 ∨ ∃ el sp, x.1 = .slice el sp ∧ el.length = n) ∧
      ∀ i a, l[i]? = some a → ∃ b o vs, A = some ⟨b, o, none⟩ ∧ Rel vs a ∧ vs.length = k ∧ ∀ j v, vs[j]? = some v → w.cell? ⟨b, o + i * k + j, none⟩ = some v := by
  rcases open_slice ht h with ⟨h0, _⟩ | ⟨a, len, cap, m, n', D, Pl, hcs, hb, hl, hm, hmm, hx, hi⟩
  · simp only [List.cons.injEq, Value.slice.injEq, and_true] at h0
    obtain ⟨rfl, rfl, rfl⟩ := h0
    exact ⟨[], rfl, Nat.le_refl _, by omega, .inl rfl, fun i a h => by simp at h⟩
  · simp only [List.cons.injEq, Value.slice.injEq, and_true] at hcs
    obtain ⟨rfl, rfl, rfl⟩ := hcs
    have hlm : n ≤ m := by rw [hmm]; split <;> omega
    obtain ⟨l, hll, hlp⟩ := list_of (p := fun i (y : α) => ∃ vs, Rel vs y ∧ vs.length = k ∧ ∀ j v, vs[j]? = some v → w.cell? ((a.add (i * k)).add j) = some v) n (fun i hin => by
      obtain ⟨cs', hc, ht'⟩ := hi i (by omega)
      rw [hk] at hc
      obtain ⟨_, hlen, hat⟩ := World.cells?_some hc
      obtain ⟨y, hy⟩ := hel _ _ _ ht'
      refine ⟨y, cs', hy, hlen, fun j v hv => ?_⟩
      have hj : j < k := by rw [← hlen]; exact (List.getElem?_eq_some_iff.1 hv).1
      rw [hat j hj, hv])
    refine ⟨l, hll, hl, (by unfold maxLen at hm; omega), .inr ⟨_, _, by rw [hx], by simp⟩, fun i y hy => ?_⟩
    obtain ⟨vs, h1, h2, h3⟩ := hlp i y hy
    have hspot : a.spot = none := by
      have h4 := h3 0 vs[0] (List.getElem?_eq_getElem (by omega))
      have h5 := World.cell?_spot h4
      unfold Addr.add at h5
      by_cases h6 : i * k = 0
      · simpa [h6] using h5
      · have hl0 : l.length = n := hll
        have h7 : 0 < n := by
          have := (List.getElem?_eq_some_iff.1 hy).1
          omega
        obtain ⟨y0, hy0⟩ : ∃ y0, l[0]? = some y0 := ⟨l[0], List.getElem?_eq_getElem (by omega)⟩
        obtain ⟨vs0, g1, g2, g3⟩ := hlp 0 y0 hy0
        have g4 := World.cell?_spot (g3 0 vs0[0] (List.getElem?_eq_getElem (by omega)))
        simpa [Addr.add] using g4
    obtain ⟨b, o, sp⟩ := a
    simp only at hspot
    subst hspot
    refine ⟨b, o, vs, rfl, h1, h2, fun j v hv => ?_⟩
    have := h3 j v hv
    unfold Addr.add at this
    by_cases h6 : i * k = 0
    · by_cases h7 : j = 0
      · simpa [h6, h7] using this
      · simpa [h6, h7] using this
    · by_cases h7 : j = 0
      · simpa [h6, h7] using this
      · simpa [h6, h7] using this

theorem rel_int {k : IntKind} {e : Nat} (he : P.underlying e = some (.int k)) (fuel : Nat) (cs : List Value) (x : DataW H × List MemPlace) (h : DataW.trod enc P w base spare held fuel e cs = some x) :
    ∃ n : Int, cs = [.int k n] ∧ (Lit.int k n).wf = true := by
  obtain ⟨n, h1, _, h3⟩ := DataW.trod_int he h
  exact ⟨n, h1, h3⟩
theorem rel_pair {e e1 : Nat} (he : P.underlying e = some (.array 2 e1)) (h1 : P.underlying e1 = some (.int .i64)) (hc : P.cellsOf e1 = 1) (hc2 : P.cellsOf e = 2) (fuel : Nat) (cs : List Value) (x : DataW H × List MemPlace)
    (h : DataW.trod enc P w base spare held fuel e cs = some x) : ∃ p : Int × Int, cs = [.int .i64 p.1, .int .i64 p.2] := by
  obtain ⟨xs, m, _, _, hcl, hxl, hi⟩ := DataW.trod_array he h
  have a0 := hi 0 (by omega)
  have a1 := hi 1 (by omega)
  rw [List.getElem?_eq_getElem (by omega)] at a0 a1
  obtain ⟨n0, e0, _⟩ := DataW.trod_int h1 a0
  obtain ⟨n1, e1', _⟩ := DataW.trod_int h1 a1
  rw [hc2] at hcl
  match cs, hcl with
  | [c0, c1], _ =>
    simp [hc] at e0 e1'
    exact ⟨(n0, n1), by simp [e0, e1']⟩

theorem open_pairs {t e e1 : Nat} (ht : P.underlying t = some (.slice e)) (he : P.underlying e = some (.array 2 e1)) (h1 : P.underlying e1 = some (.int .i64)) (hc : P.cellsOf e1 = 1) (hc2 : P.cellsOf e = 2)
    {A : Option Addr} {n c fuel : Nat} {x : DataW H × List MemPlace} (h : DataW.trod enc P w base spare held fuel t [.slice A n c] = some x) :
    ∃ l : List (Int × Int), RdP w A n l ∧ n ≤ c ∧ c ≤ 9223372036854775807 ∧ (n = 0 ∨ ∃ el sp, x.1 = .slice el sp ∧ el.length = n) := by
  obtain ⟨l, hl, hnc, hcm, hsz, hr⟩ := open_list ht hc2 (by omega) (fun cs (p : Int × Int) => cs = [.int .i64 p.1, .int .i64 p.2]) (rel_pair he h1 hc hc2) h
  refine ⟨l, ⟨hl, fun i p hp => ?_⟩, hnc, hcm, hsz⟩
  obtain ⟨b, o, vs, rfl, rfl, _, hv⟩ := hr i p hp
  exact ⟨b, o, rfl, hv 0 _ rfl, hv 1 _ rfl⟩
theorem rel_bool {e : Nat} (he : P.underlying e = some .bool) (fuel : Nat) (cs : List Value) (x : DataW H × List MemPlace) (h : DataW.trod enc P w base spare held fuel e cs = some x) :
    ∃ n : Bool, cs = [.bool n] := by
  obtain ⟨n, h1, _⟩ := DataW.trod_bool he h
  exact ⟨n, h1⟩
theorem open_bools {t e : Nat} (ht : P.underlying t = some (.slice e)) (he : P.underlying e = some .bool) (hc : P.cellsOf e = 1)
    {A : Option Addr} {n c fuel : Nat} {x : DataW H × List MemPlace} (h : DataW.trod enc P w base spare held fuel t [.slice A n c] = some x) :
    ∃ l : List Bool, RdB w A n l ∧ n ≤ c ∧ c ≤ 9223372036854775807 ∧ (n = 0 ∨ ∃ el sp, x.1 = .slice el sp ∧ el.length = n) := by
  obtain ⟨l, hl, hnc, hcm, hsz, hr⟩ := open_list ht hc (by omega) (fun cs (p : Bool) => cs = [.bool p]) (rel_bool he) h
  refine ⟨l, ⟨hl, fun i p hp => ?_⟩, hnc, hcm, hsz⟩
  obtain ⟨b, o, vs, rfl, rfl, _, hv⟩ := hr i p hp
  exact ⟨b, o, rfl, by have := hv 0 _ rfl; simpa using this⟩
theorem open_intsK {k : IntKind} {t e : Nat} (ht : P.underlying t = some (.slice e)) (he : P.underlying e = some (.int k)) (hc : P.cellsOf e = 1)
    {A : Option Addr} {n c fuel : Nat} {x : DataW H × List MemPlace} (h : DataW.trod enc P w base spare held fuel t [.slice A n c] = some x) :
    ∃ l : List Int, RdK k w A n l ∧ n ≤ c ∧ c ≤ 9223372036854775807 ∧ (n = 0 ∨ ∃ el sp, x.1 = .slice el sp ∧ el.length = n) ∧ ∀ a ∈ l, (Lit.int k a).wf = true := by
  obtain ⟨l, hl, hnc, hcm, hsz, hr⟩ := open_list ht hc (by omega) (fun cs (p : Int) => cs = [.int k p] ∧ (Lit.int k p).wf = true) (rel_int he) h
  refine ⟨l, ⟨hl, fun i p hp => ?_⟩, hnc, hcm, hsz, fun a ha => ?_⟩
  · obtain ⟨b, o, vs, rfl, ⟨rfl, _⟩, _, hv⟩ := hr i p hp
    exact ⟨b, o, rfl, by have := hv 0 _ rfl; simpa using this⟩
  · obtain ⟨i, hi, e1⟩ := List.getElem_of_mem ha
    obtain ⟨b, o, vs, _, ⟨_, h2⟩, _, _⟩ := hr i a (by rw [List.getElem?_eq_getElem hi, e1])
    exact h2
end
end Go.Proofs.YtgkeolddpielpaaGreat
