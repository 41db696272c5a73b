/- Parts of the proof: Open, OpN, Laid. -/
import Derived.Test.YtpffhoefmcpniaaGreatDoorW1
import Derived.Test.YtpffhoefmcpniaaGreatDoorW4
import Derived.Test.YtpffhoefmcpniaaGreatDoorW15
import Derived.Test.YtpffhoefmcpniaaGreatDoorW34
import Derived.Test.YtpffhoefmcpniaaGreatDoorRows
import Derived.ProofKit
import Derived.OpenShut
import Derived.Deep.Slices
import Derived.SizedLaws
import Derived.ChangeArms
import Derived.Test.YtpffhoefmcpniaaGreatDoorTie
import Derived.Test.YtpffhoefmcpniaaGreatDoorCards
import Derived.Handed
import Derived.ChangeSame
import Derived.ChangeVars
import Derived.JoinedOf
import Derived.LaidLaws
import Derived.LaidHandle
import Derived.SevenTiedAt
/- A law's arguments, opened: what a slice that came in reads as. -/
namespace Go.Proofs.YtpffhoefmcpniaaGreatDoor
open Go.ChangeShapes Go.WideShapes Go.ChangeAt Go.RowKit Go.Deep

theorem own_ : ownKnob Tryz.prog.godebug = none := by kernel_rfl
theorem laidOut_ : laidOutB Tryz.prog = true := by kernel_rfl

theorem list_of {α : Type} {p : Nat → α → Prop} : ∀ (n : Nat), (∀ i, i < n → ∃ a, p i a) → ∃ l : List α, l.length = n ∧ ∀ i a, l[i]? = some a → p i a
  | 0, _ => ⟨[], rfl, fun i a h => by simp at h⟩
  | n + 1, h => by
    obtain ⟨l, hl, hp⟩ := list_of n (fun i hi => h i (by omega))
    obtain ⟨a, ha⟩ := h n (by omega)
    refine ⟨l ++ [a], by simp [hl], fun i b hb => ?_⟩
    rcases Nat.lt_or_ge i n with h1 | h1
    · rw [List.getElem?_append_left (by omega)] at hb; exact hp i b hb
    · rw [List.getElem?_append_right (by omega), hl] at hb
      have : i = n := by
        rcases Nat.lt_or_ge (i - n) 1 with h2 | h2
        · omega
        · rw [List.getElem?_eq_none (by simpa using h2)] at hb; cases hb
      subst this
      simp at hb
      subst hb
      exact ha

section
variable {H : Type} {enc : TypeId × Value → H} {P : Program} {w : World} {base : Nat} {spare : Nat → Bool} {held : Bool}

/-- A slice: its elements by a relation between an element's cells and what they say. -/
theorem open_list {α : Type} {t e k : Nat} (ht : P.underlying t = some (.slice e)) (hk : P.cellsOf e = k) (hk0 : 0 < k) (Rel : List Value → α → Prop)
    (hel : ∀ (fuel : Nat) (cs : List Value) (x : DataW H × List MemPlace), DataW.trod enc P w base spare held fuel e cs = some x → ∃ a, Rel cs a)
    {A : Option Addr} {n c fuel : Nat} {x : DataW H × List MemPlace} (h : DataW.trod enc P w base spare held fuel t [.slice A n c] = some x) :
    ∃ l : List α, l.length = n ∧ n ≤ c ∧ c ≤ 9223372036854775807 ∧ (n = 0 ∨ ∃ el sp, x.1 = .slice el sp ∧ el.length = n) ∧
      ∀ i a, l[i]? = some a → ∃ b o vs, A = some ⟨b, o, none⟩ ∧ Rel vs a ∧ vs.length = k ∧ ∀ j v, vs[j]? = some v → w.cell? ⟨b, o + i * k + j, none⟩ = some v := by
  rcases open_slice ht h with ⟨h0, _⟩ | ⟨a, len, cap, m, n', D, Pl, hcs, hb, hl, hm, hmm, hx, hi⟩
  · simp only [List.cons.injEq, Value.slice.injEq, and_true] at h0
    obtain ⟨rfl, rfl, rfl⟩ := h0
    exact ⟨[], rfl, Nat.le_refl _, by omega, .inl rfl, fun i a h => by simp at h⟩
  · simp only [List.cons.injEq, Value.slice.injEq, and_true] at hcs
    obtain ⟨rfl, rfl, rfl⟩ := hcs
    have hlm : n ≤ m := by rw [hmm]; split <;> omega
    obtain ⟨l, hll, hlp⟩ := list_of (p := fun i (y : α) => ∃ vs, Rel vs y ∧ vs.length = k ∧ ∀ j v, vs[j]? = some v → w.cell? ((a.add (i * k)).add j) = some v) n (fun i hin => by
      obtain ⟨cs', hc, ht'⟩ := hi i (by omega)
      rw [hk] at hc
      obtain ⟨_, hlen, hat⟩ := World.cells?_some hc
      obtain ⟨y, hy⟩ := hel _ _ _ ht'
      refine ⟨y, cs', hy, hlen, fun j v hv => ?_⟩
      have hj : j < k := by rw [← hlen]; exact (List.getElem?_eq_some_iff.1 hv).1
      rw [hat j hj, hv])
    refine ⟨l, hll, hl, (by unfold maxLen at hm; omega), .inr ⟨_, _, by rw [hx], by simp⟩, fun i y hy => ?_⟩
    obtain ⟨vs, h1, h2, h3⟩ := hlp i y hy
    have hspot : a.spot = none := by
      have h4 := h3 0 vs[0] (List.getElem?_eq_getElem (by omega))
      have h5 := World.cell?_spot h4
      unfold Addr.add at h5
      by_cases h6 : i * k = 0
      · simpa [h6] using h5
      · have hl0 : l.length = n := hll
        have h7 : 0 < n := by
          have := (List.getElem?_eq_some_iff.1 hy).1
          omega
        obtain ⟨y0, hy0⟩ : ∃ y0, l[0]? = some y0 := ⟨l[0], List.getElem?_eq_getElem (by omega)⟩
        obtain ⟨vs0, g1, g2, g3⟩ := hlp 0 y0 hy0
        have g4 := World.cell?_spot (g3 0 vs0[0] (List.getElem?_eq_getElem (by omega)))
        simpa [Addr.add] using g4
    obtain ⟨b, o, sp⟩ := a
    simp only at hspot
    subst hspot
    refine ⟨b, o, vs, rfl, h1, h2, fun j v hv => ?_⟩
    have := h3 j v hv
    unfold Addr.add at this
    by_cases h6 : i * k = 0
    · by_cases h7 : j = 0
      · simpa [h6, h7] using this
      · simpa [h6, h7] using this
    · by_cases h7 : j = 0
      · simpa [h6, h7] using this
      · simpa [h6, h7] using this

theorem rel_int {k : IntKind} {e : Nat} (he : P.underlying e = some (.int k)) (fuel : Nat) (cs : List Value) (x : DataW H × List MemPlace) (h : DataW.trod enc P w base spare held fuel e cs = some x) :
    ∃ n : Int, cs = [.int k n] ∧ (Lit.int k n).wf = true := by
  obtain ⟨n, h1, _, h3⟩ := DataW.trod_int he h
  exact ⟨n, h1, h3⟩
theorem rel_pair {e e1 : Nat} (he : P.underlying e = some (.array 2 e1)) (h1 : P.underlying e1 = some (.int .i64)) (hc : P.cellsOf e1 = 1) (hc2 : P.cellsOf e = 2) (fuel : Nat) (cs : List Value) (x : DataW H × List MemPlace)
    (h : DataW.trod enc P w base spare held fuel e cs = some x) : ∃ p : Int × Int, cs = [.int .i64 p.1, .int .i64 p.2] := by
  obtain ⟨xs, m, _, _, hcl, hxl, hi⟩ := DataW.trod_array he h
  have a0 := hi 0 (by omega)
  have a1 := hi 1 (by omega)
  rw [List.getElem?_eq_getElem (by omega)] at a0 a1
  obtain ⟨n0, e0, _⟩ := DataW.trod_int h1 a0
  obtain ⟨n1, e1', _⟩ := DataW.trod_int h1 a1
  rw [hc2] at hcl
  match cs, hcl with
  | [c0, c1], _ =>
    simp [hc] at e0 e1'
    exact ⟨(n0, n1), by simp [e0, e1']⟩

theorem open_pairs {t e e1 : Nat} (ht : P.underlying t = some (.slice e)) (he : P.underlying e = some (.array 2 e1)) (h1 : P.underlying e1 = some (.int .i64)) (hc : P.cellsOf e1 = 1) (hc2 : P.cellsOf e = 2)
    {A : Option Addr} {n c fuel : Nat} {x : DataW H × List MemPlace} (h : DataW.trod enc P w base spare held fuel t [.slice A n c] = some x) :
    ∃ l : List (Int × Int), RdP w A n l ∧ n ≤ c ∧ c ≤ 9223372036854775807 ∧ (n = 0 ∨ ∃ el sp, x.1 = .slice el sp ∧ el.length = n) := by
  obtain ⟨l, hl, hnc, hcm, hsz, hr⟩ := open_list ht hc2 (by omega) (fun cs (p : Int × Int) => cs = [.int .i64 p.1, .int .i64 p.2]) (rel_pair he h1 hc hc2) h
  refine ⟨l, ⟨hl, fun i p hp => ?_⟩, hnc, hcm, hsz⟩
  obtain ⟨b, o, vs, rfl, rfl, _, hv⟩ := hr i p hp
  exact ⟨b, o, rfl, hv 0 _ rfl, hv 1 _ rfl⟩
theorem rel_bool {e : Nat} (he : P.underlying e = some .bool) (fuel : Nat) (cs : List Value) (x : DataW H × List MemPlace) (h : DataW.trod enc P w base spare held fuel e cs = some x) :
    ∃ n : Bool, cs = [.bool n] := by
  obtain ⟨n, h1, _⟩ := DataW.trod_bool he h
  exact ⟨n, h1⟩
theorem open_bools {t e : Nat} (ht : P.underlying t = some (.slice e)) (he : P.underlying e = some .bool) (hc : P.cellsOf e = 1)
    {A : Option Addr} {n c fuel : Nat} {x : DataW H × List MemPlace} (h : DataW.trod enc P w base spare held fuel t [.slice A n c] = some x) :
    ∃ l : List Bool, RdB w A n l ∧ n ≤ c ∧ c ≤ 9223372036854775807 ∧ (n = 0 ∨ ∃ el sp, x.1 = .slice el sp ∧ el.length = n) := by
  obtain ⟨l, hl, hnc, hcm, hsz, hr⟩ := open_list ht hc (by omega) (fun cs (p : Bool) => cs = [.bool p]) (rel_bool he) h
  refine ⟨l, ⟨hl, fun i p hp => ?_⟩, hnc, hcm, hsz⟩
  obtain ⟨b, o, vs, rfl, rfl, _, hv⟩ := hr i p hp
  exact ⟨b, o, rfl, by have := hv 0 _ rfl; simpa using this⟩
theorem open_intsK {k : IntKind} {t e : Nat} (ht : P.underlying t = some (.slice e)) (he : P.underlying e = some (.int k)) (hc : P.cellsOf e = 1)
    {A : Option Addr} {n c fuel : Nat} {x : DataW H × List MemPlace} (h : DataW.trod enc P w base spare held fuel t [.slice A n c] = some x) :
    ∃ l : List Int, RdK k w A n l ∧ n ≤ c ∧ c ≤ 9223372036854775807 ∧ (n = 0 ∨ ∃ el sp, x.1 = .slice el sp ∧ el.length = n) ∧ ∀ a ∈ l, (Lit.int k a).wf = true := by
  obtain ⟨l, hl, hnc, hcm, hsz, hr⟩ := open_list ht hc (by omega) (fun cs (p : Int) => cs = [.int k p] ∧ (Lit.int k p).wf = true) (rel_int he) h
  refine ⟨l, ⟨hl, fun i p hp => ?_⟩, hnc, hcm, hsz, fun a ha => ?_⟩
  · obtain ⟨b, o, vs, rfl, ⟨rfl, _⟩, _, hv⟩ := hr i p hp
    exact ⟨b, o, rfl, by have := hv 0 _ rfl; simpa using this⟩
  · obtain ⟨i, hi, e1⟩ := List.getElem_of_mem ha
    obtain ⟨b, o, vs, _, ⟨_, h2⟩, _, _⟩ := hr i a (by rw [List.getElem?_eq_getElem hi, e1])
    exact h2
end
end Go.Proofs.YtpffhoefmcpniaaGreatDoor

/- The law's arguments, opened: a net, cells. -/
namespace Go.Proofs.YtpffhoefmcpniaaGreatDoor
open Go.ChangeShapes Go.WideShapes Go.ChangeAt Go.RowKit Go.Deep

theorem list_one {α : Type} : ∀ {l : List α}, l.length = 1 → ∃ a, l = [a]
  | [a], _ => ⟨a, rfl⟩
theorem list_three {α : Type} : ∀ {l : List α}, l.length = 3 → ∃ a b c, l = [a, b, c]
  | [a, b, c], _ => ⟨a, b, c, rfl⟩
section
variable {H : Type} {enc : TypeId × Value → H} {w : World} {base : Nat} {spare : Nat → Bool} {held : Bool}
theorem slice_cell {t e : TypeId} (ht : Tryz.prog.underlying t = some (.slice e)) {fuel : Nat} {cs : List Value} {x : DataW H × List MemPlace} (h : DataW.trod enc Tryz.prog w base spare held fuel t cs = some x) : ∃ A n c, cs = [.slice A n c] := by
  rcases open_slice ht h with ⟨h0, _⟩ | ⟨a, len, cap, m, n', D, Pl, hcs, _⟩
  · exact ⟨_, _, _, h0⟩
  · exact ⟨_, _, _, hcs⟩
theorem rel_row (fuel : Nat) (cs : List Value) (x : DataW H × List MemPlace) (h : DataW.trod enc Tryz.prog w base spare held fuel 27 cs = some x) :
    ∃ l : List Int, ∃ A n c, cs = [.slice A n c] ∧ RdI w A n l ∧ n ≤ c ∧ c ≤ 9223372036854775807 := by
  obtain ⟨A, n, c, rfl⟩ := slice_cell Tryz.underlying27 h
  obtain ⟨l, h1, h2, h3, _, _⟩ := open_intsK Tryz.underlying27 Tryz.underlying3 (by kernel_rfl) h
  exact ⟨l, A, n, c, rfl, h1, h2, h3⟩
theorem open_part {cs : List Value} {fuel : Nat} {x : DataW H × List MemPlace} (h : DataW.trod enc Tryz.prog w base spare held fuel 39 cs = some x) :
    ∃ (A : Option Addr) (n c : Nat) (ls : List (List Int)), cs = [.slice A n c] ∧ RdT w A n ls ∧ n ≤ c ∧ c ≤ 9223372036854775807 := by
  obtain ⟨xs, m, _, _, hcl, hxl, hi⟩ := DataW.trod_struct Tryz.underlying39 h
  have hxl' : xs.length = 1 := hxl
  have a0 : DataW.trod enc Tryz.prog w base spare held m 32 ((cs.drop 0).take (Tryz.prog.cellsOf 32)) = xs[0]? := hi 0 _ rfl
  rw [List.getElem?_eq_getElem (by omega)] at a0
  obtain ⟨A, n, c, e0⟩ := slice_cell Tryz.underlying32 a0
  rw [e0] at a0
  obtain ⟨l, hl, hnc, hcm, _, hr⟩ := open_list Tryz.underlying32 (k := 1) (by kernel_rfl) (by omega) (fun cs (l : List Int) => ∃ A n c, cs = [.slice A n c] ∧ RdI w A n l ∧ n ≤ c ∧ c ≤ 9223372036854775807) rel_row a0
  rw [show Tryz.prog.cellsOf 39 = 1 by kernel_rfl] at hcl
  rw [show Tryz.prog.cellsOf 32 = 1 by kernel_rfl] at e0
  clear a0 hi h
  obtain ⟨c0, rfl⟩ := list_one hcl
  simp at e0
  refine ⟨A, n, c, l, by simp [e0], ⟨hl, fun i p hp => ?_⟩, hnc, hcm⟩
  obtain ⟨b, o, vs, e, ⟨A', n', c', e2, h1, h2, h3⟩, _, hv⟩ := hr i p hp
  subst e2
  exact ⟨b, o, A', n', c', e, by have := hv 0 _ rfl; simpa using this, h1, h2, h3⟩
theorem rel_vert (fuel : Nat) (cs : List Value) (x : DataW H × List MemPlace) (h : DataW.trod enc Tryz.prog w base spare held fuel 64 cs = some x) : ∃ p : Tri, cs = [.int .i64 p.1, .int .i64 p.2.1, .int .i64 p.2.2] := by
  obtain ⟨xs, m, _, _, hcl, hxl, hi⟩ := DataW.trod_struct Tryz.underlying64 h
  have hxl' : xs.length = 3 := hxl
  have a0 : DataW.trod enc Tryz.prog w base spare held m 3 ((cs.drop 0).take (Tryz.prog.cellsOf 3)) = xs[0]? := hi 0 _ rfl
  have a1 : DataW.trod enc Tryz.prog w base spare held m 3 ((cs.drop 1).take (Tryz.prog.cellsOf 3)) = xs[1]? := hi 1 _ rfl
  have a2 : DataW.trod enc Tryz.prog w base spare held m 3 ((cs.drop 2).take (Tryz.prog.cellsOf 3)) = xs[2]? := hi 2 _ rfl
  rw [List.getElem?_eq_getElem (by omega)] at a0 a1 a2
  obtain ⟨n0, e0, _⟩ := DataW.trod_int Tryz.underlying3 a0
  obtain ⟨n1, e1, _⟩ := DataW.trod_int Tryz.underlying3 a1
  obtain ⟨n2, e2, _⟩ := DataW.trod_int Tryz.underlying3 a2
  rw [show Tryz.prog.cellsOf 64 = 3 by kernel_rfl] at hcl
  rw [show Tryz.prog.cellsOf 3 = 1 by kernel_rfl] at e0 e1 e2
  clear a0 a1 a2 hi h
  obtain ⟨c0, c1, c2, rfl⟩ := list_three hcl
  simp at e0 e1 e2
  exact ⟨(n0, n1, n2), by simp [e0, e1, e2]⟩
theorem rel_arc (fuel : Nat) (cs : List Value) (x : DataW H × List MemPlace) (h : DataW.trod enc Tryz.prog w base spare held fuel 115 cs = some x) : ∃ p : Tri, cs = [.int .i64 p.1, .int .i64 p.2.1, .int .i64 p.2.2] := by
  obtain ⟨xs, m, _, _, hcl, hxl, hi⟩ := DataW.trod_struct Tryz.underlying115 h
  have hxl' : xs.length = 3 := hxl
  have a0 : DataW.trod enc Tryz.prog w base spare held m 3 ((cs.drop 0).take (Tryz.prog.cellsOf 3)) = xs[0]? := hi 0 _ rfl
  have a1 : DataW.trod enc Tryz.prog w base spare held m 3 ((cs.drop 1).take (Tryz.prog.cellsOf 3)) = xs[1]? := hi 1 _ rfl
  have a2 : DataW.trod enc Tryz.prog w base spare held m 2 ((cs.drop 2).take (Tryz.prog.cellsOf 2)) = xs[2]? := hi 2 _ rfl
  rw [List.getElem?_eq_getElem (by omega)] at a0 a1 a2
  obtain ⟨n0, e0, _⟩ := DataW.trod_int Tryz.underlying3 a0
  obtain ⟨n1, e1, _⟩ := DataW.trod_int Tryz.underlying3 a1
  obtain ⟨n2, e2, _⟩ := DataW.trod_int Tryz.underlying2 a2
  rw [show Tryz.prog.cellsOf 115 = 3 by kernel_rfl] at hcl
  rw [show Tryz.prog.cellsOf 3 = 1 by kernel_rfl] at e0 e1
  rw [show Tryz.prog.cellsOf 2 = 1 by kernel_rfl] at e2
  clear a0 a1 a2 hi h
  obtain ⟨c0, c1, c2, rfl⟩ := list_three hcl
  simp at e0 e1 e2
  exact ⟨(n0, n1, n2), by simp [e0, e1, e2]⟩
/-- A table's cells. -/
def TabCs (w : World) (cs : List Value) (t : TabD) : Prop := ∃ (A : Option Addr) (n c : Nat), cs = [.int .i64 t.ins, .int .i64 t.outs, .slice A n c] ∧ RdI w A n t.costs ∧ n ≤ c ∧ c ≤ 9223372036854775807
theorem rel_tab (fuel : Nat) (cs : List Value) (x : DataW H × List MemPlace) (h : DataW.trod enc Tryz.prog w base spare held fuel 61 cs = some x) : ∃ t : TabD, TabCs w cs t := by
  obtain ⟨xs, m, _, _, hcl, hxl, hi⟩ := DataW.trod_struct Tryz.underlying61 h
  have hxl' : xs.length = 3 := hxl
  have a0 : DataW.trod enc Tryz.prog w base spare held m 3 ((cs.drop 0).take (Tryz.prog.cellsOf 3)) = xs[0]? := hi 0 _ rfl
  have a1 : DataW.trod enc Tryz.prog w base spare held m 3 ((cs.drop 1).take (Tryz.prog.cellsOf 3)) = xs[1]? := hi 1 _ rfl
  have a2 : DataW.trod enc Tryz.prog w base spare held m 59 ((cs.drop 2).take (Tryz.prog.cellsOf 59)) = xs[2]? := hi 2 _ rfl
  rw [List.getElem?_eq_getElem (by omega)] at a0 a1 a2
  obtain ⟨n0, e0, _⟩ := DataW.trod_int Tryz.underlying3 a0
  obtain ⟨n1, e1, _⟩ := DataW.trod_int Tryz.underlying3 a1
  obtain ⟨A, n, c, e2⟩ := slice_cell Tryz.underlying59 a2
  rw [e2] at a2
  obtain ⟨l, h1, h2, h3, _, _⟩ := open_intsK Tryz.underlying59 Tryz.underlying2 (by kernel_rfl) a2
  rw [show Tryz.prog.cellsOf 61 = 3 by kernel_rfl] at hcl
  rw [show Tryz.prog.cellsOf 3 = 1 by kernel_rfl] at e0 e1
  rw [show Tryz.prog.cellsOf 59 = 1 by kernel_rfl] at e2
  clear a0 a1 a2 hi h
  obtain ⟨c0, c1, c2, rfl⟩ := list_three hcl
  simp at e0 e1 e2
  exact ⟨⟨n0, n1, l⟩, A, n, c, by simp [e0, e1, e2], h1, h2, h3⟩
theorem open_net {cs : List Value} {fuel : Nat} {x : DataW H × List MemPlace} (h : DataW.trod enc Tryz.prog w base spare held fuel 26 cs = some x) :
    ∃ (A B C : Option Addr) (n m k c d e : Nat) (N : NetD), cs = [.slice A n c, .slice B m d, .slice C k e] ∧ RdNet w A B C n m k N ∧ k ≤ 9223372036854775807 := by
  obtain ⟨xs, f, _, _, hcl, hxl, hi⟩ := DataW.trod_struct Tryz.underlying26 h
  have hxl' : xs.length = 3 := hxl
  have a0 : DataW.trod enc Tryz.prog w base spare held f 22 ((cs.drop 0).take (Tryz.prog.cellsOf 22)) = xs[0]? := hi 0 _ rfl
  have a1 : DataW.trod enc Tryz.prog w base spare held f 23 ((cs.drop 1).take (Tryz.prog.cellsOf 23)) = xs[1]? := hi 1 _ rfl
  have a2 : DataW.trod enc Tryz.prog w base spare held f 24 ((cs.drop 2).take (Tryz.prog.cellsOf 24)) = xs[2]? := hi 2 _ rfl
  rw [List.getElem?_eq_getElem (by omega)] at a0 a1 a2
  obtain ⟨A, n, c, e0⟩ := slice_cell Tryz.underlying22 a0
  obtain ⟨B, m, d, e1⟩ := slice_cell Tryz.underlying23 a1
  obtain ⟨C, k, e, e2⟩ := slice_cell Tryz.underlying24 a2
  rw [e0] at a0
  rw [e1] at a1
  rw [e2] at a2
  obtain ⟨vs, hl0, _, _, _, hr0⟩ := open_list Tryz.underlying22 (k := 3) (by kernel_rfl) (by omega) (fun cs (p : Tri) => cs = [.int .i64 p.1, .int .i64 p.2.1, .int .i64 p.2.2]) rel_vert a0
  obtain ⟨ar, hl1, _, _, _, hr1⟩ := open_list Tryz.underlying23 (k := 3) (by kernel_rfl) (by omega) (fun cs (p : Tri) => cs = [.int .i64 p.1, .int .i64 p.2.1, .int .i64 p.2.2]) rel_arc a1
  obtain ⟨ts, hl2, hkc, hcm, _, hr2⟩ := open_list Tryz.underlying24 (k := 3) (by kernel_rfl) (by omega) (TabCs w) rel_tab a2
  rw [show Tryz.prog.cellsOf 26 = 3 by kernel_rfl] at hcl
  rw [show Tryz.prog.cellsOf 22 = 1 by kernel_rfl] at e0
  rw [show Tryz.prog.cellsOf 23 = 1 by kernel_rfl] at e1
  rw [show Tryz.prog.cellsOf 24 = 1 by kernel_rfl] at e2
  clear a0 a1 a2 hi h
  obtain ⟨c0, c1, c2, rfl⟩ := list_three hcl
  simp at e0 e1 e2
  refine ⟨A, B, C, n, m, k, c, d, e, ⟨vs, ar, ts⟩, by simp [e0, e1, e2], ⟨⟨hl0, fun i p hp => ?_⟩, ⟨hl1, fun i p hp => ?_⟩, ⟨hl2, fun i p hp => ?_⟩⟩, by omega⟩
  · obtain ⟨b, o, us, e5, rfl, _, hv⟩ := hr0 i p hp
    exact ⟨b, o, e5, by have := hv 0 _ rfl; simpa using this, hv 1 _ rfl, hv 2 _ rfl⟩
  · obtain ⟨b, o, us, e5, rfl, _, hv⟩ := hr1 i p hp
    exact ⟨b, o, e5, by have := hv 0 _ rfl; simpa using this, hv 1 _ rfl, hv 2 _ rfl⟩
  · obtain ⟨b, o, us, e5, ⟨A', n', c', rfl, h1, h2, h3⟩, _, hv⟩ := hr2 i p hp
    exact ⟨b, o, e5, by have := hv 0 _ rfl; simpa using this, hv 1 _ rfl, A', n', c', hv 2 _ rfl, h1, h2, h3⟩
end

end Go.Proofs.YtpffhoefmcpniaaGreatDoor

/- What the condition on the listed variable says; a world that meets it. -/
namespace Go.Proofs.YtpffhoefmcpniaaGreatDoor
open Go.ChangeShapes Go.WideShapes Go.ChangeAt Go.RowKit Go.Deep

theorem et_ : Tryz.prog.globalNamed "errors.errorType" = some 0 := by kernel_rfl
theorem rt_ : (Tryz.prog.cutTypes.find? (·.1 == "internal/reflectlite.rtype")).map (·.2) = some 169 := by kernel_rfl
theorem oneRow_ : ((List.range 282).filter fun t => Tryz.prog.rowNamed t [101, 114, 114, 111, 114]) = [36] := by kernel_rfl
theorem size_ : Tryz.prog.types.size = 282 := by kernel_rfl
/-- What the condition gives the walk: the variable's one cell. -/
theorem handle_of_laid {W : World} (h : laidMetH Tryz.prog [("errors.errorType", Rows.laid_errors_errorType)] W) : W.cell? ⟨0, 0, none⟩ = some errT := by
  have h' : laidMet Tryz.prog [] W ∧ handlesMet Tryz.prog [("errors.errorType", Rows.laid_errors_errorType)] W := h
  obtain ⟨name, u, ty, e1, e2, e3, e4, e5⟩ := h'.2 _ (List.mem_singleton.2 rfl)
  have en : name = [101, 114, 114, 111, 114] := (Option.some.inj e1).symm
  subst en
  obtain rfl := Option.some.inj (rt_.symm.trans e2)
  have hm : ty ∈ (List.range 282).filter fun t => Tryz.prog.rowNamed t [101, 114, 114, 111, 114] := List.mem_filter.2 ⟨List.mem_range.2 (by rw [← size_]; exact e3), e4⟩
  rw [oneRow_] at hm
  obtain rfl := List.mem_singleton.1 hm
  have hh : typeHandle Tryz.prog 36 = .pointer (some ⟨1, 36, none⟩) := by kernel_rfl
  rw [hh] at e5
  unfold errT
  simpa using World.var?_cell et_ e5 0
/-- A world that meets the condition: the settled one, the variable's cell laid. -/
noncomputable def laidWorld (os : Os) : World :=
  let w0 := World.holding Tryz.prog os ⟨#[], #[], []⟩
  { w0 with heap := w0.heap.modify 0 fun
      | .cells _ t frozen => .cells #[errT] t frozen
      | o => o }
theorem laidWorld_met (os : Os) (args : Array Value) : laidMetH Tryz.prog [("errors.errorType", Rows.laid_errors_errorType)] ((laidWorld os).forCall (fun _ _ => 0) ⟨#[], args, []⟩).memory :=
  laidMetH_of_parts (laidMet_nil _ _) (by kernel_rfl)

end Go.Proofs.YtpffhoefmcpniaaGreatDoor
