/- Parts of the proof: QFlP, QFlV. -/
import Derived.Test.YtpffhoefmcpniaaGreatDoorW1
import Derived.Test.YtpffhoefmcpniaaGreatDoorW3
/- Flows of edges: what a flow carries over a side, and the least sides; plain Lean. -/
namespace Go.Proofs.YtpffhoefmcpniaaGreatDoor
open Go.RowKit

abbrev Edg := Int × Int
def iB (b : Bool) : Int := if b then 1 else 0
theorem iB_bd (b : Bool) : 0 ≤ iB b ∧ iB b ≤ 1 := by cases b <;> decide
/-- What a flow carries out of a side. -/
def outF (S : Int → Bool) : List Edg → List Int → Int
  | e :: E, x :: f => x * (iB (S e.1) - iB (S e.2)) + outF S E f
  | _, _ => 0
/-- How many edges a side crosses. -/
def crossN (S : Int → Bool) : List Edg → Nat
  | [] => 0
  | e :: E => (if S e.1 = S e.2 then 0 else 1) + crossN S E
theorem crossN_le (S : Int → Bool) : ∀ E : List Edg, crossN S E ≤ E.length
  | [] => Nat.le_refl _
  | e :: E => by
    have := crossN_le S E
    unfold crossN
    split <;> simp only [List.length_cons] <;> omega
def Unit3 (x : Int) : Prop := -1 ≤ x ∧ x ≤ 1
theorem outF_zero (S : Int → Bool) : ∀ (E : List Edg) (n : Nat), outF S E (List.replicate n 0) = 0
  | [], n => by cases n <;> simp [outF]
  | e :: E, 0 => by simp [outF]
  | e :: E, n + 1 => by
    rw [List.replicate_succ]
    unfold outF
    rw [outF_zero S E n]
    simp
theorem outF_set (S : Int → Bool) : ∀ (E : List Edg) (f : List Int) (i : Nat) (e : Edg) (x y : Int), E[i]? = some e → f[i]? = some x → outF S E (f.set i y) = outF S E f + (y - x) * (iB (S e.1) - iB (S e.2))
  | [], _, i, e, x, y, h, _ => by simp at h
  | _ :: _, [], i, e, x, y, _, h => by simp at h
  | d :: E, z :: f, 0, e, x, y, h, g => by
    simp at h g
    subst h; subst g
    simp only [List.set_cons_zero]
    unfold outF
    rw [Int.sub_mul]
    omega
  | d :: E, z :: f, i + 1, e, x, y, h, g => by
    simp only [List.set_cons_succ]
    unfold outF
    rw [outF_set S E f i e x y (by simpa using h) (by simpa using g)]
    omega
theorem edge_le {x : Int} {a b : Bool} (hx : Unit3 x) : x * (iB a - iB b) ≤ (if a = b then 0 else 1 : Nat) := by
  unfold Unit3 at hx
  cases a <;> cases b <;> simp [iB] <;> omega
theorem outF_le (S : Int → Bool) : ∀ (E : List Edg) (f : List Int), (∀ x ∈ f, Unit3 x) → outF S E f ≤ crossN S E
  | [], f, _ => by cases f <;> simp [outF, crossN]
  | e :: E, [], _ => by simp [outF]
  | e :: E, x :: f, h => by
    have h1 := outF_le S E f (fun y hy => h y (List.mem_cons_of_mem _ hy))
    have h2 := edge_le (a := S e.1) (b := S e.2) (h x List.mem_cons_self)
    unfold outF crossN
    push_cast
    omega
/-- A flow that carries all that a side crosses fills each edge that it crosses. -/
theorem outF_full (S : Int → Bool) : ∀ (E : List Edg) (f : List Int), (∀ x ∈ f, Unit3 x) → f.length = E.length → (crossN S E : Int) ≤ outF S E f → ∀ (i : Nat) (e : Edg) (x : Int), E[i]? = some e → f[i]? = some x → S e.1 ≠ S e.2 → x * (iB (S e.1) - iB (S e.2)) = 1
  | [], f, _, _, _, i, e, x, h, _, _ => by simp at h
  | d :: E, [], _, hl, _, i, e, x, _, _, _ => by simp at hl
  | d :: E, z :: f, h, hl, hf, i, e, x, hi, gi, hS => by
    have h1 := outF_le S E f (fun y hy => h y (List.mem_cons_of_mem _ hy))
    have h2 := edge_le (a := S d.1) (b := S d.2) (h z List.mem_cons_self)
    unfold outF crossN at hf
    push_cast at hf
    cases i with
    | zero =>
      simp at hi gi
      subst hi; subst gi
      rw [if_neg hS] at h2 hf
      simp at h2 hf
      omega
    | succ i =>
      refine outF_full S E f (fun y hy => h y (List.mem_cons_of_mem _ hy)) (by simpa using hl) ?_ i e x (by simpa using hi) (by simpa using gi) hS
      omega
/-- A side whose crossing edges are all filled is crossed by just what the flow carries. -/
theorem outF_filled (S : Int → Bool) : ∀ (E : List Edg) (f : List Int), f.length = E.length → (∀ (i : Nat) (e : Edg) (x : Int), E[i]? = some e → f[i]? = some x → S e.1 ≠ S e.2 → x * (iB (S e.1) - iB (S e.2)) = 1) → outF S E f = crossN S E
  | [], f, _, _ => by cases f <;> simp [outF, crossN]
  | d :: E, [], hl, _ => by simp at hl
  | d :: E, z :: f, hl, h => by
    have ih := outF_filled S E f (by simpa using hl) (fun i e x hi gi => h (i + 1) e x (by simpa using hi) (by simpa using gi))
    unfold outF crossN
    push_cast
    rw [ih]
    by_cases hS : S d.1 = S d.2
    · rw [if_pos hS, hS]; simp
    · rw [if_neg hS, h 0 d z rfl rfl hS]; simp

/-- A side of all src and no dst. -/
def Sep (src dst : List Int) (S : Int → Bool) : Prop := (∀ v ∈ src, S v = true) ∧ ∀ v ∈ dst, S v = false
/-- There is room in an edge from u to v. -/
def Room (E : List Edg) (f : List Int) (u v : Int) : Prop := ∃ (i : Nat) (x : Int), f[i]? = some x ∧ u ≠ v ∧ ((E[i]? = some (u, v) ∧ x ≠ 1) ∨ (E[i]? = some (v, u) ∧ x ≠ -1))
/-- A flow: it carries V out of each side of all src and no dst. -/
structure FlowI (E : List Edg) (src dst : List Int) (V : Int) (f : List Int) : Prop where
  len : f.length = E.length
  unit : ∀ x ∈ f, Unit3 x
  out : ∀ S, Sep src dst S → outF S E f = V
theorem FlowI.zero (E : List Edg) (src dst : List Int) : FlowI E src dst 0 (List.replicate E.length 0) :=
  ⟨by simp, fun x hx => by have := (List.mem_replicate.1 hx).2; subst this; exact ⟨by omega, by omega⟩, fun S _ => outF_zero S E _⟩
/-- The least side of all src: none crosses fewer, all that cross as few hold it. -/
structure IsNear (E : List Edg) (src dst : List Int) (N : Int → Bool) : Prop where
  sep : Sep src dst N
  least : ∀ S, Sep src dst S → crossN N E ≤ crossN S E
  first : ∀ S, Sep src dst S → crossN S E = crossN N E → ∀ v, N v = true → S v = true
structure IsFar (E : List Edg) (src dst : List Int) (N : Int → Bool) : Prop where
  sep : Sep src dst N
  least : ∀ S, Sep src dst S → crossN N E ≤ crossN S E
  last : ∀ S, Sep src dst S → crossN S E = crossN N E → ∀ v, S v = true → N v = true
theorem IsNear.unique {E : List Edg} {src dst : List Int} {N M : Int → Bool} (h : IsNear E src dst N) (g : IsNear E src dst M) : N = M := by
  have h1 := h.least M g.sep
  have h2 := g.least N h.sep
  funext v
  have a := h.first M g.sep (by omega) v
  have b := g.first N h.sep (by omega) v
  cases hn : N v <;> cases hm : M v <;> simp_all
/-- A side closed under room: it is crossed by just what the flow carries. -/
theorem closed_cross {E : List Edg} {src dst : List Int} {V : Int} {f : List Int} (h : FlowI E src dst V f) {N : Int → Bool} (hs : Sep src dst N) (hc : ∀ u v, N u = true → Room E f u v → N v = true) : (crossN N E : Int) = V := by
  rw [← h.out N hs]
  symm
  refine outF_filled N E f h.len (fun i e x hi gi hS => ?_)
  have hne : e.1 ≠ e.2 := fun e1 => hS (by rw [e1])
  have hu := h.unit x (List.mem_of_getElem? gi)
  unfold Unit3 at hu
  cases h1 : N e.1 <;> cases h2 : N e.2
  · rw [h1, h2] at hS; exact absurd rfl hS
  · have : x = -1 := by
      by_cases hx : x = -1
      · exact hx
      · have := hc e.2 e.1 h2 ⟨i, x, gi, Ne.symm hne, Or.inr ⟨hi, hx⟩⟩
        rw [h1] at this
        cases this
    subst this
    rfl
  · have : x = 1 := by
      by_cases hx : x = 1
      · exact hx
      · have := hc e.1 e.2 h1 ⟨i, x, gi, hne, Or.inl ⟨hi, hx⟩⟩
        rw [h2] at this
        cases this
    subst this
    rfl
  · rw [h1, h2] at hS; exact absurd rfl hS
/-- A side that is crossed by just what the flow carries is closed under room. -/
theorem full_closed {E : List Edg} {src dst : List Int} {V : Int} {f : List Int} (h : FlowI E src dst V f) {S : Int → Bool} (hs : Sep src dst S) (hV : (crossN S E : Int) = V) {u v : Int} (hu : S u = true) (hr : Room E f u v) : S v = true := by
  obtain ⟨i, x, gi, hne, he⟩ := hr
  have hf := outF_full S E f h.unit h.len (by rw [h.out S hs, hV]; exact Int.le_refl _)
  cases hv : S v
  · exfalso
    rcases he with ⟨hi, hx⟩ | ⟨hi, hx⟩
    · have := hf i _ x hi gi (by simp [hu, hv])
      simp [hu, hv, iB] at this
      exact hx this
    · have := hf i _ x hi gi (by simp [hu, hv])
      simp [hu, hv, iB] at this
      omega
  · rfl
/-- What can be reached. -/
inductive Reach (E : List Edg) (f : List Int) (src : List Int) : Int → Prop
  | start {v : Int} : v ∈ src → Reach E f src v
  | step {u v : Int} : Reach E f src u → Room E f u v → Reach E f src v
/-- From what some of dst can be reached. -/
inductive Leads (E : List Edg) (f : List Int) (dst : List Int) : Int → Prop
  | start {v : Int} : v ∈ dst → Leads E f dst v
  | step {u v : Int} : Leads E f dst v → Room E f u v → Leads E f dst u
theorem isNear_of {E : List Edg} {src dst : List Int} {V : Int} {f : List Int} (h : FlowI E src dst V f) {N : Int → Bool} (hN : ∀ v, N v = true ↔ Reach E f src v) (hd : ∀ v ∈ dst, ¬ Reach E f src v) : IsNear E src dst N ∧ (crossN N E : Int) = V := by
  have hs : Sep src dst N := ⟨fun v hv => (hN v).2 (.start hv), fun v hv => by
    cases e : N v
    · rfl
    · exact absurd ((hN v).1 e) (hd v hv)⟩
  have hc := closed_cross h hs (fun u v hu hr => (hN v).2 (.step ((hN u).1 hu) hr))
  refine ⟨⟨hs, fun S hS => ?_, fun S hS he v hv => ?_⟩, hc⟩
  · have := outF_le S E f h.unit
    rw [h.out S hS] at this
    omega
  · have hr := (hN v).1 hv
    clear hv
    induction hr with
    | start hv => exact hS.1 _ hv
    | step _ hr ih => exact full_closed h hS (by rw [he]; exact hc) ih hr
theorem isFar_of {E : List Edg} {src dst : List Int} {V : Int} {f : List Int} (h : FlowI E src dst V f) {N : Int → Bool} (hN : ∀ v, N v = false ↔ Leads E f dst v) (hd : ∀ v ∈ src, ¬ Leads E f dst v) : IsFar E src dst N ∧ (crossN N E : Int) = V := by
  have hs : Sep src dst N := ⟨fun v hv => by
    cases e : N v
    · exact absurd ((hN v).1 e) (hd v hv)
    · rfl, fun v hv => (hN v).2 (.start hv)⟩
  have hc := closed_cross h hs (fun u v hu hr => by
    cases e : N v
    · have := (hN u).2 (.step ((hN v).1 e) hr)
      rw [hu] at this
      cases this
    · rfl)
  refine ⟨⟨hs, fun S hS => ?_, fun S hS he v hv => ?_⟩, hc⟩
  · have := outF_le S E f h.unit
    rw [h.out S hS] at this
    omega
  · cases e : N v
    · exfalso
      have hr := (hN v).1 e
      clear e
      revert hv
      induction hr with
      | start hd' => intro hv; rw [hS.2 _ hd'] at hv; cases hv
      | step hu hr ih => exact fun hv => ih (full_closed h hS (by rw [he]; exact hc) hv hr)
    · rfl

/-- One more along an edge. -/
theorem outF_link {S : Int → Bool} {E : List Edg} {f : List Int} {i : Nat} {u v x w : Int} (hf : f[i]? = some x) (he : (w = 1 ∧ E[i]? = some (u, v)) ∨ (w = -1 ∧ E[i]? = some (v, u))) : outF S E (f.set i (x + w)) = outF S E f + iB (S u) - iB (S v) := by
  rcases he with ⟨rfl, he⟩ | ⟨rfl, he⟩
  · rw [outF_set S E f i _ x _ he hf]
    simp only
    have : (x + 1 - x) * (iB (S u) - iB (S v)) = iB (S u) - iB (S v) := by rw [show x + 1 - x = 1 by omega, Int.one_mul]
    omega
  · rw [outF_set S E f i _ x _ he hf]
    simp only
    have : (x + -1 - x) * (iB (S v) - iB (S u)) = iB (S u) - iB (S v) := by rw [show x + -1 - x = -1 by omega]; omega
    omega
end Go.Proofs.YtpffhoefmcpniaaGreatDoor

/- Links: an edge seen from one of its ends; readings. -/
namespace Go.Proofs.YtpffhoefmcpniaaGreatDoor
open Go.RowKit

/-- edge, from, to, way -/
structure Lnk where
  e : Nat
  u : Nat
  v : Nat
  y : Int
def lcells : List Lnk → List Value
  | [] => []
  | k :: t => .int .i64 k.e :: .int .i64 k.u :: .int .i64 k.v :: .int .i64 k.y :: lcells t
theorem lcells_len : ∀ l : List Lnk, (lcells l).length = l.length * 4
  | [] => rfl
  | _ :: t => by simp [lcells, lcells_len t]; omega
theorem lcells_app : ∀ l m : List Lnk, lcells (l ++ m) = lcells l ++ lcells m
  | [], _ => rfl
  | p :: t, m => by simp [lcells, lcells_app t m]
theorem lcells_get : ∀ {l : List Lnk} {i : Nat} {p : Lnk}, l[i]? = some p → (lcells l)[i * 4]? = some (.int .i64 p.e) ∧ (lcells l)[i * 4 + 1]? = some (.int .i64 p.u) ∧ (lcells l)[i * 4 + 2]? = some (.int .i64 p.v) ∧ (lcells l)[i * 4 + 3]? = some (.int .i64 p.y)
  | [], i, p, h => by simp at h
  | q :: t, 0, p, h => by simp at h; subst h; simp [lcells]
  | q :: t, i + 1, p, h => by
    have := lcells_get (l := t) (i := i) (p := p) (by simpa using h)
    rw [show (i + 1) * 4 = i * 4 + 1 + 1 + 1 + 1 by omega, show i * 4 + 1 + 1 + 1 + 1 + 1 = (i * 4 + 1) + 1 + 1 + 1 + 1 by omega, show i * 4 + 1 + 1 + 1 + 1 + 2 = (i * 4 + 2) + 1 + 1 + 1 + 1 by omega, show i * 4 + 1 + 1 + 1 + 1 + 3 = (i * 4 + 3) + 1 + 1 + 1 + 1 by omega]
    simpa [lcells] using this
theorem lcells_one (l : List Lnk) : ∀ u ∈ lcells l, u.oneCell' = true := by
  induction l with
  | nil => intro u hu; cases hu
  | cons k t ih =>
    intro u hu
    simp only [lcells, List.mem_cons] at hu
    rcases hu with rfl | rfl | rfl | rfl | hu
    · rfl
    · rfl
    · rfl
    · rfl
    · exact ih u hu
/-- A slice of links reads as l. -/
def RdL (w : World) (A : Option Addr) (n : Nat) (l : List Lnk) : Prop :=
  l.length = n ∧ ∀ i x, l[i]? = some x → ∃ b o, A = some ⟨b, o, none⟩ ∧ w.cell? ⟨b, o + i * 4, none⟩ = some (.int .i64 x.e) ∧ w.cell? ⟨b, o + i * 4 + 1, none⟩ = some (.int .i64 x.u) ∧ w.cell? ⟨b, o + i * 4 + 2, none⟩ = some (.int .i64 x.v) ∧ w.cell? ⟨b, o + i * 4 + 3, none⟩ = some (.int .i64 x.y)
theorem RdL.at_ {w : World} {A : Option Addr} {n i : Nat} {l : List Lnk} (h : RdL w A n l) (hi : i < n) :
    ∃ b o x, A = some ⟨b, o, none⟩ ∧ l[i]? = some x ∧ w.cell? ⟨b, o + i * 4, none⟩ = some (.int .i64 x.e) ∧ w.cell? ⟨b, o + i * 4 + 1, none⟩ = some (.int .i64 x.u) ∧ w.cell? ⟨b, o + i * 4 + 2, none⟩ = some (.int .i64 x.v) ∧ w.cell? ⟨b, o + i * 4 + 3, none⟩ = some (.int .i64 x.y) := by
  have hl : i < l.length := by rw [h.1]; exact hi
  obtain ⟨b, o, e, hc⟩ := h.2 i _ (List.getElem?_eq_getElem hl)
  exact ⟨b, o, _, e, List.getElem?_eq_getElem hl, hc⟩
theorem RdL.below {w w' : World} {A : Option Addr} {n : Nat} {l : List Lnk} (h : RdL w A n l) (hb : Below w.heap.size w w') : RdL w' A n l :=
  ⟨h.1, fun i x hx => by
    obtain ⟨b, o, e, h1, h2, h3, h4⟩ := h.2 i x hx
    exact ⟨b, o, e, Below.cellOf hb (Nat.le_refl _) h1, Below.cellOf hb (Nat.le_refl _) h2, Below.cellOf hb (Nat.le_refl _) h3, Below.cellOf hb (Nat.le_refl _) h4⟩⟩
theorem Rds.rdL {w : World} {n : Nat} {A : Option Addr} {l : List Lnk} (h : Rds w 4 A n (lcells l)) : RdL w A n l :=
  ⟨by have := h.1; rw [lcells_len] at this; omega, fun i p hp => by
    obtain ⟨h1, h2, h3, h4⟩ := lcells_get hp
    obtain ⟨b, o, e, c1⟩ := h.2 _ _ h1
    obtain ⟨b', o', e', c2⟩ := h.2 _ _ h2
    rw [e] at e'; cases e'
    obtain ⟨b', o', e', c3⟩ := h.2 _ _ h3
    rw [e] at e'; cases e'
    obtain ⟨b', o', e', c4⟩ := h.2 _ _ h4
    rw [e] at e'; cases e'
    exact ⟨b, o, e, c1, by rw [Nat.add_assoc]; exact c2, by rw [Nat.add_assoc]; exact c3, by rw [Nat.add_assoc]; exact c4⟩⟩
/-- Of each vertex its links. -/
def RdN (w : World) (A : Option Addr) (n : Nat) (ls : List (List Lnk)) : Prop :=
  ls.length = n ∧ ∀ i l, ls[i]? = some l → ∃ b o A' c', A = some ⟨b, o, none⟩ ∧ w.cell? ⟨b, o + i, none⟩ = some (.slice A' l.length c') ∧ RdL w A' l.length l ∧ l.length ≤ c' ∧ c' ≤ 9223372036854775807
theorem RdN.at_ {w : World} {A : Option Addr} {n i : Nat} {ls : List (List Lnk)} (h : RdN w A n ls) (hi : i < n) :
    ∃ b o A' c' l, A = some ⟨b, o, none⟩ ∧ ls[i]? = some l ∧ w.cell? ⟨b, o + i, none⟩ = some (.slice A' l.length c') ∧ RdL w A' l.length l ∧ l.length ≤ c' ∧ c' ≤ 9223372036854775807 := by
  have hl : i < ls.length := by rw [h.1]; exact hi
  obtain ⟨b, o, A', c', h1, h2, h3, h4, h5⟩ := h.2 i _ (List.getElem?_eq_getElem hl)
  exact ⟨b, o, A', c', _, h1, List.getElem?_eq_getElem hl, h2, h3, h4, h5⟩
theorem RdN.below {w w' : World} {A : Option Addr} {n : Nat} {ls : List (List Lnk)} (h : RdN w A n ls) (hb : Below w.heap.size w w') : RdN w' A n ls :=
  ⟨h.1, fun i l hl => by
    obtain ⟨b, o, A', c', h1, h2, h3, h4, h5⟩ := h.2 i l hl
    exact ⟨b, o, A', c', h1, Below.cellOf hb (Nat.le_refl _) h2, h3.below hb, h4, h5⟩⟩

/-- ls are the links of the edges E between n vertices. -/
structure LinksOf (n : Nat) (E : List Edg) (ls : List (List Lnk)) : Prop where
  len : ls.length = n
  sound : ∀ (a : Nat) (l : List Lnk) (k : Lnk), ls[a]? = some l → k ∈ l → k.u = a ∧ k.v < n ∧ k.u ≠ k.v ∧ ((k.y = 1 ∧ E[k.e]? = some ((k.u : Int), (k.v : Int))) ∨ (k.y = -1 ∧ E[k.e]? = some ((k.v : Int), (k.u : Int))))
  full : ∀ (i : Nat) (a b : Nat), E[i]? = some ((a : Int), (b : Int)) → a ≠ b → a < n → b < n → (∃ l, ls[a]? = some l ∧ (⟨i, a, b, 1⟩ : Lnk) ∈ l) ∧ ∃ l, ls[b]? = some l ∧ (⟨i, b, a, -1⟩ : Lnk) ∈ l
/-- The links, as they come. -/
def addLink (ls : List (List Lnk)) (k : Lnk) : List (List Lnk) := ls.set k.u (ls.getD k.u [] ++ [k])
def addEdge (ls : List (List Lnk)) (i a b : Nat) : List (List Lnk) := if a = b then ls else addLink (addLink ls ⟨i, a, b, 1⟩) ⟨i, b, a, -1⟩
theorem addLink_len (ls : List (List Lnk)) (k : Lnk) : (addLink ls k).length = ls.length := by simp [addLink]
theorem addLink_get {ls : List (List Lnk)} {k : Lnk} (hk : k.u < ls.length) (a : Nat) (l : List Lnk) : (addLink ls k)[a]? = some l ↔ (a = k.u ∧ ∃ l', ls[k.u]? = some l' ∧ l = l' ++ [k]) ∨ (a ≠ k.u ∧ ls[a]? = some l) := by
  unfold addLink
  by_cases h : k.u = a
  · subst h
    rw [List.getElem?_set_self hk, List.getD_eq_getElem?_getD, List.getElem?_eq_getElem hk]
    simp [eq_comm]
  · rw [List.getElem?_set_ne h]
    simp [Ne.symm h]
/-- Links of some edges are links of more. -/
def LkS (n : Nat) (E : List Edg) (ls : List (List Lnk)) : Prop :=
  ls.length = n ∧ ∀ (a : Nat) (l : List Lnk) (k : Lnk), ls[a]? = some l → k ∈ l → k.u = a ∧ k.v < n ∧ k.u ≠ k.v ∧ ((k.y = 1 ∧ E[k.e]? = some ((k.u : Int), (k.v : Int))) ∨ (k.y = -1 ∧ E[k.e]? = some ((k.v : Int), (k.u : Int))))
theorem LkS.add {n : Nat} {E : List Edg} {ls : List (List Lnk)} {k : Lnk} (h : LkS n E ls) (hu : k.u < n) (hv : k.v < n) (hne : k.u ≠ k.v) (he : (k.y = 1 ∧ E[k.e]? = some ((k.u : Int), (k.v : Int))) ∨ (k.y = -1 ∧ E[k.e]? = some ((k.v : Int), (k.u : Int)))) : LkS n E (addLink ls k) := by
  refine ⟨by rw [addLink_len]; exact h.1, fun a l k' hl hk' => ?_⟩
  rcases (addLink_get (by rw [h.1]; exact hu) a l).1 hl with ⟨rfl, l', hl', rfl⟩ | ⟨_, hl'⟩
  · rcases List.mem_append.1 hk' with h1 | h1
    · exact h.2 _ l' k' hl' h1
    · rw [List.mem_singleton.1 h1]
      exact ⟨rfl, hv, hne, he⟩
  · exact h.2 a l k' hl' hk'
theorem mem_addLink {ls : List (List Lnk)} {k k' : Lnk} {a : Nat} (hk : k.u < ls.length) (h : ∃ l, ls[a]? = some l ∧ k' ∈ l) : ∃ l, (addLink ls k)[a]? = some l ∧ k' ∈ l := by
  obtain ⟨l, hl, hm⟩ := h
  by_cases e : a = k.u
  · subst e
    exact ⟨l ++ [k], (addLink_get hk _ _).2 (.inl ⟨rfl, l, hl, rfl⟩), List.mem_append_left _ hm⟩
  · exact ⟨l, (addLink_get hk _ _).2 (.inr ⟨e, hl⟩), hm⟩
theorem mem_addLink_new {ls : List (List Lnk)} {k : Lnk} (hk : k.u < ls.length) : ∃ l, (addLink ls k)[k.u]? = some l ∧ k ∈ l :=
  ⟨_, (addLink_get hk _ _).2 (.inl ⟨rfl, _, List.getElem?_eq_getElem hk, rfl⟩), by simp⟩
/-- What is laid of the first i edges. -/
def LkP (n : Nat) (E : List Edg) (i : Nat) (ls : List (List Lnk)) : Prop :=
  LkS n E ls ∧ ∀ (j a b : Nat), j < i → E[j]? = some ((a : Int), (b : Int)) → a ≠ b → a < n → b < n → (∃ l, ls[a]? = some l ∧ (⟨j, a, b, 1⟩ : Lnk) ∈ l) ∧ ∃ l, ls[b]? = some l ∧ (⟨j, b, a, -1⟩ : Lnk) ∈ l
theorem LkP.start (n : Nat) (E : List Edg) : LkP n E 0 (List.replicate n []) := ⟨⟨by simp, fun a l k hl hk => by
    have := (List.mem_replicate.1 (List.mem_of_getElem? hl)).2
    subst this
    cases hk⟩, fun _ _ _ h => absurd h (by omega)⟩
theorem LkP.next {n : Nat} {E : List Edg} {i a b : Nat} {ls : List (List Lnk)} (h : LkP n E i ls) (he : E[i]? = some ((a : Int), (b : Int))) (ha : a < n) (hb : b < n) : LkP n E (i + 1) (addEdge ls i a b) := by
  unfold addEdge
  have hl := h.1.1
  by_cases hab : a = b
  · rw [if_pos hab]
    refine ⟨h.1, fun j a' b' hj hE hne h1 h2 => ?_⟩
    rcases Nat.lt_or_ge j i with h3 | h3
    · exact h.2 j a' b' h3 hE hne h1 h2
    · obtain rfl : j = i := by omega
      rw [he] at hE
      simp at hE
      omega
  · rw [if_neg hab]
    have k1 : (⟨i, a, b, 1⟩ : Lnk).u < ls.length := by rw [hl]; exact ha
    have k2 : (⟨i, b, a, -1⟩ : Lnk).u < (addLink ls ⟨i, a, b, 1⟩).length := by rw [addLink_len, hl]; exact hb
    refine ⟨(h.1.add (k := ⟨i, a, b, 1⟩) ha hb hab (.inl ⟨rfl, he⟩)).add (k := ⟨i, b, a, -1⟩) hb ha (Ne.symm hab) (.inr ⟨rfl, he⟩), fun j a' b' hj hE hne h1 h2 => ?_⟩
    rcases Nat.lt_or_ge j i with h3 | h3
    · obtain ⟨g1, g2⟩ := h.2 j a' b' h3 hE hne h1 h2
      exact ⟨mem_addLink k2 (mem_addLink k1 g1), mem_addLink k2 (mem_addLink k1 g2)⟩
    · obtain rfl : j = i := by omega
      rw [he] at hE
      simp at hE
      obtain ⟨rfl, rfl⟩ : a = a' ∧ b = b' := by omega
      exact ⟨mem_addLink k2 (mem_addLink_new k1), mem_addLink_new k2⟩
theorem LkP.all {n : Nat} {E : List Edg} {ls : List (List Lnk)} (h : LkP n E E.length ls) : LinksOf n E ls :=
  ⟨h.1.1, h.1.2, fun i a b he hne ha hb => h.2 i a b (List.getElem?_eq_some_iff.1 he).1 he hne ha hb⟩
end Go.Proofs.YtpffhoefmcpniaaGreatDoor
