/- Parts of the proof: QFlP, QFlV, QFl1. -/
import Derived.Test.YtpffhoefmcpniaaGreatDoorB1
import Derived.Test.YtpffhoefmcpniaaGreatDoorB2
namespace Go.Proofs.YtpffhoefmcpniaaGreatDoor
open Go.RowKit

abbrev Edg := Int × Int
def iB (b : Bool) : Int := if b then 1 else 0
def outF (S : Int → Bool) : List Edg → List Int → Int
 | e :: E, x :: f => x * (iB (S e.1) - iB (S e.2)) + outF S E f
 | _, _ => 0
def crossN (S : Int → Bool) : List Edg → Nat
 | [] => 0
 | e :: E => (if S e.1 = S e.2 then 0 else 1) + crossN S E
theorem crossN_le (S : Int → Bool) : ∀ E : List Edg, crossN S E ≤ E.length
 | [] => Nat.le_refl _
 | e :: E => by
  have := crossN_le S E
  unfold crossN
  split <;> simp only [List.length_cons] <;> omega
def Unit3 (x : Int) : Prop := -1 ≤ x ∧ x ≤ 1
theorem outF_zero (S : Int → Bool) : ∀ (E : List Edg) (n : Nat), outF S E (List.replicate n 0) = 0
 | [], n => by cases n <;> simp [outF]
 | e :: E, 0 => by simp [outF]
 | e :: E, n + 1 => by
  rw [List.replicate_succ]
  unfold outF
  rw [outF_zero S E n]
  simp
theorem outF_set (S : Int → Bool) : ∀ (E : List Edg) (f : List Int) (i : Nat) (e : Edg) (x y : Int), E[i]? = some e → f[i]? = some x → outF S E (f.set i y) = outF S E f + (y - x) * (iB (S e.1) - iB (S e.2))
 | [], _, i, e, x, y, h, _ => by simp at h
 | _ :: _, [], i, e, x, y, _, h => by simp at h
 | d :: E, z :: f, 0, e, x, y, h, g => by
  simp at h g
  subst h; subst g
  simp only [List.set_cons_zero]
  unfold outF
  rw [Int.sub_mul]
  omega
 | d :: E, z :: f, i + 1, e, x, y, h, g => by
  simp only [List.set_cons_succ]
  unfold outF
  rw [outF_set S E f i e x y (by simpa using h) (by simpa using g)]
  omega
theorem edge_le {x : Int} {a b : Bool} (hx : Unit3 x) : x * (iB a - iB b) ≤ (if a = b then 0 else 1 : Nat) := by
 unfold Unit3 at hx
 cases a <;> cases b <;> simp [iB] <;> omega
theorem outF_le (S : Int → Bool) : ∀ (E : List Edg) (f : List Int), (∀ x ∈ f, Unit3 x) → outF S E f ≤ crossN S E
 | [], f, _ => by cases f <;> simp [outF, crossN]
 | e :: E, [], _ => by simp [outF]
 | e :: E, x :: f, h => by
  have h1 := outF_le S E f (fun y hy => h y (List.mem_cons_of_mem _ hy))
  have h2 := edge_le (a := S e.1) (b := S e.2) (h x List.mem_cons_self)
  unfold outF crossN
  push_cast
  omega
theorem outF_full (S : Int → Bool) : ∀ (E : List Edg) (f : List Int), (∀ x ∈ f, Unit3 x) → f.length = E.length → (crossN S E : Int) ≤ outF S E f → ∀ (i : Nat) (e : Edg) (x : Int), E[i]? = some e → f[i]? = some x → S e.1 ≠ S e.2 → x * (iB (S e.1) - iB (S e.2)) = 1
 | [], f, _, _, _, i, e, x, h, _, _ => by simp at h
 | d :: E, [], _, hl, _, i, e, x, _, _, _ => by simp at hl
 | d :: E, z :: f, h, hl, hf, i, e, x, hi, gi, hS => by
  have h1 := outF_le S E f (fun y hy => h y (List.mem_cons_of_mem _ hy))
  have h2 := edge_le (a := S d.1) (b := S d.2) (h z List.mem_cons_self)
  unfold outF crossN at hf
  push_cast at hf
  cases i with
  | zero =>
   simp at hi gi
   subst hi; subst gi
   rw [if_neg hS] at h2 hf
   simp at h2 hf
   omega
  | succ i =>
   refine outF_full S E f (fun y hy => h y (List.mem_cons_of_mem _ hy)) (by simpa using hl) ?_ i e x (by simpa using hi) (by simpa using gi) hS
   omega
theorem outF_filled (S : Int → Bool) : ∀ (E : List Edg) (f : List Int), f.length = E.length → (∀ (i : Nat) (e : Edg) (x : Int), E[i]? = some e → f[i]? = some x → S e.1 ≠ S e.2 → x * (iB (S e.1) - iB (S e.2)) = 1) → outF S E f = crossN S E
 | [], f, _, _ => by cases f <;> simp [outF, crossN]
 | d :: E, [], hl, _ => by simp at hl
 | d :: E, z :: f, hl, h => by
  have ih := outF_filled S E f (by simpa using hl) (fun i e x hi gi => h (i + 1) e x (by simpa using hi) (by simpa using gi))
  unfold outF crossN
  push_cast
  rw [ih]
  by_cases hS : S d.1 = S d.2
  · rw [if_pos hS, hS]; simp
  · rw [if_neg hS, h 0 d z rfl rfl hS]; simp

def Sep (src dst : List Int) (S : Int → Bool) : Prop := (∀ v ∈ src, S v = true) ∧ ∀ v ∈ dst, S v = false
def Room (E : List Edg) (f : List Int) (u v : Int) : Prop := ∃ (i : Nat) (x : Int), f[i]? = some x ∧ u ≠ v ∧ ((E[i]? = some (u, v) ∧ x ≠ 1) ∨ (E[i]? = some (v, u) ∧ x ≠ -1))
structure FlowI (E : List Edg) (src dst : List Int) (V : Int) (f : List Int) : Prop where
 len : f.length = E.length
 unit : ∀ x ∈ f, Unit3 x
 out : ∀ S, Sep src dst S → outF S E f = V
theorem FlowI.zero (E : List Edg) (src dst : List Int) : FlowI E src dst 0 (List.replicate E.length 0) :=
 ⟨by simp, fun x hx => by have := (List.mem_replicate.1 hx).2; subst this; exact ⟨by omega, by omega⟩, fun S _ => outF_zero S E _⟩
structure IsNear (E : List Edg) (src dst : List Int) (N : Int → Bool) : Prop where
 sep : Sep src dst N
 least : ∀ S, Sep src dst S → crossN N E ≤ crossN S E
 first : ∀ S, Sep src dst S → crossN S E = crossN N E → ∀ v, N v = true → S v = true
structure IsFar (E : List Edg) (src dst : List Int) (N : Int → Bool) : Prop where
 sep : Sep src dst N
 least : ∀ S, Sep src dst S → crossN N E ≤ crossN S E
 last : ∀ S, Sep src dst S → crossN S E = crossN N E → ∀ v, S v = true → N v = true
theorem closed_cross {E : List Edg} {src dst : List Int} {V : Int} {f : List Int} (h : FlowI E src dst V f) {N : Int → Bool} (hs : Sep src dst N) (hc : ∀ u v, N u = true → Room E f u v → N v = true) : (crossN N E : Int) = V := by
 rw [← h.out N hs]
 symm
 refine outF_filled N E f h.len (fun i e x hi gi hS => ?_)
 have hne : e.1 ≠ e.2 := fun e1 => hS (by rw [e1])
 have hu := h.unit x (List.mem_of_getElem? gi)
 unfold Unit3 at hu
 cases h1 : N e.1 <;> cases h2 : N e.2
 · rw [h1, h2] at hS; exact absurd rfl hS
 · have : x = -1 := by
    by_cases hx : x = -1
    · exact hx
    · have := hc e.2 e.1 h2 ⟨i, x, gi, Ne.symm hne, Or.inr ⟨hi, hx⟩⟩
      rw [h1] at this
      cases this
   subst this
   rfl
 · have : x = 1 := by
    by_cases hx : x = 1
    · exact hx
    · have := hc e.1 e.2 h1 ⟨i, x, gi, hne, Or.inl ⟨hi, hx⟩⟩
      rw [h2] at this
      cases this
   subst this
   rfl
 · rw [h1, h2] at hS; exact absurd rfl hS
theorem full_closed {E : List Edg} {src dst : List Int} {V : Int} {f : List Int} (h : FlowI E src dst V f) {S : Int → Bool} (hs : Sep src dst S) (hV : (crossN S E : Int) = V) {u v : Int} (hu : S u = true) (hr : Room E f u v) : S v = true := by
 obtain ⟨i, x, gi, hne, he⟩ := hr
 have hf := outF_full S E f h.unit h.len (by rw [h.out S hs, hV]; exact Int.le_refl _)
 cases hv : S v
 · exfalso
   rcases he with ⟨hi, hx⟩ | ⟨hi, hx⟩
   · have := hf i _ x hi gi (by simp [hu, hv])
     simp [hu, hv, iB] at this
     exact hx this
   · have := hf i _ x hi gi (by simp [hu, hv])
     simp [hu, hv, iB] at this
     omega
 · rfl
inductive Reach (E : List Edg) (f : List Int) (src : List Int) : Int → Prop
 | start {v : Int} : v ∈ src → Reach E f src v
 | step {u v : Int} : Reach E f src u → Room E f u v → Reach E f src v
inductive Leads (E : List Edg) (f : List Int) (dst : List Int) : Int → Prop
 | start {v : Int} : v ∈ dst → Leads E f dst v
 | step {u v : Int} : Leads E f dst v → Room E f u v → Leads E f dst u
theorem isNear_of {E : List Edg} {src dst : List Int} {V : Int} {f : List Int} (h : FlowI E src dst V f) {N : Int → Bool} (hN : ∀ v, N v = true ↔ Reach E f src v) (hd : ∀ v ∈ dst, ¬ Reach E f src v) : IsNear E src dst N ∧ (crossN N E : Int) = V := by
 have hs : Sep src dst N := ⟨fun v hv => (hN v).2 (.start hv), fun v hv => by
  cases e : N v
  · rfl
  · exact absurd ((hN v).1 e) (hd v hv)⟩
 have hc := closed_cross h hs (fun u v hu hr => (hN v).2 (.step ((hN u).1 hu) hr))
 refine ⟨⟨hs, fun S hS => ?_, fun S hS he v hv => ?_⟩, hc⟩
 · have := outF_le S E f h.unit
   rw [h.out S hS] at this
   omega
 · have hr := (hN v).1 hv
   clear hv
   induction hr with
   | start hv => exact hS.1 _ hv
   | step _ hr ih => exact full_closed h hS (by rw [he]; exact hc) ih hr
theorem isFar_of {E : List Edg} {src dst : List Int} {V : Int} {f : List Int} (h : FlowI E src dst V f) {N : Int → Bool} (hN : ∀ v, N v = false ↔ Leads E f dst v) (hd : ∀ v ∈ src, ¬ Leads E f dst v) : IsFar E src dst N ∧ (crossN N E : Int) = V := by
 have hs : Sep src dst N := ⟨fun v hv => by
  cases e : N v
  · exact absurd ((hN v).1 e) (hd v hv)
  · rfl, fun v hv => (hN v).2 (.start hv)⟩
 have hc := closed_cross h hs (fun u v hu hr => by
  cases e : N v
  · have := (hN u).2 (.step ((hN v).1 e) hr)
    rw [hu] at this
    cases this
  · rfl)
 refine ⟨⟨hs, fun S hS => ?_, fun S hS he v hv => ?_⟩, hc⟩
 · have := outF_le S E f h.unit
   rw [h.out S hS] at this
   omega
 · cases e : N v
   · exfalso
     have hr := (hN v).1 e
     clear e
     revert hv
     induction hr with
     | start hd' => intro hv; rw [hS.2 _ hd'] at hv; cases hv
     | step hu hr ih => exact fun hv => ih (full_closed h hS (by rw [he]; exact hc) hv hr)
   · rfl

theorem outF_link {S : Int → Bool} {E : List Edg} {f : List Int} {i : Nat} {u v x w : Int} (hf : f[i]? = some x) (he : (w = 1 ∧ E[i]? = some (u, v)) ∨ (w = -1 ∧ E[i]? = some (v, u))) : outF S E (f.set i (x + w)) = outF S E f + iB (S u) - iB (S v) := by
 rcases he with ⟨rfl, he⟩ | ⟨rfl, he⟩
 · rw [outF_set S E f i _ x _ he hf]
   simp only
   have : (x + 1 - x) * (iB (S u) - iB (S v)) = iB (S u) - iB (S v) := by rw [show x + 1 - x = 1 by omega, Int.one_mul]
   omega
 · rw [outF_set S E f i _ x _ he hf]
   simp only
   have : (x + -1 - x) * (iB (S v) - iB (S u)) = iB (S u) - iB (S v) := by rw [show x + -1 - x = -1 by omega]; omega
   omega
end Go.Proofs.YtpffhoefmcpniaaGreatDoor

namespace Go.Proofs.YtpffhoefmcpniaaGreatDoor
open Go.RowKit

structure Lnk where
 e : Nat
 u : Nat
 v : Nat
 y : Int
def lcells : List Lnk → List Value
 | [] => []
 | k :: t => .int .i64 k.e :: .int .i64 k.u :: .int .i64 k.v :: .int .i64 k.y :: lcells t
theorem lcells_len : ∀ l : List Lnk, (lcells l).length = l.length * 4
 | [] => rfl
 | _ :: t => by simp [lcells, lcells_len t]; omega
theorem lcells_app : ∀ l m : List Lnk, lcells (l ++ m) = lcells l ++ lcells m
 | [], _ => rfl
 | p :: t, m => by simp [lcells, lcells_app t m]
theorem lcells_get : ∀ {l : List Lnk} {i : Nat} {p : Lnk}, l[i]? = some p → (lcells l)[i * 4]? = some (.int .i64 p.e) ∧ (lcells l)[i * 4 + 1]? = some (.int .i64 p.u) ∧ (lcells l)[i * 4 + 2]? = some (.int .i64 p.v) ∧ (lcells l)[i * 4 + 3]? = some (.int .i64 p.y)
 | [], i, p, h => by simp at h
 | q :: t, 0, p, h => by simp at h; subst h; simp [lcells]
 | q :: t, i + 1, p, h => by
  have := lcells_get (l := t) (i := i) (p := p) (by simpa using h)
  rw [show (i + 1) * 4 = i * 4 + 1 + 1 + 1 + 1 by omega, show i * 4 + 1 + 1 + 1 + 1 + 1 = (i * 4 + 1) + 1 + 1 + 1 + 1 by omega, show i * 4 + 1 + 1 + 1 + 1 + 2 = (i * 4 + 2) + 1 + 1 + 1 + 1 by omega, show i * 4 + 1 + 1 + 1 + 1 + 3 = (i * 4 + 3) + 1 + 1 + 1 + 1 by omega]
  simpa [lcells] using this
def RdL (w : World) (A : Option Addr) (n : Nat) (l : List Lnk) : Prop :=
 l.length = n ∧ ∀ i x, l[i]? = some x → ∃ b o, A = some ⟨b, o, none⟩ ∧ w.cell? ⟨b, o + i * 4, none⟩ = some (.int .i64 x.e) ∧ w.cell? ⟨b, o + i * 4 + 1, none⟩ = some (.int .i64 x.u) ∧ w.cell? ⟨b, o + i * 4 + 2, none⟩ = some (.int .i64 x.v) ∧ w.cell? ⟨b, o + i * 4 + 3, none⟩ = some (.int .i64 x.y)
theorem RdL.at_ {w : World} {A : Option Addr} {n i : Nat} {l : List Lnk} (h : RdL w A n l) (hi : i < n) :
 ∃ b o x, A = some ⟨b, o, none⟩ ∧ l[i]? = some x ∧ w.cell? ⟨b, o + i * 4, none⟩ = some (.int .i64 x.e) ∧ w.cell? ⟨b, o + i * 4 + 1, none⟩ = some (.int .i64 x.u) ∧ w.cell? ⟨b, o + i * 4 + 2, none⟩ = some (.int .i64 x.v) ∧ w.cell? ⟨b, o + i * 4 + 3, none⟩ = some (.int .i64 x.y) := by
 have hl : i < l.length := by rw [h.1]; exact hi
 obtain ⟨b, o, e, hc⟩ := h.2 i _ (List.getElem?_eq_getElem hl)
 exact ⟨b, o, _, e, List.getElem?_eq_getElem hl, hc⟩
theorem RdL.below {w w' : World} {A : Option Addr} {n : Nat} {l : List Lnk} (h : RdL w A n l) (hb : Below w.heap.size w w') : RdL w' A n l :=
 ⟨h.1, fun i x hx => by
  obtain ⟨b, o, e, h1, h2, h3, h4⟩ := h.2 i x hx
  exact ⟨b, o, e, Below.cellOf hb (Nat.le_refl _) h1, Below.cellOf hb (Nat.le_refl _) h2, Below.cellOf hb (Nat.le_refl _) h3, Below.cellOf hb (Nat.le_refl _) h4⟩⟩
theorem Rds.rdL {w : World} {n : Nat} {A : Option Addr} {l : List Lnk} (h : Rds w 4 A n (lcells l)) : RdL w A n l :=
 ⟨by have := h.1; rw [lcells_len] at this; omega, fun i p hp => by
  obtain ⟨h1, h2, h3, h4⟩ := lcells_get hp
  obtain ⟨b, o, e, c1⟩ := h.2 _ _ h1
  obtain ⟨b', o', e', c2⟩ := h.2 _ _ h2
  rw [e] at e'; cases e'
  obtain ⟨b', o', e', c3⟩ := h.2 _ _ h3
  rw [e] at e'; cases e'
  obtain ⟨b', o', e', c4⟩ := h.2 _ _ h4
  rw [e] at e'; cases e'
  exact ⟨b, o, e, c1, by rw [Nat.add_assoc]; exact c2, by rw [Nat.add_assoc]; exact c3, by rw [Nat.add_assoc]; exact c4⟩⟩
def RdN (w : World) (A : Option Addr) (n : Nat) (ls : List (List Lnk)) : Prop :=
 ls.length = n ∧ ∀ i l, ls[i]? = some l → ∃ b o A' c', A = some ⟨b, o, none⟩ ∧ w.cell? ⟨b, o + i, none⟩ = some (.slice A' l.length c') ∧ RdL w A' l.length l ∧ l.length ≤ c' ∧ c' ≤ 9223372036854775807
theorem RdN.at_ {w : World} {A : Option Addr} {n i : Nat} {ls : List (List Lnk)} (h : RdN w A n ls) (hi : i < n) :
 ∃ b o A' c' l, A = some ⟨b, o, none⟩ ∧ ls[i]? = some l ∧ w.cell? ⟨b, o + i, none⟩ = some (.slice A' l.length c') ∧ RdL w A' l.length l ∧ l.length ≤ c' ∧ c' ≤ 9223372036854775807 := by
 have hl : i < ls.length := by rw [h.1]; exact hi
 obtain ⟨b, o, A', c', h1, h2, h3, h4, h5⟩ := h.2 i _ (List.getElem?_eq_getElem hl)
 exact ⟨b, o, A', c', _, h1, List.getElem?_eq_getElem hl, h2, h3, h4, h5⟩
theorem RdN.below {w w' : World} {A : Option Addr} {n : Nat} {ls : List (List Lnk)} (h : RdN w A n ls) (hb : Below w.heap.size w w') : RdN w' A n ls :=
 ⟨h.1, fun i l hl => by
  obtain ⟨b, o, A', c', h1, h2, h3, h4, h5⟩ := h.2 i l hl
  exact ⟨b, o, A', c', h1, Below.cellOf hb (Nat.le_refl _) h2, h3.below hb, h4, h5⟩⟩

structure LinksOf (n : Nat) (E : List Edg) (ls : List (List Lnk)) : Prop where
 len : ls.length = n
 sound : ∀ (a : Nat) (l : List Lnk) (k : Lnk), ls[a]? = some l → k ∈ l → k.u = a ∧ k.v < n ∧ k.u ≠ k.v ∧ ((k.y = 1 ∧ E[k.e]? = some ((k.u : Int), (k.v : Int))) ∨ (k.y = -1 ∧ E[k.e]? = some ((k.v : Int), (k.u : Int))))
 full : ∀ (i : Nat) (a b : Nat), E[i]? = some ((a : Int), (b : Int)) → a ≠ b → a < n → b < n → (∃ l, ls[a]? = some l ∧ (⟨i, a, b, 1⟩ : Lnk) ∈ l) ∧ ∃ l, ls[b]? = some l ∧ (⟨i, b, a, -1⟩ : Lnk) ∈ l
def addLink (ls : List (List Lnk)) (k : Lnk) : List (List Lnk) := ls.set k.u (ls.getD k.u [] ++ [k])
def addEdge (ls : List (List Lnk)) (i a b : Nat) : List (List Lnk) := if a = b then ls else addLink (addLink ls ⟨i, a, b, 1⟩) ⟨i, b, a, -1⟩
theorem addLink_len (ls : List (List Lnk)) (k : Lnk) : (addLink ls k).length = ls.length := by simp [addLink]
theorem addLink_get {ls : List (List Lnk)} {k : Lnk} (hk : k.u < ls.length) (a : Nat) (l : List Lnk) : (addLink ls k)[a]? = some l ↔ (a = k.u ∧ ∃ l', ls[k.u]? = some l' ∧ l = l' ++ [k]) ∨ (a ≠ k.u ∧ ls[a]? = some l) := by
 unfold addLink
 by_cases h : k.u = a
 · subst h
   rw [List.getElem?_set_self hk, List.getD_eq_getElem?_getD, List.getElem?_eq_getElem hk]
   simp [eq_comm]
 · rw [List.getElem?_set_ne h]
   simp [Ne.symm h]
def LkS (n : Nat) (E : List Edg) (ls : List (List Lnk)) : Prop :=
 ls.length = n ∧ ∀ (a : Nat) (l : List Lnk) (k : Lnk), ls[a]? = some l → k ∈ l → k.u = a ∧ k.v < n ∧ k.u ≠ k.v ∧ ((k.y = 1 ∧ E[k.e]? = some ((k.u : Int), (k.v : Int))) ∨ (k.y = -1 ∧ E[k.e]? = some ((k.v : Int), (k.u : Int))))
theorem LkS.add {n : Nat} {E : List Edg} {ls : List (List Lnk)} {k : Lnk} (h : LkS n E ls) (hu : k.u < n) (hv : k.v < n) (hne : k.u ≠ k.v) (he : (k.y = 1 ∧ E[k.e]? = some ((k.u : Int), (k.v : Int))) ∨ (k.y = -1 ∧ E[k.e]? = some ((k.v : Int), (k.u : Int)))) : LkS n E (addLink ls k) := by
 refine ⟨by rw [addLink_len]; exact h.1, fun a l k' hl hk' => ?_⟩
 rcases (addLink_get (by rw [h.1]; exact hu) a l).1 hl with ⟨rfl, l', hl', rfl⟩ | ⟨_, hl'⟩
 · rcases List.mem_append.1 hk' with h1 | h1
   · exact h.2 _ l' k' hl' h1
   · rw [List.mem_singleton.1 h1]
     exact ⟨rfl, hv, hne, he⟩
 · exact h.2 a l k' hl' hk'
theorem mem_addLink {ls : List (List Lnk)} {k k' : Lnk} {a : Nat} (hk : k.u < ls.length) (h : ∃ l, ls[a]? = some l ∧ k' ∈ l) : ∃ l, (addLink ls k)[a]? = some l ∧ k' ∈ l := by
 obtain ⟨l, hl, hm⟩ := h
 by_cases e : a = k.u
 · subst e
   exact ⟨l ++ [k], (addLink_get hk _ _).2 (.inl ⟨rfl, l, hl, rfl⟩), List.mem_append_left _ hm⟩
 · exact ⟨l, (addLink_get hk _ _).2 (.inr ⟨e, hl⟩), hm⟩
theorem mem_addLink_new {ls : List (List Lnk)} {k : Lnk} (hk : k.u < ls.length) : ∃ l, (addLink ls k)[k.u]? = some l ∧ k ∈ l :=
 ⟨_, (addLink_get hk _ _).2 (.inl ⟨rfl, _, List.getElem?_eq_getElem hk, rfl⟩), by simp⟩
def LkP (n : Nat) (E : List Edg) (i : Nat) (ls : List (List Lnk)) : Prop :=
 LkS n E ls ∧ ∀ (j a b : Nat), j < i → E[j]? = some ((a : Int), (b : Int)) → a ≠ b → a < n → b < n → (∃ l, ls[a]? = some l ∧ (⟨j, a, b, 1⟩ : Lnk) ∈ l) ∧ ∃ l, ls[b]? = some l ∧ (⟨j, b, a, -1⟩ : Lnk) ∈ l
theorem LkP.start (n : Nat) (E : List Edg) : LkP n E 0 (List.replicate n []) := ⟨⟨by simp, fun a l k hl hk => by
 have := (List.mem_replicate.1 (List.mem_of_getElem? hl)).2
 subst this
 cases hk⟩, fun _ _ _ h => absurd h (by omega)⟩
theorem LkP.next {n : Nat} {E : List Edg} {i a b : Nat} {ls : List (List Lnk)} (h : LkP n E i ls) (he : E[i]? = some ((a : Int), (b : Int))) (ha : a < n) (hb : b < n) : LkP n E (i + 1) (addEdge ls i a b) := by
 unfold addEdge
 have hl := h.1.1
 by_cases hab : a = b
 · rw [if_pos hab]
   refine ⟨h.1, fun j a' b' hj hE hne h1 h2 => ?_⟩
   rcases Nat.lt_or_ge j i with h3 | h3
   · exact h.2 j a' b' h3 hE hne h1 h2
   · obtain rfl : j = i := by omega
     rw [he] at hE
     simp at hE
     omega
 · rw [if_neg hab]
   have k1 : (⟨i, a, b, 1⟩ : Lnk).u < ls.length := by rw [hl]; exact ha
   have k2 : (⟨i, b, a, -1⟩ : Lnk).u < (addLink ls ⟨i, a, b, 1⟩).length := by rw [addLink_len, hl]; exact hb
   refine ⟨(h.1.add (k := ⟨i, a, b, 1⟩) ha hb hab (.inl ⟨rfl, he⟩)).add (k := ⟨i, b, a, -1⟩) hb ha (Ne.symm hab) (.inr ⟨rfl, he⟩), fun j a' b' hj hE hne h1 h2 => ?_⟩
   rcases Nat.lt_or_ge j i with h3 | h3
   · obtain ⟨g1, g2⟩ := h.2 j a' b' h3 hE hne h1 h2
     exact ⟨mem_addLink k2 (mem_addLink k1 g1), mem_addLink k2 (mem_addLink k1 g2)⟩
   · obtain rfl : j = i := by omega
     rw [he] at hE
     simp at hE
     obtain ⟨rfl, rfl⟩ : a = a' ∧ b = b' := by omega
     exact ⟨mem_addLink k2 (mem_addLink_new k1), mem_addLink_new k2⟩
theorem LkP.all {n : Nat} {E : List Edg} {ls : List (List Lnk)} (h : LkP n E E.length ls) : LinksOf n E ls :=
 ⟨h.1.1, h.1.2, fun i a b he hne ha hb => h.2 i a b (List.getElem?_eq_some_iff.1 he).1 he hne ha hb⟩
end Go.Proofs.YtpffhoefmcpniaaGreatDoor

namespace Go.Proofs.YtpffhoefmcpniaaGreatDoor
open Go.RowKit

attribute [local go_sem ↓] Go.wp_at_zero Go.wp_at_succ

theorem infoLink : (Tryz.prog.info? 230).map (fun i => (i.zero, i.size, i.bytes)) = some (some (.agg #[.int .i64 0, .int .i64 0, .int .i64 0, .int .i64 0]), 4, 32) := by kernel_rfl
theorem infoLinkR : (Tryz.prog.info? 228).map (fun i => (i.zero, i.size, i.bytes)) = some (some (.slice none 0 0), 1, 24) := by kernel_rfl

def LkO (W : World) (B g n : Nat) (ls : List (List Lnk)) : Prop :=
 ls.length = n ∧ g < B ∧ ∃ cs, Blk W g 228 cs ∧ cs.size = n ∧ (∀ (v : Nat) (l : List Lnk), ls[v]? = some l → ∃ A c, cs[v]? = some (.slice A l.length c) ∧ Own W B 230 4 A l.length c (lcells l)) ∧
  ∀ (v v' : Nat) A m c A' m' c', v ≠ v' → cs[v]? = some (.slice A m c) → cs[v']? = some (.slice A' m' c') → Dj A A'
theorem LkO.start {W : World} {B g n : Nat} (hg : g < B) (h : Blk W g 228 (zeros (.slice none 0 0) n)) : LkO W B g n (List.replicate n []) := by
 refine ⟨by simp, hg, _, h, by simp [zeros], fun v l hl => ?_, fun v v' A m c A' m' c' _ h1 _ => ?_⟩
 · obtain ⟨hv, e⟩ := List.getElem?_eq_some_iff.1 hl
   simp at e
   subst e
   refine ⟨none, 0, ?_, Own.nil _ _ _ _⟩
   simp at hv
   simp [zeros, hv]
 · have hv := (Array.getElem?_eq_some_iff.1 h1).1
   have e := (Array.getElem?_eq_some_iff.1 h1).2
   simp [zeros] at e
   obtain ⟨rfl, _, _⟩ := e
   exact .inl rfl
theorem LkO.alloc {W : World} {B g n : Nat} {ls : List (List Lnk)} (h : LkO W B g n ls) (o : Obj) : LkO (W.alloc o) B g n ls := by
 obtain ⟨h1, h2, cs, h3, h4, h5, h6⟩ := h
 exact ⟨h1, h2, cs, h3.alloc o, h4, fun v l hl => by
  obtain ⟨A, c, k1, k2⟩ := h5 v l hl
  exact ⟨A, c, k1, k2.alloc o⟩, h6⟩
theorem LkO.row {W : World} {B g n u : Nat} {ls : List (List Lnk)} (h : LkO W B g n ls) (hu : u < n) : ∃ A c l, ls[u]? = some l ∧ W.cell? ⟨g, u, none⟩ = some (.slice A l.length c) ∧ W.frozen? ⟨g, u, none⟩ = false ∧ Own W B 230 4 A l.length c (lcells l) := by
 obtain ⟨h1, h2, cs, h3, h4, h5, h6⟩ := h
 have hl : ls[u]? = some ls[u] := List.getElem?_eq_getElem (by omega)
 obtain ⟨A, c, k1, k2⟩ := h5 u _ hl
 exact ⟨A, c, _, hl, by rw [h3.cell]; exact k1, h3.frozen u, k2⟩
theorem LkO.push {W w' : World} {B g n u c c' : Nat} {A A' : Option Addr} {ls : List (List Lnk)} {l : List Lnk} {k : Lnk} (h : LkO W B g n ls) (hl : ls[u]? = some l) (hc : W.cell? ⟨g, u, none⟩ = some (.slice A l.length c))
 (hown : Own w' B 230 4 A' (l.length + 1) c' (lcells l ++ lcells [k])) (hg : W.grownBy w' (blkOf A)) (hat : blkOf A' = blkOf A ∨ blkOf A' = some W.heap.size) :
 LkO (w'.setCell ⟨g, u, none⟩ (.slice A' (l.length + 1) c')) B g n (ls.set u (l ++ [k])) := by
 obtain ⟨h1, h2, cs, h3, h4, h5, h6⟩ := h
 have hu := (List.getElem?_eq_some_iff.1 hl).1
 have hcs : cs[u]? = some (.slice A l.length c) := by rw [← h3.cell]; exact hc
 obtain ⟨A0, c0, k1, hown0⟩ := h5 u l hl
 rw [hcs] at k1
 cases k1
 have hgA : blkOf A ≠ some g := hown0.ne h2
 have hgA' : blkOf A' ≠ some g := hown.ne h2
 refine ⟨by rw [List.length_set]; exact h1, h2, _, (h3.grown hg hgA).set_ u (.slice A' (l.length + 1) c'), by simpa using h4, fun v l' hl' => ?_, fun v v' X m d X' m' d' hne e1 e2 => ?_⟩
 · by_cases e : u = v
   · subst e
     rw [List.getElem?_set_self hu] at hl'
     cases hl'
     refine ⟨A', c', by rw [Array.getElem?_setIfInBounds_self_of_lt (by omega), List.length_append]; rfl, ?_⟩
     rw [List.length_append, lcells_app]
     exact hown.far (grownBy_set _ _ _ _) (.inr hgA')
   · rw [List.getElem?_set_ne e] at hl'
     obtain ⟨X, d, k1, k2⟩ := h5 v l' hl'
     refine ⟨X, d, by rw [Array.getElem?_setIfInBounds_ne e]; exact k1, (k2.far hg (h6 u v _ _ _ _ _ _ e hcs k1).far).far (grownBy_set _ _ _ _) (.inr (k2.ne h2))⟩
 · have old : ∀ v X m d, u ≠ v → cs[v]? = some (.slice X m d) → Dj A' X := fun v X m d hv e3 => by
    have hv2 := (Array.getElem?_eq_some_iff.1 e3).1
    obtain ⟨X0, d0, k1, k2⟩ := h5 v _ (List.getElem?_eq_getElem (show v < ls.length by omega))
    rw [e3] at k1
    cases k1
    exact (h6 u v _ _ _ _ _ _ hv hcs e3).next k2 hat
   by_cases a1 : u = v
   · subst a1
     rw [Array.getElem?_setIfInBounds_self_of_lt (by omega)] at e1
     cases e1
     rw [Array.getElem?_setIfInBounds_ne hne] at e2
     exact old v' X' m' d' hne e2
   · rw [Array.getElem?_setIfInBounds_ne a1] at e1
     by_cases a2 : u = v'
     · subst a2
       rw [Array.getElem?_setIfInBounds_self_of_lt (by omega)] at e2
       cases e2
       exact (old v X m d a1 e1).symm
     · rw [Array.getElem?_setIfInBounds_ne a2] at e2
       exact h6 v v' X m d X' m' d' hne e1 e2
theorem LkO.rdN {W : World} {B g n : Nat} {ls : List (List Lnk)} (h : LkO W B g n ls) : RdN W (some ⟨g, 0, none⟩) n ls := by
 obtain ⟨h1, h2, cs, h3, h4, h5, h6⟩ := h
 refine ⟨h1, fun i l hl => ?_⟩
 obtain ⟨A, c, k1, k2⟩ := h5 i l hl
 exact ⟨g, 0, A, c, rfl, by rw [Nat.zero_add, h3.cell]; exact k1, k2.rds.rdL, k2.cap, k2.capMax⟩

def ghost (lo hi : Nat) (w : World) : World := { w with heap := w.heap.mapIdx (fun k o => if lo ≤ k ∧ k < hi then Obj.cells #[] 0 else o) }
theorem ghost_block {lo hi k : Nat} {w : World} (h : k < lo ∨ hi ≤ k) : (ghost lo hi w).heap[k]? = w.heap[k]? := by
 unfold ghost
 simp only [Array.getElem?_mapIdx]
 cases w.heap[k]? with
 | none => rfl
 | some o => rw [Option.map_some, if_neg (by omega)]
theorem ghost_cell {lo hi : Nat} {w : World} {p : Addr} {v : Value} (h : w.cell? p = some v) (hp : p.block < lo ∨ hi ≤ p.block) : (ghost lo hi w).cell? p = some v := by
 unfold World.cell? at h ⊢
 rw [ghost_block hp]
 exact h
theorem LkO.ghostN {W : World} {B g n lo : Nat} {ls : List (List Lnk)} (h : LkO W B g n ls) (hg : g + 1 = B) : RdN (ghost lo g W) (some ⟨g, 0, none⟩) n ls := by
 obtain ⟨h1, h2, cs, h3, h4, h5, h6⟩ := h
 refine ⟨h1, fun i l hl => ?_⟩
 obtain ⟨A, c, k1, k2⟩ := h5 i l hl
 refine ⟨g, 0, A, c, rfl, ghost_cell (by rw [Nat.zero_add, h3.cell]; exact k1) (.inr (Nat.le_refl _)), ?_, k2.cap, k2.capMax⟩
 have hr := k2.rds.rdL
 refine ⟨hr.1, fun j x hx => ?_⟩
 obtain ⟨b, o, e, c0, c1, c2, c3⟩ := hr.2 j x hx
 have hb : g ≤ b := by have := (k2.lt b (by rw [e]; rfl)).1; omega
 exact ⟨b, o, e, ghost_cell c0 (.inr hb), ghost_cell c1 (.inr hb), ghost_cell c2 (.inr hb), ghost_cell c3 (.inr hb)⟩

theorem LkO.drew {W : World} {B g n : Nat} {ls : List (List Lnk)} (h : LkO W B g n ls) : LkO W.drew B g n ls := by
 obtain ⟨h1, h2, cs, h3, h4, h5, h6⟩ := h
 exact ⟨h1, h2, cs, h3.drew, h4, fun v l hl => by
  obtain ⟨A, c, k1, k2⟩ := h5 v l hl
  exact ⟨A, c, k1, k2.drew⟩, h6⟩
theorem LkO.cellG {W w' : World} {B g n u : Nat} {r : Option Nat} {ls : List (List Lnk)} (h : LkO W B g n ls) (hu : u < n) (hg : W.grownBy w' r) (hr : r ≠ some g) : ∃ v, w'.cell? ⟨g, u, none⟩ = some v ∧ w'.frozen? ⟨g, u, none⟩ = false := by
 obtain ⟨h1, h2, cs, h3, h4, h5, h6⟩ := h
 have hb := h3.grown hg hr
 exact ⟨_, by rw [hb.cell]; exact Array.getElem?_eq_getElem (by omega), hb.frozen u⟩
theorem addLink_eq {ls : List (List Lnk)} {l : List Lnk} {i u v : Nat} {y : Int} (h : ls[u]? = some l) : addLink ls ⟨i, u, v, y⟩ = ls.set u (l ++ [⟨i, u, v, y⟩]) := by
 unfold addLink
 simp only
 rw [List.getD_eq_getElem?_getD, h]
 rfl
theorem run_makeLinks (n : Nat) (hn : n ≤ 1000000000) (W : World) : (Instr.makeSlice 216 (.int .i64 (n : Int)) (.int .i64 (n : Int))).run Tryz.prog W = .ok (.slice (some ⟨W.heap.size, 0, none⟩) n n) (W.alloc (.cells (zeros (.slice none 0 0) n) 228)) :=
 run_make1 (P := Tryz.prog) 216 228 (.slice none 0 0) 24 infoLinkR Tryz.underlying216 rfl n (by omega) (by omega) .i64 .i64 W

def Ends (n : Nat) (E : List Edg) : Prop := ∀ e ∈ E, 0 ≤ e.1 ∧ e.1 < n ∧ 0 ≤ e.2 ∧ e.2 < n
def lksTo (n : Nat) (E : List Edg) : Nat → List (List Lnk)
 | 0 => List.replicate n []
 | i + 1 => addEdge (lksTo n E i) i (E.getD i (0, 0)).1.toNat (E.getD i (0, 0)).2.toNat
theorem lksTo_ok {n : Nat} {E : List Edg} (h : Ends n E) : ∀ i : Nat, i ≤ E.length → LkP n E i (lksTo n E i)
 | 0, _ => LkP.start n E
 | i + 1, hi => by
  have hE : E[i]? = some E[i] := List.getElem?_eq_getElem (by omega)
  have he := h _ (List.getElem_mem (show i < E.length by omega))
  have hd : E.getD i (0, 0) = E[i] := by rw [List.getD_eq_getElem?_getD, hE]; rfl
  unfold lksTo
  rw [hd]
  refine (lksTo_ok h i (by omega)).next ?_ (by omega) (by omega)
  rw [hE, Int.toNat_of_nonneg he.1, Int.toNat_of_nonneg he.2.2.1]

theorem four_one (a b c d : Int) : ∀ u ∈ [Value.int .i64 a, .int .i64 b, .int .i64 c, .int .i64 d], u.oneCell' = true := by
 intro u hu
 simp only [List.mem_cons, List.not_mem_nil, or_false] at hu
 rcases hu with rfl | rfl | rfl | rfl <;> rfl
theorem addLink_bd {ls : List (List Lnk)} {k : Lnk} {m : Nat} (h : ∀ (a : Nat) (l : List Lnk), ls[a]? = some l → l.length ≤ m) : ∀ (a : Nat) (l : List Lnk), (addLink ls k)[a]? = some l → l.length ≤ m + 1 := fun a l hl => by
 unfold addLink at hl
 have hlen := (List.getElem?_eq_some_iff.1 hl).1
 rw [List.length_set] at hlen
 by_cases e : k.u = a
 · subst e
   rw [List.getElem?_set_self hlen, List.getD_eq_getElem?_getD, List.getElem?_eq_getElem hlen] at hl
   cases hl
   have := h _ _ (List.getElem?_eq_getElem hlen)
   simp
   omega
 · rw [List.getElem?_set_ne e] at hl
   have := h a l hl
   omega
theorem lksTo_bd (n : Nat) (E : List Edg) : ∀ (k a : Nat) (l : List Lnk), (lksTo n E k)[a]? = some l → l.length ≤ 2 * k
 | 0, a, l, hl => by
  have := (List.mem_replicate.1 (List.mem_of_getElem? hl)).2
  subst this
  simp
 | k + 1, a, l, hl => by
  unfold lksTo addEdge at hl
  split at hl
  · have := lksTo_bd n E k a l hl; omega
  · have := addLink_bd (addLink_bd (lksTo_bd n E k)) a l hl
    omega

set_option maxHeartbeats 4000000 in
theorem links_any (A : Option Addr) (n m c : Nat) (E : List Edg) (w : World) (h : RdP w A m E) (hE : Ends n E) (hn : n ≤ 1000000) (hm : m ≤ 1000000) :
 Calls Tryz.prog 122 #[.int .i64 n, .slice A m c] w fun e w' => e = .returned (.slice (some ⟨w.heap.size, 0, none⟩) n n) ∧ RdN w' (some ⟨w.heap.size, 0, none⟩) n (lksTo n E m) ∧ Below w.heap.size w w' ∧ ∀ lo, RdN (ghost lo w.heap.size w') (some ⟨w.heap.size, 0, none⟩) n (lksTo n E m) := by
 have hmk := run_makeLinks n (by omega)
 have HE := Lib.hid hE
 have HM := Lib.hid h.1
 clear hE
 go_enter Tryz.func122, Tryz.ntmps122
 go_wp2_with fail
 (refine wp_named ?_; intro w1 hw1)
 have hb1 : Below w.heap.size w w1 := by rw [hw1]; exact bELt
 have hl1 : LkO w1 (w.heap.size + 1) w.heap.size n (lksTo n E 0) := by rw [hw1]; exact LkO.start (by omega) (Blk.new _ _ _)
 have hz1 : w.heap.size + 1 ≤ w1.heap.size := by rw [hw1]; simp
 clear hw1 hmk
 go_loopw [14] (fun i W => Below w.heap.size w W ∧ w.heap.size + 1 ≤ W.heap.size ∧ ∃ k : Nat, k ≤ m ∧ i = .int .i64 k ∧ LkO W (w.heap.size + 1) w.heap.size n (lksTo n E k)) (fun i _ => m - (intOf i).toNat)
 case atStart => exact ⟨hb1, hz1, 0, Nat.zero_le _, rfl, hl1⟩
 case round =>
  clear hb1 hz1 hl1
  obtain ⟨hbl, hz, k, hk, rfl, hlk⟩ := hrel
  by_cases hlt : k < m
  · obtain ⟨b, o, x, y, rfl, hx, cx, cy⟩ := h.at_ hlt
    have he := HE.out _ (List.mem_of_getElem? hx)
    obtain ⟨p, rfl⟩ : ∃ p : Nat, x = p := ⟨x.toNat, by simp only at he; omega⟩
    obtain ⟨q, rfl⟩ : ∃ q : Nat, y = q := ⟨y.toNat, by simp only at he; omega⟩
    have hp : p < n := by simp only at he; omega
    have hq : q < n := by simp only at he; omega
    have HN := Lib.hid (show lksTo n E (k + 1) = addEdge (lksTo n E k) k p q by
     show addEdge (lksTo n E k) k (E.getD k (0, 0)).1.toNat (E.getD k (0, 0)).2.toNat = _
     rw [List.getD_eq_getElem?_getD, hx]
     simp)
    have j1 := Below.cellOf hbl (Nat.le_refl _) cx
    have j2 := Below.cellOf hbl (Nat.le_refl _) cy
    have i1 : (0 : Int) ≤ (k : Int) := by omega
    have i2 : (k : Int) < (m : Int) := by omega
    clear hx he cx cy
    have HLN := Lib.hid (show ∀ l, (lksTo n E k)[p]? = some l → l.length ≤ 3000000 from fun l hl => by have := lksTo_bd n E k p l hl; omega)
    have HLM := Lib.hid (show ∀ l, (addLink (lksTo n E k) ⟨k, p, q, 1⟩)[q]? = some l → l.length ≤ 3000000 from fun l hl => by have := addLink_bd (lksTo_bd n E k) q l hl; omega)
    generalize lksTo n E k = ls at *
    obtain ⟨W2, hW2⟩ : ∃ W2, W2 = wr.alloc (.cells #[.int .i64 p, .int .i64 q] 127) := ⟨_, rfl⟩
    have hbox : Blk W2 wr.heap.size 127 #[.int .i64 p, .int .i64 q] := by rw [hW2]; exact Blk.new _ _ _
    have hlk2 : LkO W2 (w.heap.size + 1) w.heap.size n ls := by rw [hW2]; exact hlk.alloc _
    have hbl2 : Below w.heap.size w W2 := by rw [hW2]; exact bELt
    have hz2 : w.heap.size + 1 ≤ W2.heap.size := by rw [hW2]; simp; omega
    have HSX := Lib.hid (show ∀ V, Below W2.heap.size W2 V → V.cell? ⟨wr.heap.size, 0, none⟩ = some (.int .i64 p) ∧ V.cell? ⟨wr.heap.size, 1, none⟩ = some (.int .i64 q) from
     fun V hb => ⟨(hbox.below hb hbox.lt).two.1, (hbox.below hb hbox.lt).two.2.1⟩)
    go_wp2_with fail
    rw [← hW2]
    refine wp_region_held_drew (S := fun V => Below W2.heap.size W2 V) (by kernel_rfl) (Below.refl _ _).drew (fun _ => ?_)
    refine tk 0 19 (h := ⟨_, tv, ?_⟩)
    simp only [pE, List.set]
    refine tk 1 20 (h := ⟨_, tv, ?_⟩)
    simp only [pE, List.set]
    refine tk 2 21 (h := ⟨_, tv, ?_⟩)
    simp only [pE, List.set]
    refine tk 3 22 (h := ⟨_, tv, ?_⟩)
    simp only [pE, List.set]
    refine tk 4 8 (h := ⟨_, tv, ?_⟩)
    simp only [pE, List.set]
    refine tk 5 9 (h := ⟨_, tv, ?_⟩)
    simp only [pE, List.set]
    refine wpAnyH_done (by kernel_rfl) ?_ _
    clear HSX hbox
    obtain ⟨W3, hW3⟩ : ∃ W3, W3 = W2.drew := ⟨_, rfl⟩
    rw [← hW3]
    have hlkW3 : LkO W3 (w.heap.size + 1) w.heap.size n ls := by rw [hW3]; exact hlk2.drew
    have hblW3 : Below w.heap.size w W3 := by rw [hW3]; exact hbl2.drew
    have hzW3 : w.heap.size + 1 ≤ W3.heap.size := by rw [hW3]; exact hz2
    clear hW3 hlk2 hbl2 hz2 hW2 hlk hbl hz j1 j2
    by_cases hpq : p = q
    · have e1 : ((p : Int) == (q : Int)) = true := by rw [hpq]; simp
      have HQ := Lib.hid hpq
      clear hpq
      go_wp2_with fail
      go_roundw
      case rel => exact ⟨hblW3, hzW3, k + 1, by omega, by go_num, by rw [HN.out]; unfold addEdge; rw [if_pos HQ.out]; exact hlkW3⟩
      case measure => simp [intOf]; omega
    · have e1 : ((p : Int) == (q : Int)) = false := by simp only [beq_eq_false_iff_ne]; omega
      have HQ := Lib.hid hpq
      have i5 : (0 : Int) ≤ (p : Int) := by omega
      have i6 : (p : Int) < (n : Int) := by omega
      have i7 : (0 : Int) ≤ (q : Int) := by omega
      have i8 : (q : Int) < (n : Int) := by omega
      clear hpq
      obtain ⟨A5, c5, l5, hl5, hc5, _, hown5⟩ := hlkW3.row hp
      have hg5 : blkOf A5 ≠ some w.heap.size := hown5.ne (by omega)
      have hb5 : Blk (W3.alloc (.cells #[.int .i64 k, .int .i64 p, .int .i64 q, .int .i64 1] 230)) W3.heap.size 230 #[.int .i64 k, .int .i64 p, .int .i64 q, .int .i64 1] := Blk.new _ _ _
      have hrd5 := hb5.rds (s := 4) (m := 1) rfl
      have hla5 := hlkW3.alloc (.cells #[.int .i64 k, .int .i64 p, .int .i64 q, .int .i64 1] 230)
      have hoa5 := hown5.alloc (.cells #[.int .i64 k, .int .i64 p, .int .i64 q, .int .i64 1] 230)
      have hca5 : (W3.alloc (.cells #[.int .i64 k, .int .i64 p, .int .i64 q, .int .i64 1] 230)).cell? ⟨w.heap.size, p, none⟩ = some (.slice A5 l5.length c5) := Below.cellOf ((Below.refl _ _).alloc (Nat.le_refl _) _) (Nat.le_refl _) hc5
      have hln5 := HLN.out _ hl5
      clear hb5 hown5 hlkW3
      go_wp2_with (at_builtin; with_reducible refine wpList_app rfl (.tmp 31) (.tmp 36) 228 rfl 230 _ 4 32 infoLink Tryz.underlying228 rfl (by omega) rfl rfl hoa5 hrd5 (four_one _ _ _ _) (by omega) (by omega) (by simp; omega) ?_)
      intro B5 d5 w5 ho5 hgr5 hat5
      have hbw5 : Below w.heap.size w w5 := Bel.grownOwn (hblW3.alloc (by omega) _) hgr5 (hoa5.mono (by omega)) (by simp; omega)
      obtain ⟨_, hcv5, hcf5⟩ := hla5.cellG hp hgr5 hg5
      have hlk5 := hla5.push (k := ⟨k, p, q, 1⟩) hl5 hca5 ho5 hgr5 (by simpa using hat5)
      rw [← addLink_eq (i := k) (v := q) (y := 1) hl5] at hlk5
      have hzw5 : w.heap.size + 1 ≤ w5.heap.size := Nat.le_trans (by simp; omega) hgr5.size
      clear hla5 hoa5 hca5 hrd5 ho5 hgr5 hat5 hc5
      have hbl5 : Below w.heap.size w (w5.setCell ⟨w.heap.size, p, none⟩ (.slice B5 (l5.length + 1) d5)) := hbw5.setCell (Nat.le_refl _) _
      clear HLN
      have HLN := HLM
      obtain ⟨A6, c6, l6, hl6, hc6, _, hown6⟩ := hlk5.row hq
      have hg6 : blkOf A6 ≠ some w.heap.size := hown6.ne (by omega)
      have hb6 : Blk ((w5.setCell ⟨w.heap.size, p, none⟩ (.slice B5 (l5.length + 1) d5)).alloc (.cells #[.int .i64 k, .int .i64 q, .int .i64 p, .int .i64 (-1)] 230)) (w5.setCell ⟨w.heap.size, p, none⟩ (.slice B5 (l5.length + 1) d5)).heap.size 230 #[.int .i64 k, .int .i64 q, .int .i64 p, .int .i64 (-1)] := Blk.new _ _ _
      have hrd6 := hb6.rds (s := 4) (m := 1) rfl
      rw [show (w5.setCell ⟨w.heap.size, p, none⟩ (.slice B5 (l5.length + 1) d5)).heap.size = w5.heap.size by simp [World.setCell]] at hrd6
      have hla6 := hlk5.alloc (.cells #[.int .i64 k, .int .i64 q, .int .i64 p, .int .i64 (-1)] 230)
      have hoa6 := hown6.alloc (.cells #[.int .i64 k, .int .i64 q, .int .i64 p, .int .i64 (-1)] 230)
      have hca6 : ((w5.setCell ⟨w.heap.size, p, none⟩ (.slice B5 (l5.length + 1) d5)).alloc (.cells #[.int .i64 k, .int .i64 q, .int .i64 p, .int .i64 (-1)] 230)).cell? ⟨w.heap.size, q, none⟩ = some (.slice A6 l6.length c6) := Below.cellOf ((Below.refl _ _).alloc (Nat.le_refl _) _) (Nat.le_refl _) hc6
      have hln6 := HLN.out _ hl6
      clear hb6 hown6
      go_wp2_with (at_builtin; with_reducible refine wpList_app rfl (.tmp 44) (.tmp 49) 228 rfl 230 _ 4 32 infoLink Tryz.underlying228 rfl (by omega) rfl rfl hoa6 hrd6 (four_one _ _ _ _) (by omega) (by omega) (by simp [World.setCell]; omega) ?_)
      intro B6 d6 w6 ho6 hgr6 hat6
      have hbw6 : Below w.heap.size w w6 := Bel.grownOwn (hbl5.alloc (by simp [World.setCell]; omega) _) hgr6 (hoa6.mono (by omega)) (by simp [World.setCell]; omega)
      obtain ⟨_, hcv6, hcf6⟩ := hla6.cellG hq hgr6 hg6
      have hlk6 := hla6.push (k := ⟨k, q, p, (-1)⟩) hl6 hca6 ho6 hgr6 (by simpa [World.setCell] using hat6)
      rw [← addLink_eq (i := k) (v := p) (y := (-1)) hl6] at hlk6
      have hzw6 : w.heap.size + 1 ≤ w6.heap.size := Nat.le_trans (by simp [World.setCell]; omega) hgr6.size
      clear hla6 hoa6 hca6 hrd6 ho6 hgr6 hat6 hc6
      have HL6 := Lib.hid hlk6
      have hbn : Below w.heap.size w (w6.setCell ⟨w.heap.size, q, none⟩ (.slice B6 (l6.length + 1) d6)) := hbw6.setCell (Nat.le_refl _) _
      have hzn : w.heap.size + 1 ≤ (w6.setCell ⟨w.heap.size, q, none⟩ (.slice B6 (l6.length + 1) d6)).heap.size := Nat.le_trans hzw6 (grownBy_set _ _ _ _).size
      clear hlk6 hlk5
      go_wp2_with fail
      go_roundw
      case rel => exact ⟨hbn, hzn, k + 1, by omega, by go_num, by rw [HN.out]; unfold addEdge; rw [if_neg HQ.out]; exact HL6.out⟩
      case measure => simp [intOf]; omega
  · obtain rfl : k = m := by omega
    have HR := Lib.hid hlk.rdN
    have HG := Lib.hid (fun lo => hlk.ghostN (lo := lo) rfl)
    clear hlk
    go_wp2_with fail
    go_ret
    exact ⟨rfl, HR.out, hbl, HG.out⟩
end Go.Proofs.YtpffhoefmcpniaaGreatDoor
