/- Parts of the proof: App. -/
import Derived.Test.YtpffhoefmcpniaaGreatDoorW1
import Derived.Maps.AppendAt
import Derived.RegionTactic
import Derived.OwnWalk
/- append onto a row of the call's own: what is owned, what is read, the law in three forms. -/
namespace Go.Proofs.YtpffhoefmcpniaaGreatDoor
open Go.RowKit

theorem add_mk (b o j : Nat) : (⟨b, o, none⟩ : Addr).add j = ⟨b, o + j, none⟩ := by
  cases j <;> simp [Addr.add]
/-- The slice's cells (m elements of s cells) read as xs. -/
def Rds (w : World) (s : Nat) (A : Option Addr) (m : Nat) (xs : List Value) : Prop :=
  xs.length = m * s ∧ ∀ j u, xs[j]? = some u → ∃ b o, A = some ⟨b, o, none⟩ ∧ w.cell? ⟨b, o + j, none⟩ = some u
theorem Rds.below {w w' : World} {s m : Nat} {A : Option Addr} {xs : List Value} (h : Rds w s A m xs) (hb : Below w.heap.size w w') : Rds w' s A m xs :=
  ⟨h.1, fun i x hx => by obtain ⟨b, o, e, hc⟩ := h.2 i x hx; exact ⟨b, o, e, Below.cellOf hb (Nat.le_refl _) hc⟩⟩
theorem Blk.rds {w : World} {g s m : Nat} {t : TypeId} {cs : Array Value} (h : Blk w g t cs) (hl : cs.size = m * s) : Rds w s (some ⟨g, 0, none⟩) m cs.toList :=
  ⟨by simpa using hl, fun j u hu => ⟨g, 0, rfl, by rw [Nat.zero_add, h.cell]; simpa using hu⟩⟩
theorem RdK.rds {k : IntKind} {w : World} {n : Nat} {A : Option Addr} {l : List Int} (h : RdK k w A n l) : Rds w 1 A n (l.map (Value.int k)) :=
  ⟨by simp [h.1], fun j u hu => by
    rw [List.getElem?_map] at hu
    cases hx : l[j]? with
    | none => rw [hx] at hu; cases hu
    | some x => rw [hx] at hu; cases hu; exact h.2 j x hx⟩
theorem RdB.rds {w : World} {n : Nat} {A : Option Addr} {l : List Bool} (h : RdB w A n l) : Rds w 1 A n (l.map Value.bool) :=
  ⟨by simp [h.1], fun j u hu => by
    rw [List.getElem?_map] at hu
    cases hx : l[j]? with
    | none => rw [hx] at hu; cases hu
    | some x => rw [hx] at hu; cases hu; exact h.2 j x hx⟩
/-- pairs as cells -/
def pcells : List (Int × Int) → List Value
  | [] => []
  | p :: t => .int .i64 p.1 :: .int .i64 p.2 :: pcells t
theorem pcells_len : ∀ l : List (Int × Int), (pcells l).length = l.length * 2
  | [] => rfl
  | _ :: t => by simp [pcells, pcells_len t]; omega
theorem pcells_app : ∀ l m : List (Int × Int), pcells (l ++ m) = pcells l ++ pcells m
  | [], _ => rfl
  | p :: t, m => by simp [pcells, pcells_app t m]
theorem pcells_fst : ∀ {l : List (Int × Int)} {i : Nat} {p : Int × Int}, l[i]? = some p → (pcells l)[i * 2]? = some (.int .i64 p.1) ∧ (pcells l)[i * 2 + 1]? = some (.int .i64 p.2)
  | [], i, p, h => by simp at h
  | q :: t, 0, p, h => by simp at h; subst h; simp [pcells]
  | q :: t, i + 1, p, h => by
    have := pcells_fst (l := t) (i := i) (p := p) (by simpa using h)
    rw [show (i + 1) * 2 = i * 2 + 1 + 1 by omega]
    simpa [pcells] using this
theorem pcells_at : ∀ {l : List (Int × Int)} {j : Nat} {u : Value}, (pcells l)[j]? = some u → ∃ p, l[j / 2]? = some p ∧ ((j % 2 = 0 ∧ u = .int .i64 p.1) ∨ (j % 2 = 1 ∧ u = .int .i64 p.2))
  | [], j, u, h => by simp [pcells] at h
  | q :: t, 0, u, h => by simp [pcells] at h; exact ⟨q, by simp, .inl ⟨rfl, h.symm⟩⟩
  | q :: t, 1, u, h => by simp [pcells] at h; exact ⟨q, by simp, .inr ⟨rfl, h.symm⟩⟩
  | q :: t, j + 2, u, h => by
    obtain ⟨p, h1, h2⟩ := pcells_at (l := t) (j := j) (u := u) (by simpa [pcells] using h)
    refine ⟨p, ?_, ?_⟩
    · rw [show (j + 2) / 2 = j / 2 + 1 by omega]; simpa using h1
    · rw [show (j + 2) % 2 = j % 2 by omega]; exact h2
theorem RdP.rds {w : World} {n : Nat} {A : Option Addr} {l : List (Int × Int)} (h : RdP w A n l) : Rds w 2 A n (pcells l) :=
  ⟨by rw [pcells_len, h.1], fun j u hu => by
    obtain ⟨p, hp, hu'⟩ := pcells_at hu
    obtain ⟨b, o, e, h1, h2⟩ := h.2 _ p hp
    refine ⟨b, o, e, ?_⟩
    rcases hu' with ⟨hm, rfl⟩ | ⟨hm, rfl⟩
    · rw [show o + j = o + j / 2 * 2 by omega]; exact h1
    · rw [show o + j = o + j / 2 * 2 + 1 by omega]; exact h2⟩
theorem Rds.rdP {w : World} {n : Nat} {A : Option Addr} {l : List (Int × Int)} (h : Rds w 2 A n (pcells l)) : RdP w A n l :=
  ⟨by have := h.1; rw [pcells_len] at this; omega, fun i p hp => by
    obtain ⟨h1, h2⟩ := pcells_fst hp
    obtain ⟨b, o, e, c1⟩ := h.2 _ _ h1
    obtain ⟨b', o', e', c2⟩ := h.2 _ _ h2
    rw [e] at e'; cases e'
    exact ⟨b, o, e, c1, by rw [Nat.add_assoc]; exact c2⟩⟩
theorem Rds.rdK {k : IntKind} {w : World} {n : Nat} {A : Option Addr} {l : List Int} (h : Rds w 1 A n (l.map (Value.int k))) : RdK k w A n l :=
  ⟨by have := h.1; simpa using this, fun i x hx => h.2 i _ (by rw [List.getElem?_map, hx]; rfl)⟩
theorem Rds.rdB {w : World} {n : Nat} {A : Option Addr} {l : List Bool} (h : Rds w 1 A n (l.map Value.bool)) : RdB w A n l :=
  ⟨by have := h.1; simpa using this, fun i x hx => h.2 i _ (by rw [List.getElem?_map, hx]; rfl)⟩
theorem pcells_one (l : List (Int × Int)) : ∀ u ∈ pcells l, u.oneCell' = true := by
  intro u hu
  obtain ⟨j, hj, e⟩ := List.getElem_of_mem hu
  obtain ⟨p, _, h⟩ := pcells_at (l := l) (j := j) (u := u) (by rw [List.getElem?_eq_getElem hj, e])
  rcases h with ⟨_, rfl⟩ | ⟨_, rfl⟩ <;> rfl
theorem ints_one (k : IntKind) (l : List Int) : ∀ u ∈ l.map (Value.int k), u.oneCell' = true := by
  intro u hu; obtain ⟨x, _, rfl⟩ := List.mem_map.1 hu; rfl
theorem bools_one (l : List Bool) : ∀ u ∈ l.map Value.bool, u.oneCell' = true := by
  intro u hu; obtain ⟨x, _, rfl⟩ := List.mem_map.1 hu; rfl

/-- ints, truths as a list of cells. Plain definitions: the walk does not open them. -/
def icells (l : List Int) : List Value := l.map (Value.int .i64)
def bcells (l : List Bool) : List Value := l.map Value.bool
theorem icells_app (l m : List Int) : icells (l ++ m) = icells l ++ icells m := by simp [icells]
theorem bcells_app (l m : List Bool) : bcells (l ++ m) = bcells l ++ bcells m := by simp [bcells]
theorem Rds.rdI {w : World} {n : Nat} {A : Option Addr} {l : List Int} (h : Rds w 1 A n (icells l)) : RdI w A n l := Rds.rdK h
theorem Rds.rdB' {w : World} {n : Nat} {A : Option Addr} {l : List Bool} (h : Rds w 1 A n (bcells l)) : RdB w A n l := Rds.rdB h
theorem RdK.rdsI {w : World} {n : Nat} {A : Option Addr} {l : List Int} (h : RdI w A n l) : Rds w 1 A n (icells l) := RdK.rds h
theorem RdB.rdsB {w : World} {n : Nat} {A : Option Addr} {l : List Bool} (h : RdB w A n l) : Rds w 1 A n (bcells l) := RdB.rds h
theorem icells_one (l : List Int) : ∀ u ∈ icells l, u.oneCell' = true := ints_one .i64 l
theorem bcells_one (l : List Bool) : ∀ u ∈ bcells l, u.oneCell' = true := bools_one l

/-- The block that a slice lies in. -/
def blkOf (A : Option Addr) : Option Nat := A.map (·.block)
/-- The slice is the call's own, from block B on: its n elements (s cells each, of type e) are xs. -/
def Own (w : World) (B : Nat) (e : TypeId) (s : Nat) (A : Option Addr) (n c : Nat) (xs : List Value) : Prop := w.ownsRow B e s (.slice A n c) n xs
section
variable {w w' : World} {B s n c : Nat} {e : TypeId} {A : Option Addr} {xs : List Value}
theorem Own.nil (w : World) (B s : Nat) (e : TypeId) : Own w B e s none 0 0 [] := World.ownsRow_nil w B e s
theorem Own.lit (w : World) (cs : Array Value) (n : Nat) (hb : B ≤ w.heap.size) (hm : n ≤ 9223372036854775807) (hs : cs.size = n * s) : Own (w.alloc (.cells cs e)) B e s (some ⟨w.heap.size, 0, none⟩) n n cs.toList :=
  World.ownsRow_lit w cs n hb (by unfold maxLen; omega) hs
theorem Own.drewN (h : Own w B e s A n c xs) (k : Nat) : Own (w.drewN k) B e s A n c xs := h
theorem Own.drew (h : Own w B e s A n c xs) : Own w.drew B e s A n c xs := h
theorem Own.alloc (h : Own w B e s A n c xs) (o : Obj) : Own (w.alloc o) B e s A n c xs := World.ownsRow.alloc h o
theorem Own.lt (h : Own w B e s A n c xs) : ∀ k, blkOf A = some k → B ≤ k ∧ k < w.heap.size := by
  intro k hk
  have := World.ownsRow.lt h k
  cases A with
  | none => cases hk
  | some a => exact this hk
theorem Own.below (h : Own w B e s A n c xs) (hb : Below w.heap.size w w') : Own w' B e s A n c xs := by
  refine World.ownsRow.kept (row := none) h ⟨hb.os, hb.tape, hb.output, hb.size, fun k hk _ => hb.block k hk⟩ ?_
  cases A with
  | none => exact .inl rfl
  | some a => exact .inr (by simp [Value.ownBlock])
theorem Own.far (h : Own w B e s A n c xs) {row : Option Nat} (hg : w.grownBy w' row) (hne : blkOf A = none ∨ blkOf A ≠ row) : Own w' B e s A n c xs := by
  refine World.ownsRow.kept h hg ?_
  cases A with
  | none => exact .inl rfl
  | some a => rcases hne with h | h; cases h; exact .inr h
theorem Own.rds (h : Own w B e s A n c xs) : Rds w s A n xs := by
  refine ⟨h.1, fun j u hu => ?_⟩
  have hc := h
  rcases h.2 with ⟨h', h0⟩ | ⟨g, cap, cur, h', _, _⟩
  · have := h.1
    rw [h0, Nat.zero_mul] at this
    rw [List.eq_nil_of_length_eq_zero this] at hu
    cases hu
  · cases h'
    have := World.ownsRow.cells hc (g := g) rfl j u hu
    rw [add_mk] at this
    exact ⟨g, 0, rfl, this⟩
theorem Own.shape {v : Value} (h : w.ownsRow B e s v n xs) : ∃ A c, v = .slice A n c := by
  rcases h.2 with ⟨rfl, rfl⟩ | ⟨g, cap, cur, rfl, _⟩
  · exact ⟨_, _, rfl⟩
  · exact ⟨_, _, rfl⟩
theorem Own.cap (h : Own w B e s A n c xs) : n ≤ c := by
  rcases h.2 with ⟨h', h0⟩ | ⟨g, cap, cur, h1, _, _, h3, _⟩
  · cases h'; omega
  · cases h1; exact h3
theorem Own.mono (h : Own w B e s A n c xs) {B' : Nat} (hB : B' ≤ B) : Own w B' e s A n c xs := by
  refine ⟨h.1, ?_⟩
  rcases h.2 with h' | ⟨g, cap, cur, h1, h2, h3⟩
  · exact .inl h'
  · exact .inr ⟨g, cap, cur, h1, by omega, h3⟩
end

section
variable {P : Program}
theorem run_app (w : World) (t ty e : TypeId) (z : Value) (s by_ : Nat) (hinfo : (P.info? e).map (fun i => (i.zero, i.size, i.bytes)) = some (some z, s, by_)) (ht : P.underlying t = some (.slice e)) (hzs : z.cells.size = s) (hs0 : 0 < s)
    {B n c m c2 : Nat} {A X : Option Addr} {xs news : List Value} (hown : Own w B e s A n c xs) (hr : Rds w s X m news) (h1 : ∀ u ∈ news, u.oneCell' = true)
    (hn : (n + m) * by_ ≤ 140737488355328) (hnm : n + m ≤ 9223372036854775807) (hB : B ≤ w.heap.size) :
    ∃ A' c' w', (Builtin.append_ #[t, t] ty #[.slice A n c, .slice X m c2]).run P w = .ok (.slice A' (n + m) c') w' ∧ Own w' B e s A' (n + m) c' (xs ++ news) ∧ w.grownBy w' (blkOf A) ∧ (blkOf A' = blkOf A ∨ blkOf A' = some w.heap.size) := by
  obtain ⟨i, hi, hz, hs, hb⟩ := info_parts hinfo
  have hob : ∀ (Y : Option Addr) (k d : Nat), (Value.slice Y k d).ownBlock = blkOf Y := fun Y k d => by cases Y <;> rfl
  cases hm : news with
  | nil =>
    have hm0 : m = 0 := by
      have := hr.1
      rw [hm] at this
      rcases Nat.eq_zero_or_pos m with h0 | h0
      · exact h0
      · have : 0 < m * s := Nat.mul_pos h0 hs0
        simp at *
        omega
    subst hm0
    cases X with
    | none =>
      refine ⟨A, c, w, ?_, by simpa using hown, World.grownBy.refl w _, .inl rfl⟩
      rcases hown.2 with ⟨h', h0⟩ | ⟨g, cap, cur, h', _, _, hnc, _⟩
      · cases h'
        simp [Builtin.append_, run_underlying ht, sizeOf, typeInfo, hi, Builtin.lenOf, Builtin.firstCells]
      · cases h'
        simp [Builtin.append_, run_underlying ht, sizeOf, typeInfo, hi, Builtin.lenOf, Builtin.firstCells, hnc, storeCells]
    | some ad =>
      obtain ⟨v', w', hrun, h2, h3, _, h5⟩ := run_append_own_at (P := P) w B t ty e i z s by_ ht hi hz hs hb hzs hs0 _ n xs hown ad 0 c2 [] (by simp) (fun j u hu => by cases hu) (fun u hu => by cases hu) (by unfold maxLen; omega) hn hB
      obtain ⟨A', c', rfl⟩ := Own.shape h2
      rw [hob, hob] at h5
      rw [hob] at h3
      exact ⟨A', c', w', hrun, h2, h3, h5⟩
  | cons u0 tl =>
    obtain ⟨b, o, rfl, _⟩ := hr.2 0 u0 (by rw [hm]; rfl)
    rw [← hm]
    obtain ⟨v', w', hrun, h2, h3, _, h5⟩ := run_append_own_at (P := P) w B t ty e i z s by_ ht hi hz hs hb hzs hs0 _ n xs hown ⟨b, o, none⟩ m c2 news hr.1
      (fun j u hu => by obtain ⟨b', o', e', hc⟩ := hr.2 j u hu; cases e'; rw [add_mk]; exact hc) h1 (by unfold maxLen; omega) hn hB
    obtain ⟨A', c', rfl⟩ := Own.shape h2
    rw [hob, hob] at h5
    rw [hob] at h3
    exact ⟨A', c', w', hrun, h2, h3, h5⟩

theorem wp_app {w : World} {o : Oper} {a : Act} {K : Act → World → Prop} {Q : Exit → Act → World → Prop} (s x : Operand) (t : TypeId)
    (ho : o.op = .call { callee := .builtin .append, args := #[s, x], argTypes := #[t, t] })
    (e : TypeId) (z : Value) (sz by_ : Nat) (hinfo : (P.info? e).map (fun i => (i.zero, i.size, i.bytes)) = some (some z, sz, by_)) (ht : P.underlying t = some (.slice e)) (hzs : z.cells.size = sz) (hs0 : 0 < sz)
    {B n c m c2 : Nat} {A X : Option Addr} {xs news : List Value} (hs : a.eval s = .slice A n c) (hx : a.eval x = .slice X m c2)
    (hown : Own w B e sz A n c xs) (hr : Rds w sz X m news) (h1 : ∀ u ∈ news, u.oneCell' = true) (hn : (n + m) * by_ ≤ 140737488355328) (hnm : n + m ≤ 9223372036854775807) (hB : B ≤ w.heap.size)
    (h : ∀ A' c' w', Own w' B e sz A' (n + m) c' (xs ++ news) → w.grownBy w' (blkOf A) → (blkOf A' = blkOf A ∨ blkOf A' = some w.heap.size) → K (a.put o.dst (.slice A' (n + m) c')) w') : o.wp P a w K Q := by
  obtain ⟨A', c', w', hrun, h2, h3, h4⟩ := run_app (P := P) w t o.type e z sz by_ hinfo ht hzs hs0 (c2 := c2) hown hr h1 hn hnm hB
  unfold Oper.wp execOp
  simp only [ho, resolve, invoke, builtin, Sem.run_bind, Sem.run_pure, Result.andThen_ok, List.map_toArray, List.map_cons, List.map_nil, hs, hx, hrun]
  exact h A' c' w' h2 h3 h4

theorem wpList_app {w : World} {ops : Array Oper} {rest : List Oper} {o : Oper} {a : Act} {Q : Exit → Act → World → Prop} (hgd : o.guard = none) (s x : Operand) (t : TypeId)
    (ho : o.op = .call { callee := .builtin .append, args := #[s, x], argTypes := #[t, t] })
    (e : TypeId) (z : Value) (sz by_ : Nat) (hinfo : (P.info? e).map (fun i => (i.zero, i.size, i.bytes)) = some (some z, sz, by_)) (ht : P.underlying t = some (.slice e)) (hzs : z.cells.size = sz) (hs0 : 0 < sz)
    {B n c m c2 : Nat} {A X : Option Addr} {xs news : List Value} (hs : a.eval s = .slice A n c) (hx : a.eval x = .slice X m c2)
    (hown : Own w B e sz A n c xs) (hr : Rds w sz X m news) (h1 : ∀ u ∈ news, u.oneCell' = true) (hn : (n + m) * by_ ≤ 140737488355328) (hnm : n + m ≤ 9223372036854775807) (hB : B ≤ w.heap.size)
    (h : ∀ A' c' w', Own w' B e sz A' (n + m) c' (xs ++ news) → w.grownBy w' (blkOf A) → (blkOf A' = blkOf A ∨ blkOf A' = some w.heap.size) → wpList P ops Q rest (a.put o.dst (.slice A' (n + m) c')) w') : wpList P ops Q (o :: rest) a w :=
  wpList_plain hgd fun _ hK => wp_app s x t ho e z sz by_ hinfo ht hzs hs0 hs hx hown hr h1 hn hnm hB fun A' c' w' h2 h3 h4 => hK _ _ (h A' c' w' h2 h3 h4)

theorem step_app {w : World} {ops : Array Oper} {o : Oper} {a : Act} {K : Act → World → Prop} {Q : Exit → Act → World → Prop} {E : Prop} (hgd : o.guard = none) (s x : Operand) (t : TypeId)
    (ho : o.op = .call { callee := .builtin .append, args := #[s, x], argTypes := #[t, t] })
    (e : TypeId) (z : Value) (sz by_ : Nat) (hinfo : (P.info? e).map (fun i => (i.zero, i.size, i.bytes)) = some (some z, sz, by_)) (ht : P.underlying t = some (.slice e)) (hzs : z.cells.size = sz) (hs0 : 0 < sz)
    {B n c m c2 : Nat} {A X : Option Addr} {xs news : List Value} (hs : a.eval s = .slice A n c) (hx : a.eval x = .slice X m c2)
    (hown : Own w B e sz A n c xs) (hr : Rds w sz X m news) (h1 : ∀ u ∈ news, u.oneCell' = true) (hn : (n + m) * by_ ≤ 140737488355328) (hnm : n + m ≤ 9223372036854775807) (hB : B ≤ w.heap.size)
    (h : ∀ A' c' w', Own w' B e sz A' (n + m) c' (xs ++ news) → w.grownBy w' (blkOf A) → (blkOf A' = blkOf A ∨ blkOf A' = some w.heap.size) → K (a.put o.dst (.slice A' (n + m) c')) w') :
    if Region.wanted o (yielded ops a.tmps) = true then Oper.wp P o a w K Q else E := by
  have hw : Region.wanted o (yielded ops a.tmps) = true := by simp [Region.wanted, hgd]
  rw [if_pos hw]
  exact wp_app s x t ho e z sz by_ hinfo ht hzs hs0 hs hx hown hr h1 hn hnm hB h
end

/-- Two slices of the call's own lie in two blocks. -/
def Dj (A A' : Option Addr) : Prop := blkOf A = none ∨ blkOf A' = none ∨ blkOf A ≠ blkOf A'
theorem Dj.symm {A A' : Option Addr} (h : Dj A A') : Dj A' A := by
  rcases h with h | h | h
  · exact .inr (.inl h)
  · exact .inl h
  · exact .inr (.inr (Ne.symm h))
theorem Dj.far {A A' : Option Addr} (h : Dj A A') : blkOf A' = none ∨ blkOf A' ≠ blkOf A := by
  rcases h with h | h | h
  · cases hA : blkOf A' with
    | none => exact .inl rfl
    | some g => right; rw [h]; exact fun e => by cases e
  · exact .inl h
  · exact .inr (Ne.symm h)
theorem Dj.next {w : World} {B s n c : Nat} {e : TypeId} {A A' A2 : Option Addr} {xs : List Value} (h : Dj A A') (ho : Own w B e s A' n c xs) (hat : blkOf A2 = blkOf A ∨ blkOf A2 = some w.heap.size) : Dj A2 A' := by
  rcases hat with hat | hat
  · unfold Dj; rw [hat]; exact h
  · cases hA : blkOf A' with
    | none => exact .inr (.inl hA)
    | some g =>
      have := (Own.lt ho g hA).2
      exact .inr (.inr (by rw [hat, hA]; intro e; injection e; omega))

/-- Behind an append: old memory is as it was. -/
theorem Bel.grownOwn {B : Nat} {a w w' : World} {e : TypeId} {s n c : Nat} {A : Option Addr} {xs : List Value} (h : Below B a w) (hg : w.grownBy w' (blkOf A)) (hown : Own w B e s A n c xs) (hB : B ≤ w.heap.size) : Below B a w' :=
  h.grown hg hB fun k hk => (hown.lt k hk).1
end Go.Proofs.YtpffhoefmcpniaaGreatDoor
