/- Parts of the proof: QFlQ. -/
import Derived.Test.YtpffhoefmcpniaaGreatDoorW1
import Derived.Test.YtpffhoefmcpniaaGreatDoorW9
/- One more goes: the search for a way, plain. -/
namespace Go.Proofs.YtpffhoefmcpniaaGreatDoor
open Go.RowKit

/-- One more along a link. -/
def app1 (f : List Int) (k : Lnk) : List Int := f.set k.e (f.getD k.e 0 + k.y)
def appAll (f : List Int) (p : List Lnk) : List Int := p.foldl app1 f
theorem app1_len (f : List Int) (k : Lnk) : (app1 f k).length = f.length := by simp [app1]
theorem appAll_len : ∀ (p : List Lnk) (f : List Int), (appAll f p).length = f.length
  | [], f => rfl
  | k :: p, f => by
    show (appAll (app1 f k) p).length = _
    rw [appAll_len p, app1_len]
theorem appAll_next {p : List Lnk} {i : Nat} {k : Lnk} (h : p[i]? = some k) (f : List Int) : appAll f (p.take (i + 1)) = app1 (appAll f (p.take i)) k := by
  have hlt := (List.getElem?_eq_some_iff.1 h).1
  unfold appAll
  rw [List.take_succ_eq_append_getElem hlt, (List.getElem?_eq_some_iff.1 h).2, List.foldl_append]
  rfl
def Near1 (f : List Int) (b : Nat) : Prop := ∀ x ∈ f, -(b : Int) ≤ x ∧ x ≤ b
theorem near_getD {f : List Int} {b : Nat} (h : Near1 f b) (i : Nat) : -(b : Int) ≤ f.getD i 0 ∧ f.getD i 0 ≤ b := by
  rw [List.getD_eq_getElem?_getD]
  cases e : f[i]? with
  | none => simp
  | some x => exact h x (List.mem_of_getElem? e)
theorem near_app {f : List Int} {b : Nat} {k : Lnk} (h : Near1 f b) (hk : k.y = 1 ∨ k.y = -1) : Near1 (app1 f k) (b + 1) := fun x hx => by
  unfold app1 at hx
  rcases List.mem_or_eq_of_mem_set hx with h1 | h1
  · have := h x h1
    omega
  · have := near_getD h k.e
    omega
theorem near_all : ∀ (p : List Lnk) {f : List Int} {b : Nat}, Near1 f b → (∀ k ∈ p, k.y = 1 ∨ k.y = -1) → Near1 (appAll f p) (b + p.length)
  | [], f, b, h, _ => h
  | k :: p, f, b, h, hk => by
    have := near_all p (near_app h (hk k List.mem_cons_self)) (fun q hq => hk q (List.mem_cons_of_mem _ hq))
    rw [List.length_cons, show b + (p.length + 1) = b + 1 + p.length by omega]
    exact this

/-- What is left to be tried. -/
def left1 (ls : List (List Lnk)) (nx : List Int) (i : Nat) : Nat := (ls.getD i []).length - (nx.getD i 0).toNat
def leftN (ls : List (List Lnk)) (nx : List Int) (n : Nat) : Nat := ((List.range n).map (left1 ls nx)).sum
theorem leftN_succ (ls : List (List Lnk)) (nx : List Int) (n : Nat) : leftN ls nx (n + 1) = leftN ls nx n + left1 ls nx n := by
  unfold leftN
  rw [List.range_succ]
  simp
theorem getD_set {l : List Int} {a : Nat} {x : Int} (ha : a < l.length) (i : Nat) : (l.set a x).getD i 0 = if i = a then x else l.getD i 0 := by
  rw [List.getD_eq_getElem?_getD, List.getElem?_set]
  by_cases e : a = i
  · subst e
    rw [if_pos rfl, if_pos ha, if_pos rfl]
    rfl
  · rw [if_neg e, if_neg (Ne.symm e), ← List.getD_eq_getElem?_getD]
theorem leftN_set {ls : List (List Lnk)} {nx : List Int} {a : Nat} {x : Int} (ha : a < nx.length) : ∀ n, leftN ls (nx.set a x) n + (if a < n then left1 ls nx a else 0) = leftN ls nx n + (if a < n then (ls.getD a []).length - x.toNat else 0)
  | 0 => by simp [leftN]
  | n + 1 => by
    have ih := leftN_set (ls := ls) (nx := nx) (a := a) (x := x) ha n
    rw [leftN_succ, leftN_succ]
    have e : left1 ls (nx.set a x) n = if n = a then (ls.getD a []).length - x.toNat else left1 ls nx n := by
      unfold left1
      rw [getD_set ha]
      by_cases h : n = a
      · rw [if_pos h, if_pos h, h]
      · rw [if_neg h, if_neg h]
    rw [e]
    by_cases h1 : n = a
    · subst h1
      rw [if_pos rfl, if_pos (by omega), if_pos (by omega)]
      rw [if_neg (by omega), if_neg (by omega)] at ih
      omega
    · rw [if_neg h1]
      by_cases h2 : a < n
      · rw [if_pos h2, if_pos h2] at ih
        rw [if_pos (by omega), if_pos (by omega)]
        omega
      · rw [if_neg h2, if_neg h2] at ih
        rw [if_neg (by omega), if_neg (by omega)]
        omega
theorem leftN_le {ls : List (List Lnk)} {nx : List Int} {a x y n : Nat} (hx : nx[a]? = some (x : Int)) (hxy : x ≤ y) : leftN ls (nx.set a (y : Int)) n ≤ leftN ls nx n := by
  have ha := (List.getElem?_eq_some_iff.1 hx).1
  have h := leftN_set (ls := ls) (nx := nx) (a := a) (x := (y : Int)) ha n
  have e : left1 ls nx a = (ls.getD a []).length - x := by
    unfold left1
    rw [show nx.getD a 0 = (x : Int) by rw [List.getD_eq_getElem?_getD, hx]; rfl]
    simp
  rw [e] at h
  split at h <;> simp at h <;> omega
theorem leftN_lt {ls : List (List Lnk)} {nx : List Int} {a x n : Nat} {l : List Lnk} (ha : a < n) (hl : ls[a]? = some l) (hx : nx[a]? = some (x : Int)) (hxl : x < l.length) : leftN ls (nx.set a ((x : Int) + 1)) n + 1 ≤ leftN ls nx n := by
  have hal := (List.getElem?_eq_some_iff.1 hx).1
  have h := leftN_set (ls := ls) (nx := nx) (a := a) (x := (x : Int) + 1) hal n
  have e : left1 ls nx a = l.length - x := by
    unfold left1
    rw [show nx.getD a 0 = (x : Int) by rw [List.getD_eq_getElem?_getD, hx]; rfl, show ls.getD a [] = l by rw [List.getD_eq_getElem?_getD, hl]; rfl]
    simp
  have e2 : ls.getD a [] = l := by rw [List.getD_eq_getElem?_getD, hl]; rfl
  rw [e, e2, if_pos ha, if_pos ha] at h
  omega
/-- What is left, as memory has it. -/
def leftW (ls : List (List Lnk)) (gx n : Nat) (W : World) : Nat := match W.heap[gx]? with | some (.cells cs _ _) => leftN ls (cs.toList.map intOf) n | _ => 0
theorem leftW_eq {W : World} {gx n t : Nat} {ls : List (List Lnk)} {nx : List Int} (h : Blk W gx t (ints nx)) : leftW ls gx n W = leftN ls nx n := by
  unfold leftW
  rw [show W.heap[gx]? = _ from h]
  congr 1
  unfold ints
  simp only [List.map_map]
  have : (intOf ∘ fun a => Value.int .i64 a) = id := by funext a; rfl
  rw [show (intOf ∘ Value.int .i64) = id by funext a; rfl]
  simp
def lenV : Value → Nat | .slice _ n _ => n | _ => 0

/-- A way that is looked for: from s on, each link the one that is to be tried, each one farther. -/
structure Way (ls : List (List Lnk)) (f d nx : List Int) (s : Nat) (p : List Lnk) (v : Nat) : Prop where
  head : p = [] → v = s
  first : ∀ k, p[0]? = some k → k.u = s
  last : ∀ k, p.getLast? = some k → k.v = v
  link : ∀ (i : Nat) (k k' : Lnk), p[i]? = some k → p[i + 1]? = some k' → k.v = k'.u
  try_ : ∀ k ∈ p, ∃ l x, ls[k.u]? = some l ∧ nx[k.u]? = some ((x : Nat) : Int) ∧ l[x]? = some k
  adm : ∀ k ∈ p, Adm f d k.u k
  dep : ∀ (i : Nat) (k : Lnk), p[i]? = some k → dAt d k.u = dAt d s + i
  depv : dAt d v = dAt d s + p.length
/-- Links that were passed over lead nowhere. -/
def Done (ls : List (List Lnk)) (f d nx : List Int) : Prop := ∀ (a j : Nat) (l : List Lnk) (x : Nat) (k : Lnk), ls[a]? = some l → nx[a]? = some (x : Int) → j < x → l[j]? = some k → Adm f d a k → ∃ l', ls[k.v]? = some l' ∧ nx[k.v]? = some (l'.length : Int)
/-- What is next is a link, or there is none any more. -/
def NxOk (ls : List (List Lnk)) (nx : List Int) : Prop := ∀ (a : Nat) (l : List Lnk), ls[a]? = some l → ∃ x : Nat, nx[a]? = some (x : Int) ∧ x ≤ l.length
theorem Way.start (ls : List (List Lnk)) (f d nx : List Int) (s : Nat) : Way ls f d nx s [] s :=
  ⟨(fun _ => rfl), (fun k h => by simp at h), (fun k h => by simp at h), (fun i k k' h => by simp at h), (fun k h => by cases h), (fun k h => by cases h), (fun i k h => by simp at h), by simp⟩
/-- Where the way is at is none of those that it came by. -/
theorem Way.off {ls : List (List Lnk)} {f d nx : List Int} {s v : Nat} {p : List Lnk} (h : Way ls f d nx s p v) : ∀ k ∈ p, k.u ≠ v := fun k hk e => by
  obtain ⟨i, hi, he⟩ := List.getElem_of_mem hk
  have := h.dep i k (by rw [List.getElem?_eq_getElem hi, he])
  have h2 := h.depv
  rw [e] at this
  omega
/-- What is next at where the way is at turns nothing of the way. -/
theorem Way.next {ls : List (List Lnk)} {f d nx : List Int} {s v : Nat} {p : List Lnk} {y : Int} (h : Way ls f d nx s p v) : Way ls f d (nx.set v y) s p v :=
  ⟨h.head, h.first, h.last, h.link, fun k hk => by
    obtain ⟨l, x, h1, h2, h3⟩ := h.try_ k hk
    exact ⟨l, x, h1, by rw [List.getElem?_set_ne (Ne.symm (h.off k hk))]; exact h2, h3⟩, h.adm, h.dep, h.depv⟩
theorem Way.push {ls : List (List Lnk)} {f d nx : List Int} {s v x : Nat} {p : List Lnk} {q : Lnk} {l : List Lnk} (h : Way ls f d nx s p v) (hu : q.u = v) (hl : ls[v]? = some l) (hx : nx[v]? = some (x : Int)) (hq : l[x]? = some q) (ha : Adm f d v q) : Way ls f d nx s (p ++ [q]) q.v := by
  refine ⟨fun e => by simp at e, fun k hk => ?_, fun k hk => ?_, fun i k k' h1 h2 => ?_, fun k hk => ?_, fun k hk => ?_, fun i k hk => ?_, ?_⟩
  · cases p with
    | nil => simp at hk; subst hk; rw [hu]; exact h.head rfl
    | cons a t => simp at hk; subst hk; exact h.first a rfl
  · rw [List.getLast?_append] at hk
    simp at hk
    rw [← hk]
  · rcases Nat.lt_or_ge (i + 1) p.length with g | g
    · rw [List.getElem?_append_left (by omega)] at h1
      rw [List.getElem?_append_left g] at h2
      exact h.link i k k' h1 h2
    · have hi : i + 1 = p.length := by
        have := (List.getElem?_eq_some_iff.1 h2).1
        simp at this
        omega
      rw [List.getElem?_append_left (by omega)] at h1
      rw [hi, List.getElem?_append_right (Nat.le_refl _), Nat.sub_self] at h2
      simp at h2
      subst h2
      rw [hu]
      refine h.last k ?_
      rw [List.getLast?_eq_getElem?, show p.length - 1 = i by omega]
      exact h1
  · rcases List.mem_append.1 hk with h1 | h1
    · exact h.try_ k h1
    · rw [List.mem_singleton.1 h1, hu]
      exact ⟨l, x, hl, hx, hq⟩
  · rcases List.mem_append.1 hk with h1 | h1
    · exact h.adm k h1
    · rw [List.mem_singleton.1 h1, hu]; exact ha
  · rcases Nat.lt_or_ge i p.length with g | g
    · rw [List.getElem?_append_left g] at hk
      exact h.dep i k hk
    · have hi : i = p.length := by
        have := (List.getElem?_eq_some_iff.1 hk).1
        simp at this
        omega
      subst hi
      rw [List.getElem?_append_right (Nat.le_refl _), Nat.sub_self] at hk
      simp at hk
      subst hk
      rw [hu, h.depv]
  · have := ha.2
    rw [this, h.depv, List.length_append]
    simp
    omega
theorem Way.pop {ls : List (List Lnk)} {f d nx : List Int} {s v : Nat} {p : List Lnk} {q : Lnk} (h : Way ls f d nx s (p ++ [q]) v) : Way ls f d nx s p q.u := by
  have hq : (p ++ [q])[p.length]? = some q := by rw [List.getElem?_append_right (Nat.le_refl _), Nat.sub_self]; rfl
  refine ⟨fun e => ?_, fun k hk => ?_, fun k hk => ?_, fun i k k' h1 h2 => ?_, fun k hk => h.try_ k (List.mem_append_left _ hk), fun k hk => h.adm k (List.mem_append_left _ hk), fun i k hk => ?_, h.dep _ _ hq⟩
  · subst e
    exact h.first q rfl
  · refine h.first k ?_
    cases p with
    | nil => simp at hk
    | cons a t => simpa using hk
  · have hlt : p.length ≠ 0 := fun e => by rw [List.length_eq_zero_iff.1 e] at hk; simp at hk
    rw [List.getLast?_eq_getElem?] at hk
    refine h.link (p.length - 1) k q (by rw [List.getElem?_append_left (by omega)]; exact hk) (by rw [show p.length - 1 + 1 = p.length by omega]; exact hq)
  · have g1 := (List.getElem?_eq_some_iff.1 h1).1
    have g2 := (List.getElem?_eq_some_iff.1 h2).1
    exact h.link i k k' (by rw [List.getElem?_append_left g1]; exact h1) (by rw [List.getElem?_append_left g2]; exact h2)
  · have g1 := (List.getElem?_eq_some_iff.1 hk).1
    exact h.dep i k (by rw [List.getElem?_append_left g1]; exact hk)
/-- Links without room, or that lead no farther, may be passed over; so may those that lead to where all was tried. -/
theorem Done.skip {ls : List (List Lnk)} {f d nx : List Int} {v x y : Nat} {l : List Lnk} (h : Done ls f d nx) (hl : ls[v]? = some l) (hx : nx[v]? = some (x : Int)) (hxy : x ≤ y) (hyl : y ≤ l.length)
    (hn : ∀ (j : Nat) (q : Lnk), x ≤ j → j < y → l[j]? = some q → Adm f d v q → ∃ l', ls[q.v]? = some l' ∧ (nx.set v (y : Int))[q.v]? = some (l'.length : Int)) : Done ls f d (nx.set v (y : Int)) := by
  have hvl := (List.getElem?_eq_some_iff.1 hx).1
  have keep : ∀ (b : Nat) (l' : List Lnk), ls[b]? = some l' → nx[b]? = some (l'.length : Int) → (nx.set v (y : Int))[b]? = some (l'.length : Int) := fun b l' h1 h2 => by
    by_cases e : v = b
    · subst e
      rw [hl] at h1
      cases h1
      rw [hx] at h2
      have : x = l.length := by injection h2 with h2; omega
      rw [List.getElem?_set_self hvl]
      congr 1
      omega
    · rw [List.getElem?_set_ne e]; exact h2
  intro a j l1 x1 k h1 h2 h3 h4 h5
  by_cases e : v = a
  · subst e
    rw [List.getElem?_set_self hvl] at h2
    rw [hl] at h1
    cases h1
    have hx1 : x1 = y := by injection h2 with h2; omega
    subst hx1
    rcases Nat.lt_or_ge j x with g | g
    · obtain ⟨l', k1, k2⟩ := h v j l x k hl hx g h4 h5
      exact ⟨l', k1, keep _ _ k1 k2⟩
    · exact hn j k g h3 h4 h5
  · rw [List.getElem?_set_ne e] at h2
    obtain ⟨l', k1, k2⟩ := h a j l1 x1 k h1 h2 h3 h4 h5
    exact ⟨l', k1, keep _ _ k1 k2⟩
/-- Where all was tried it stays so. -/
def Exh (ls : List (List Lnk)) (nx nx' : List Int) : Prop := ∀ (a : Nat) (l : List Lnk), ls[a]? = some l → nx[a]? = some (l.length : Int) → nx'[a]? = some (l.length : Int)
theorem Exh.set {ls : List (List Lnk)} {nx nx' : List Int} {v x y : Nat} {l : List Lnk} (h : Exh ls nx nx') (hl : ls[v]? = some l) (hx : nx'[v]? = some (x : Int)) (hxy : x ≤ y) (hyl : y ≤ l.length) : Exh ls nx (nx'.set v (y : Int)) := fun a l1 h1 h2 => by
  have h3 := h a l1 h1 h2
  by_cases e : v = a
  · subst e
    rw [hl] at h1
    cases h1
    rw [hx] at h3
    have : x = l.length := by injection h3 with h3; omega
    rw [List.getElem?_set_self (List.getElem?_eq_some_iff.1 hx).1]
    congr 1
    omega
  · rw [List.getElem?_set_ne e]; exact h3
theorem NxOk.set {ls : List (List Lnk)} {nx : List Int} {v y : Nat} {l : List Lnk} (h : NxOk ls nx) (hl : ls[v]? = some l) (hy : y ≤ l.length) : NxOk ls (nx.set v (y : Int)) := fun a l1 h1 => by
  obtain ⟨x, h2, h3⟩ := h a l1 h1
  by_cases e : v = a
  · subst e
    rw [hl] at h1
    cases h1
    exact ⟨y, by rw [List.getElem?_set_self (List.getElem?_eq_some_iff.1 h2).1], hy⟩
  · exact ⟨x, by rw [List.getElem?_set_ne e]; exact h2, h3⟩
end Go.Proofs.YtpffhoefmcpniaaGreatDoor
