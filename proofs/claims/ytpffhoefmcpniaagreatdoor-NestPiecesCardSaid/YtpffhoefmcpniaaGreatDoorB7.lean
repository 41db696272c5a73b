/- Parts of the proof: QFlQ, QFl4. -/
import Derived.Test.YtpffhoefmcpniaaGreatDoorB1
import Derived.Test.YtpffhoefmcpniaaGreatDoorB6
namespace Go.Proofs.YtpffhoefmcpniaaGreatDoor
open Go.RowKit

def app1 (f : List Int) (k : Lnk) : List Int := f.set k.e (f.getD k.e 0 + k.y)
def appAll (f : List Int) (p : List Lnk) : List Int := p.foldl app1 f
theorem app1_len (f : List Int) (k : Lnk) : (app1 f k).length = f.length := by simp [app1]
theorem appAll_len : ∀ (p : List Lnk) (f : List Int), (appAll f p).length = f.length
 | [], f => rfl
 | k :: p, f => by
  show (appAll (app1 f k) p).length = _
  rw [appAll_len p, app1_len]
theorem appAll_next {p : List Lnk} {i : Nat} {k : Lnk} (h : p[i]? = some k) (f : List Int) : appAll f (p.take (i + 1)) = app1 (appAll f (p.take i)) k := by
 have hlt := (List.getElem?_eq_some_iff.1 h).1
 unfold appAll
 rw [List.take_succ_eq_append_getElem hlt, (List.getElem?_eq_some_iff.1 h).2, List.foldl_append]
 rfl
def Near1 (f : List Int) (b : Nat) : Prop := ∀ x ∈ f, -(b : Int) ≤ x ∧ x ≤ b
theorem near_getD {f : List Int} {b : Nat} (h : Near1 f b) (i : Nat) : -(b : Int) ≤ f.getD i 0 ∧ f.getD i 0 ≤ b := by
 rw [List.getD_eq_getElem?_getD]
 cases e : f[i]? with
 | none => simp
 | some x => exact h x (List.mem_of_getElem? e)
theorem near_app {f : List Int} {b : Nat} {k : Lnk} (h : Near1 f b) (hk : k.y = 1 ∨ k.y = -1) : Near1 (app1 f k) (b + 1) := fun x hx => by
 unfold app1 at hx
 rcases List.mem_or_eq_of_mem_set hx with h1 | h1
 · have := h x h1
   omega
 · have := near_getD h k.e
   omega
theorem near_all : ∀ (p : List Lnk) {f : List Int} {b : Nat}, Near1 f b → (∀ k ∈ p, k.y = 1 ∨ k.y = -1) → Near1 (appAll f p) (b + p.length)
 | [], f, b, h, _ => h
 | k :: p, f, b, h, hk => by
  have := near_all p (near_app h (hk k List.mem_cons_self)) (fun q hq => hk q (List.mem_cons_of_mem _ hq))
  rw [List.length_cons, show b + (p.length + 1) = b + 1 + p.length by omega]
  exact this

def left1 (ls : List (List Lnk)) (nx : List Int) (i : Nat) : Nat := (ls.getD i []).length - (nx.getD i 0).toNat
def leftN (ls : List (List Lnk)) (nx : List Int) (n : Nat) : Nat := ((List.range n).map (left1 ls nx)).sum
theorem leftN_succ (ls : List (List Lnk)) (nx : List Int) (n : Nat) : leftN ls nx (n + 1) = leftN ls nx n + left1 ls nx n := by
 unfold leftN
 rw [List.range_succ]
 simp
theorem getD_set {l : List Int} {a : Nat} {x : Int} (ha : a < l.length) (i : Nat) : (l.set a x).getD i 0 = if i = a then x else l.getD i 0 := by
 rw [List.getD_eq_getElem?_getD, List.getElem?_set]
 by_cases e : a = i
 · subst e
   rw [if_pos rfl, if_pos ha, if_pos rfl]
   rfl
 · rw [if_neg e, if_neg (Ne.symm e), ← List.getD_eq_getElem?_getD]
theorem leftN_set {ls : List (List Lnk)} {nx : List Int} {a : Nat} {x : Int} (ha : a < nx.length) : ∀ n, leftN ls (nx.set a x) n + (if a < n then left1 ls nx a else 0) = leftN ls nx n + (if a < n then (ls.getD a []).length - x.toNat else 0)
 | 0 => by simp [leftN]
 | n + 1 => by
  have ih := leftN_set (ls := ls) (nx := nx) (a := a) (x := x) ha n
  rw [leftN_succ, leftN_succ]
  have e : left1 ls (nx.set a x) n = if n = a then (ls.getD a []).length - x.toNat else left1 ls nx n := by
   unfold left1
   rw [getD_set ha]
   by_cases h : n = a
   · rw [if_pos h, if_pos h, h]
   · rw [if_neg h, if_neg h]
  rw [e]
  by_cases h1 : n = a
  · subst h1
    rw [if_pos rfl, if_pos (by omega), if_pos (by omega)]
    rw [if_neg (by omega), if_neg (by omega)] at ih
    omega
  · rw [if_neg h1]
    by_cases h2 : a < n
    · rw [if_pos h2, if_pos h2] at ih
      rw [if_pos (by omega), if_pos (by omega)]
      omega
    · rw [if_neg h2, if_neg h2] at ih
      rw [if_neg (by omega), if_neg (by omega)]
      omega
theorem leftN_le {ls : List (List Lnk)} {nx : List Int} {a x y n : Nat} (hx : nx[a]? = some (x : Int)) (hxy : x ≤ y) : leftN ls (nx.set a (y : Int)) n ≤ leftN ls nx n := by
 have ha := (List.getElem?_eq_some_iff.1 hx).1
 have h := leftN_set (ls := ls) (nx := nx) (a := a) (x := (y : Int)) ha n
 have e : left1 ls nx a = (ls.getD a []).length - x := by
  unfold left1
  rw [show nx.getD a 0 = (x : Int) by rw [List.getD_eq_getElem?_getD, hx]; rfl]
  simp
 rw [e] at h
 split at h <;> simp at h <;> omega
theorem leftN_lt {ls : List (List Lnk)} {nx : List Int} {a x n : Nat} {l : List Lnk} (ha : a < n) (hl : ls[a]? = some l) (hx : nx[a]? = some (x : Int)) (hxl : x < l.length) : leftN ls (nx.set a ((x : Int) + 1)) n + 1 ≤ leftN ls nx n := by
 have hal := (List.getElem?_eq_some_iff.1 hx).1
 have h := leftN_set (ls := ls) (nx := nx) (a := a) (x := (x : Int) + 1) hal n
 have e : left1 ls nx a = l.length - x := by
  unfold left1
  rw [show nx.getD a 0 = (x : Int) by rw [List.getD_eq_getElem?_getD, hx]; rfl, show ls.getD a [] = l by rw [List.getD_eq_getElem?_getD, hl]; rfl]
  simp
 have e2 : ls.getD a [] = l := by rw [List.getD_eq_getElem?_getD, hl]; rfl
 rw [e, e2, if_pos ha, if_pos ha] at h
 omega
def leftW (ls : List (List Lnk)) (gx n : Nat) (W : World) : Nat := match W.heap[gx]? with | some (.cells cs _ _) => leftN ls (cs.toList.map intOf) n | _ => 0
theorem leftW_eq {W : World} {gx n t : Nat} {ls : List (List Lnk)} {nx : List Int} (h : Blk W gx t (ints nx)) : leftW ls gx n W = leftN ls nx n := by
 unfold leftW
 rw [show W.heap[gx]? = _ from h]
 congr 1
 unfold ints
 simp only [List.map_map]
 have : (intOf ∘ fun a => Value.int .i64 a) = id := by funext a; rfl
 rw [show (intOf ∘ Value.int .i64) = id by funext a; rfl]
 simp
def lenV : Value → Nat | .slice _ n _ => n | _ => 0

structure Way (ls : List (List Lnk)) (f d nx : List Int) (s : Nat) (p : List Lnk) (v : Nat) : Prop where
 head : p = [] → v = s
 first : ∀ k, p[0]? = some k → k.u = s
 last : ∀ k, p.getLast? = some k → k.v = v
 link : ∀ (i : Nat) (k k' : Lnk), p[i]? = some k → p[i + 1]? = some k' → k.v = k'.u
 try_ : ∀ k ∈ p, ∃ l x, ls[k.u]? = some l ∧ nx[k.u]? = some ((x : Nat) : Int) ∧ l[x]? = some k
 adm : ∀ k ∈ p, Adm f d k.u k
 dep : ∀ (i : Nat) (k : Lnk), p[i]? = some k → dAt d k.u = dAt d s + i
 depv : dAt d v = dAt d s + p.length
def Done (ls : List (List Lnk)) (f d nx : List Int) : Prop := ∀ (a j : Nat) (l : List Lnk) (x : Nat) (k : Lnk), ls[a]? = some l → nx[a]? = some (x : Int) → j < x → l[j]? = some k → Adm f d a k → ∃ l', ls[k.v]? = some l' ∧ nx[k.v]? = some (l'.length : Int)
def NxOk (ls : List (List Lnk)) (nx : List Int) : Prop := ∀ (a : Nat) (l : List Lnk), ls[a]? = some l → ∃ x : Nat, nx[a]? = some (x : Int) ∧ x ≤ l.length
theorem Way.start (ls : List (List Lnk)) (f d nx : List Int) (s : Nat) : Way ls f d nx s [] s :=
 ⟨(fun _ => rfl), (fun k h => by simp at h), (fun k h => by simp at h), (fun i k k' h => by simp at h), (fun k h => by cases h), (fun k h => by cases h), (fun i k h => by simp at h), by simp⟩
theorem Way.off {ls : List (List Lnk)} {f d nx : List Int} {s v : Nat} {p : List Lnk} (h : Way ls f d nx s p v) : ∀ k ∈ p, k.u ≠ v := fun k hk e => by
 obtain ⟨i, hi, he⟩ := List.getElem_of_mem hk
 have := h.dep i k (by rw [List.getElem?_eq_getElem hi, he])
 have h2 := h.depv
 rw [e] at this
 omega
theorem Way.next {ls : List (List Lnk)} {f d nx : List Int} {s v : Nat} {p : List Lnk} {y : Int} (h : Way ls f d nx s p v) : Way ls f d (nx.set v y) s p v :=
 ⟨h.head, h.first, h.last, h.link, fun k hk => by
  obtain ⟨l, x, h1, h2, h3⟩ := h.try_ k hk
  exact ⟨l, x, h1, by rw [List.getElem?_set_ne (Ne.symm (h.off k hk))]; exact h2, h3⟩, h.adm, h.dep, h.depv⟩
theorem Way.push {ls : List (List Lnk)} {f d nx : List Int} {s v x : Nat} {p : List Lnk} {q : Lnk} {l : List Lnk} (h : Way ls f d nx s p v) (hu : q.u = v) (hl : ls[v]? = some l) (hx : nx[v]? = some (x : Int)) (hq : l[x]? = some q) (ha : Adm f d v q) : Way ls f d nx s (p ++ [q]) q.v := by
 refine ⟨fun e => by simp at e, fun k hk => ?_, fun k hk => ?_, fun i k k' h1 h2 => ?_, fun k hk => ?_, fun k hk => ?_, fun i k hk => ?_, ?_⟩
 · cases p with
   | nil => simp at hk; subst hk; rw [hu]; exact h.head rfl
   | cons a t => simp at hk; subst hk; exact h.first a rfl
 · rw [List.getLast?_append] at hk
   simp at hk
   rw [← hk]
 · rcases Nat.lt_or_ge (i + 1) p.length with g | g
   · rw [List.getElem?_append_left (by omega)] at h1
     rw [List.getElem?_append_left g] at h2
     exact h.link i k k' h1 h2
   · have hi : i + 1 = p.length := by
      have := (List.getElem?_eq_some_iff.1 h2).1
      simp at this
      omega
     rw [List.getElem?_append_left (by omega)] at h1
     rw [hi, List.getElem?_append_right (Nat.le_refl _), Nat.sub_self] at h2
     simp at h2
     subst h2
     rw [hu]
     refine h.last k ?_
     rw [List.getLast?_eq_getElem?, show p.length - 1 = i by omega]
     exact h1
 · rcases List.mem_append.1 hk with h1 | h1
   · exact h.try_ k h1
   · rw [List.mem_singleton.1 h1, hu]
     exact ⟨l, x, hl, hx, hq⟩
 · rcases List.mem_append.1 hk with h1 | h1
   · exact h.adm k h1
   · rw [List.mem_singleton.1 h1, hu]; exact ha
 · rcases Nat.lt_or_ge i p.length with g | g
   · rw [List.getElem?_append_left g] at hk
     exact h.dep i k hk
   · have hi : i = p.length := by
      have := (List.getElem?_eq_some_iff.1 hk).1
      simp at this
      omega
     subst hi
     rw [List.getElem?_append_right (Nat.le_refl _), Nat.sub_self] at hk
     simp at hk
     subst hk
     rw [hu, h.depv]
 · have := ha.2
   rw [this, h.depv, List.length_append]
   simp
   omega
theorem Way.pop {ls : List (List Lnk)} {f d nx : List Int} {s v : Nat} {p : List Lnk} {q : Lnk} (h : Way ls f d nx s (p ++ [q]) v) : Way ls f d nx s p q.u := by
 have hq : (p ++ [q])[p.length]? = some q := by rw [List.getElem?_append_right (Nat.le_refl _), Nat.sub_self]; rfl
 refine ⟨fun e => ?_, fun k hk => ?_, fun k hk => ?_, fun i k k' h1 h2 => ?_, fun k hk => h.try_ k (List.mem_append_left _ hk), fun k hk => h.adm k (List.mem_append_left _ hk), fun i k hk => ?_, h.dep _ _ hq⟩
 · subst e
   exact h.first q rfl
 · refine h.first k ?_
   cases p with
   | nil => simp at hk
   | cons a t => simpa using hk
 · have hlt : p.length ≠ 0 := fun e => by rw [List.length_eq_zero_iff.1 e] at hk; simp at hk
   rw [List.getLast?_eq_getElem?] at hk
   refine h.link (p.length - 1) k q (by rw [List.getElem?_append_left (by omega)]; exact hk) (by rw [show p.length - 1 + 1 = p.length by omega]; exact hq)
 · have g1 := (List.getElem?_eq_some_iff.1 h1).1
   have g2 := (List.getElem?_eq_some_iff.1 h2).1
   exact h.link i k k' (by rw [List.getElem?_append_left g1]; exact h1) (by rw [List.getElem?_append_left g2]; exact h2)
 · have g1 := (List.getElem?_eq_some_iff.1 hk).1
   exact h.dep i k (by rw [List.getElem?_append_left g1]; exact hk)
theorem Done.skip {ls : List (List Lnk)} {f d nx : List Int} {v x y : Nat} {l : List Lnk} (h : Done ls f d nx) (hl : ls[v]? = some l) (hx : nx[v]? = some (x : Int)) (hxy : x ≤ y) (hyl : y ≤ l.length)
 (hn : ∀ (j : Nat) (q : Lnk), x ≤ j → j < y → l[j]? = some q → Adm f d v q → ∃ l', ls[q.v]? = some l' ∧ (nx.set v (y : Int))[q.v]? = some (l'.length : Int)) : Done ls f d (nx.set v (y : Int)) := by
 have hvl := (List.getElem?_eq_some_iff.1 hx).1
 have keep : ∀ (b : Nat) (l' : List Lnk), ls[b]? = some l' → nx[b]? = some (l'.length : Int) → (nx.set v (y : Int))[b]? = some (l'.length : Int) := fun b l' h1 h2 => by
  by_cases e : v = b
  · subst e
    rw [hl] at h1
    cases h1
    rw [hx] at h2
    have : x = l.length := by injection h2 with h2; omega
    rw [List.getElem?_set_self hvl]
    congr 1
    omega
  · rw [List.getElem?_set_ne e]; exact h2
 intro a j l1 x1 k h1 h2 h3 h4 h5
 by_cases e : v = a
 · subst e
   rw [List.getElem?_set_self hvl] at h2
   rw [hl] at h1
   cases h1
   have hx1 : x1 = y := by injection h2 with h2; omega
   subst hx1
   rcases Nat.lt_or_ge j x with g | g
   · obtain ⟨l', k1, k2⟩ := h v j l x k hl hx g h4 h5
     exact ⟨l', k1, keep _ _ k1 k2⟩
   · exact hn j k g h3 h4 h5
 · rw [List.getElem?_set_ne e] at h2
   obtain ⟨l', k1, k2⟩ := h a j l1 x1 k h1 h2 h3 h4 h5
   exact ⟨l', k1, keep _ _ k1 k2⟩
def Exh (ls : List (List Lnk)) (nx nx' : List Int) : Prop := ∀ (a : Nat) (l : List Lnk), ls[a]? = some l → nx[a]? = some (l.length : Int) → nx'[a]? = some (l.length : Int)
theorem Exh.set {ls : List (List Lnk)} {nx nx' : List Int} {v x y : Nat} {l : List Lnk} (h : Exh ls nx nx') (hl : ls[v]? = some l) (hx : nx'[v]? = some (x : Int)) (hxy : x ≤ y) (hyl : y ≤ l.length) : Exh ls nx (nx'.set v (y : Int)) := fun a l1 h1 h2 => by
 have h3 := h a l1 h1 h2
 by_cases e : v = a
 · subst e
   rw [hl] at h1
   cases h1
   rw [hx] at h3
   have : x = l.length := by injection h3 with h3; omega
   rw [List.getElem?_set_self (List.getElem?_eq_some_iff.1 hx).1]
   congr 1
   omega
 · rw [List.getElem?_set_ne e]; exact h3
theorem NxOk.set {ls : List (List Lnk)} {nx : List Int} {v y : Nat} {l : List Lnk} (h : NxOk ls nx) (hl : ls[v]? = some l) (hy : y ≤ l.length) : NxOk ls (nx.set v (y : Int)) := fun a l1 h1 => by
 obtain ⟨x, h2, h3⟩ := h a l1 h1
 by_cases e : v = a
 · subst e
   rw [hl] at h1
   cases h1
   exact ⟨y, by rw [List.getElem?_set_self (List.getElem?_eq_some_iff.1 h2).1], hy⟩
 · exact ⟨x, by rw [List.getElem?_set_ne e]; exact h2, h3⟩
end Go.Proofs.YtpffhoefmcpniaaGreatDoor

namespace Go.Proofs.YtpffhoefmcpniaaGreatDoor
open Go.RowKit

attribute [local go_sem ↓] Go.wp_at_zero Go.wp_at_succ

structure KeepX (S : Nat → Prop) (a b : World) : Prop where
 os : b.os = a.os
 tape : b.tape = a.tape
 output : b.output = a.output
 size : a.heap.size ≤ b.heap.size
 block : ∀ k, k < a.heap.size → ¬ S k → b.heap[k]? = a.heap[k]?
theorem KeepX.refl (S : Nat → Prop) (a : World) : KeepX S a a := ⟨rfl, rfl, rfl, Nat.le_refl _, fun _ _ _ => rfl⟩
theorem KeepX.wide {S T : Nat → Prop} {a b : World} (h : KeepX S a b) (hst : ∀ k, S k → T k) : KeepX T a b := ⟨h.os, h.tape, h.output, h.size, fun k hk hs => h.block k hk (fun e => hs (hst k e))⟩
theorem KeepX.grown {S : Nat → Prop} {a b c : World} {r : Option Nat} (h : KeepX S a b) (g : b.grownBy c r) (hr : ∀ k, r = some k → S k ∨ a.heap.size ≤ k) : KeepX S a c :=
 ⟨g.os.trans h.os, g.tape.trans h.tape, g.output.trans h.output, Nat.le_trans h.size g.size, fun k hk hs => (g.block k (Nat.lt_of_lt_of_le hk h.size) (fun e => by
  rcases hr k e.symm with h1 | h1
  · exact hs h1
  · omega)).trans (h.block k hk hs)⟩
theorem KeepX.blk {S : Nat → Prop} {a b : World} {g : Nat} {t : TypeId} {cs : Array Value} (h : KeepX S a b) (hb : Blk a g t cs) (hs : ¬ S g) : Blk b g t cs := (h.block g hb.lt hs).trans hb
theorem Wk.grownO {w0 W W' : World} {n m gw gf ge gd gx ct : Nat} {AT : Option Addr} {ls : List (List Lnk)} {f : List Int} {en : List Bool} {d nx : List Int} {r : Option Nat} (h : Wk w0 W n m gw gf ge gd gx ct AT ls f en d nx) (hg : W.grownBy W' r) (hr : ∀ k, r = some k → Freew w0 k ∧ k ≠ gw ∧ k ≠ gf ∧ k ≠ ge ∧ k ≠ gd ∧ k ≠ gx) : Wk w0 W' n m gw gf ge gd gx ct AT ls f en d nx := by
 cases r with
 | none => exact h.grown (r := W.heap.size) ⟨hg.os, hg.tape, hg.output, hg.size, fun k hk _ => hg.block k hk (fun e => by cases e)⟩ ⟨h.bel.free (Nat.le_refl _), Nat.ne_of_gt h.bw.lt, Nat.ne_of_gt h.bf.lt, Nat.ne_of_gt h.be.lt, Nat.ne_of_gt h.bd.lt, Nat.ne_of_gt h.bx.lt⟩
 | some k => exact h.grown hg (hr k rfl)
theorem Own.pre {w : World} {B s n n' c : Nat} {e : TypeId} {A : Option Addr} {xs xs' : List Value} (h : Own w B e s A n c xs) (hn : n' ≤ n) (hx : xs.take (n' * s) = xs') : Own w B e s A n' c xs' := by
 have hl := h.1
 have hle : n' * s ≤ n * s := Nat.mul_le_mul_right s hn
 refine ⟨by rw [← hx, List.length_take]; omega, ?_⟩
 rcases h.2 with ⟨h', h0⟩ | ⟨g, cap, cur, h1, h2, h3, h4, h5, h6, h7⟩
 · cases h'
   obtain rfl : n' = 0 := by omega
   exact .inl ⟨rfl, rfl⟩
 · cases h1
   refine .inr ⟨g, c, cur, rfl, h2, h3, by omega, h5, h6, ?_⟩
   rw [← hx, ← h7, List.take_take]
   congr 1
   omega
theorem lcells_take {p : List Lnk} {q : Lnk} : (lcells (p ++ [q])).take (p.length * 4) = lcells p := by
 rw [lcells_app, ← lcells_len, List.take_left]
theorem lnk_one (k : Lnk) : ∀ u ∈ [Value.int .i64 k.e, .int .i64 k.u, .int .i64 k.v, .int .i64 k.y], u.oneCell' = true := four_one _ _ _ _

set_option maxHeartbeats 8000000 in
theorem push_any (w0 W0 : World) (n m gw gf ge gd gx ct s : Nat) (AT : Option Addr) (ls : List (List Lnk)) (f : List Int) (en : List Bool) (d nx : List Int) (h : Wk w0 W0 n m gw gf ge gd gx ct AT ls f en d nx) (hk : LkIn n m ls) (hs : s < n) (hno : NxOk ls nx) (hn : n ≤ 1000000) (hm : m ≤ 1000000) (hd : ∀ a, -1 ≤ dAt d a ∧ dAt d a < n) (hf : Near1 f 1) :
 Calls Tryz.prog 132 #[.pointer (some ⟨gw, 0, none⟩), .int .i64 s] W0 fun e W' => ∃ nx', NxOk ls nx' ∧ Exh ls nx nx' ∧ (∀ v : Nat, en.getD v false = true → nx'[v]? = nx[v]?) ∧ KeepX (fun k => k = gf ∨ k = gx) W0 W' ∧
  ((∃ p t, Way ls f d nx' s p t ∧ en.getD t false = true ∧ e = .returned (.bool true) ∧ Wk w0 W' n m gw gf ge gd gx ct AT ls (appAll f p) en d nx') ∨ (e = .returned (.bool false) ∧ Wk w0 W' n m gw gf ge gd gx ct AT ls f en d nx' ∧ (Done ls f d nx → Done ls f d nx') ∧ ∃ l, ls[s]? = some l ∧ nx'[s]? = some (l.length : Int))) := by
 have HK := Lib.hid hk
 have HD := Lib.hid hd
 have HF := Lib.hid hf
 have HFR := Lib.hid (show ∀ k, W0.heap.size ≤ k → Freew w0 k from fun k hk => h.bel.free hk)
 have HLT : gw < W0.heap.size ∧ gw < W0.heap.size ∧ gf < W0.heap.size ∧ ge < W0.heap.size ∧ gd < W0.heap.size ∧ gx < W0.heap.size := ⟨h.bw.lt, h.bw.lt, h.bf.lt, h.be.lt, h.bd.lt, h.bx.lt⟩
 have H0 := Lib.hid hno
 clear hk hd hf hno
 go_enter Tryz.func132, Tryz.ntmps132
 go_wp2_with fail
 go_loopw [5, 6] (fun r cur W => KeepX (fun k => k = gx) W0 W ∧ ∃ (p : List Lnk) (v : Nat) (nx' : List Int) (A : Option Addr) (c : Nat), r = .slice A p.length c ∧ cur = .int .i64 v ∧ v < n ∧ Wk w0 W n m gw gf ge gd gx ct AT ls f en d nx' ∧ Own W W0.heap.size 230 4 A p.length c (lcells p) ∧ Way ls f d nx' s p v ∧ NxOk ls nx' ∧ (Done ls f d nx → Done ls f d nx') ∧ (∀ v : Nat, en.getD v false = true → nx'[v]? = nx[v]?) ∧ (∀ k ∈ p, en.getD k.u false = false) ∧ Exh ls nx nx') (fun r _ W => 2 * leftW ls gx n W + (n + 1) - lenV r)
 case atStart => exact ⟨KeepX.refl _ _, [], s, nx, none, 0, rfl, rfl, hs, h, Own.nil _ _ _ _, Way.start _ _ _ _ _, H0.out, id, (fun _ _ => rfl), (fun k hk => by cases hk), fun _ _ _ h => h⟩
 case round =>
  clear h
  obtain ⟨hkeep, p, v, nx', A, c, rfl, rfl, hv, hw, hown, hway, hok, hdn, hen, hpe, hexh⟩ := hrel
  have HW := Lib.hid hw
  have HWY := Lib.hid hway
  have HOK := Lib.hid hok
  have HDN := Lib.hid hdn
  have HEN := Lib.hid hen
  have HPE := Lib.hid hpe
  have HXH := Lib.hid hexh
  have hpl : p.length ≤ n := by
   have h1 := hway.depv
   have h2 := HD.out v
   have h3 := HD.out s
   omega
  obtain ⟨y0, y1, y2, y3, y4⟩ := hw.bw.five
  obtain ⟨eb, heb⟩ : ∃ z, en[v]? = some z := ⟨_, List.getElem?_eq_getElem (by rw [hw.le]; exact hv)⟩
  have ce := hw.be.cellB heb
  have hed : en.getD v false = eb := by rw [List.getD_eq_getElem?_getD, heb]; rfl
  obtain ⟨l, hl⟩ : ∃ l, ls[v]? = some l := ⟨_, List.getElem?_eq_getElem (by rw [hw.at0.1]; exact hv)⟩
  obtain ⟨x, hx, hxl⟩ := hok v l hl
  have HM := Lib.hid (leftW_eq (ls := ls) (n := n) hw.bx)
  have i1 : (0 : Int) ≤ (v : Int) := by omega
  have i2 : (v : Int) < (n : Int) := by omega
  have hq5 : ∀ (nx2 : List Int) (W : World), Wk w0 W n m gw gf ge gd gx ct AT ls f en d nx2 → leftW ls gx n W = leftN ls nx2 n := fun nx2 W g => leftW_eq g.bx
  have HQ5 := Lib.hid hq5
  have hmr : leftW ls gx n wr = leftN ls nx' n := HM.out
  clear hw hway hok hdn hen heb hpe hexh hq5 HM
  cases eb
  · go_wp2_with fail
    with_reducible refine (advance_any w0 wr n m gw gf ge gd gx ct v AT ls f en d nx' l x HW.out HK.out hv hl hx hxl hn hm HD.out).mono ?_
    rintro e w5 ⟨k, hxk, hkl, hw5, hg5, hno5, hres⟩
    have hkeep5 := hkeep.grown hg5 (fun k e => .inl (by injection e with e; exact e.symm))
    have hown5 := hown.far hg5 (.inr (fun e => by have := hown.ne (g := gx) HLT.2.2.2.2.2; exact this e))
    have HNO := Lib.hid hno5
    have HW5 := Lib.hid hw5
    clear hkeep hown hg5 hno5 hw5 y0 y1 y2 y3 y4 ce
    rcases hres with ⟨q, hq, hadm, rfl⟩ | ⟨rfl, rfl⟩
    · have HQI := Lib.hid ((HK.out v l hl).2 q (List.mem_of_getElem? hq))
      obtain ⟨V1, hV1⟩ : ∃ V1, V1 = w5.alloc (.cells #[.int .i64 q.e, .int .i64 q.u, .int .i64 q.v, .int .i64 q.y] 230) := ⟨_, rfl⟩
      have hs1 : V1.heap.size = w5.heap.size + 1 := by rw [hV1]; simp
      have hbox : Blk V1 w5.heap.size 230 #[.int .i64 q.e, .int .i64 q.u, .int .i64 q.v, .int .i64 q.y] := by rw [hV1]; exact Blk.new _ _ _
      have hbx2 := hbox.alloc (.cells #[.int .i64 q.e, .int .i64 q.u, .int .i64 q.v, .int .i64 q.y] 230)
      have hbr : Below w5.heap.size w5 (V1.alloc (.cells #[.int .i64 q.e, .int .i64 q.u, .int .i64 q.v, .int .i64 q.y] 230)) := by rw [hV1]; exact ((Below.refl _ _).alloc (Nat.le_refl _) _).alloc (by simp) _
      have hown6 := hown5.below hbr
      have hnew : Blk (V1.alloc (.cells #[.int .i64 q.e, .int .i64 q.u, .int .i64 q.v, .int .i64 q.y] 230)) V1.heap.size 230 #[.int .i64 q.e, .int .i64 q.u, .int .i64 q.v, .int .i64 q.y] := Blk.new _ _ _
      have hrd := hnew.rds (s := 4) (m := 1) rfl
      rw [hs1] at hrd
      have hW6 := HW5.out.below hbr
      have hkeep6 := hkeep5.grown (grownBy_below hbr none) (fun k e => by cases e)
      have hz6 : W0.heap.size ≤ (V1.alloc (.cells #[.int .i64 q.e, .int .i64 q.u, .int .i64 q.v, .int .i64 q.y] 230)).heap.size := hkeep6.size
      have hAlt := hown5.lt
      clear hbox hnew hbr
      rw [hV1] at hrd hown6 hbx2 hW6 hkeep6 hz6
      clear hV1 hs1
      go_wp2_with (at_builtin; with_reducible refine wpList_app rfl (.tmp 27) (.tmp 29) 228 rfl 230 _ 4 32 infoLink Tryz.underlying228 rfl (by omega) rfl rfl hown6 hrd (lnk_one q) (by omega) (by omega) hz6 ?_)
      intro A' c' w7 hown7 hg7 _
      have hbx7 := hbx2.grown hg7 (fun e => by have := (hAlt _ e).2; omega)
      have cbx := hbx7.four.2.2.1
      have hW7 := hW6.grownO hg7 (fun k e => by have := (hAlt k e).1; exact ⟨HFR.out k this, by omega, by omega, by omega, by omega, by omega⟩)
      have hkeep7 := hkeep6.grown hg7 (fun k e => .inr (hAlt k e).1)
      have hxs : (nx'.set v (k : Int))[v]? = some (k : Int) := List.getElem?_set_self (List.getElem?_eq_some_iff.1 hx).1
      have HR := Lib.hid (show Wk w0 w7 n m gw gf ge gd gx ct AT ls f en d (nx'.set v k) ∧ Own w7 W0.heap.size 230 4 A' (p.length + 1) c' (lcells p ++ lcells [q]) ∧ Way ls f d (nx'.set v k) s (p ++ [q]) q.v ∧ NxOk ls (nx'.set v k) ∧ (Done ls f d nx → Done ls f d (nx'.set v k)) ∧ (∀ a : Nat, en.getD a false = true → (nx'.set v k)[a]? = nx[a]?) ∧ (∀ k ∈ p ++ [q], en.getD k.u false = false) ∧ Exh ls nx (nx'.set v (k : Int)) from
       ⟨hW7, hown7, HWY.out.next.push HQI.out.1 hl hxs hq hadm, HOK.out.set hl hkl, fun g => (HDN.out g).skip hl hx hxk hkl (fun j q' g1 g2 g3 g4 => absurd g4 (HNO.out j q' g1 g2 g3)), fun a ha => by
        rw [List.getElem?_set_ne (fun e => by subst e; rw [hed] at ha; cases ha)]
        exact HEN.out a ha, (fun k hk => by
        rcases List.mem_append.1 hk with h1 | h1
        · exact HPE.out k h1
        · rw [List.mem_singleton.1 h1, HQI.out.1]; exact hed), HXH.out.set hl hx hxk hkl⟩)
      have hm7 : leftW ls gx n w7 ≤ leftW ls gx n wr := by
       rw [HQ5.out _ _ hW7, hmr]
       exact leftN_le hx hxk
      have hqv := HQI.out.2.1
      clear hown6 hrd hbx2 hW6 hg7 hbx7 hW7 hown7 hadm hq hxs hkeep6 hkeep5 hown5 hAlt
      go_wp2_with fail
      go_roundw
      case rel => exact ⟨hkeep7, p ++ [q], q.v, nx'.set v k, A', c', by simp, rfl, hqv, HR.out.1, by rw [List.length_append, lcells_app]; exact HR.out.2.1, HR.out.2.2.1, HR.out.2.2.2.1, HR.out.2.2.2.2.1, HR.out.2.2.2.2.2.1, HR.out.2.2.2.2.2.2.1, HR.out.2.2.2.2.2.2.2⟩
      case measure => simp only [lenV]; omega
    · have HDN2 := Lib.hid (show Done ls f d nx → Done ls f d (nx'.set v (l.length : Int)) from fun g => (HDN.out g).skip hl hx hxl (Nat.le_refl _) (fun j q' g1 g2 g3 g4 => absurd g4 (HNO.out j q' g1 g2 g3)))
      have HEN2 := Lib.hid (show ∀ a : Nat, en.getD a false = true → (nx'.set v (l.length : Int))[a]? = nx[a]? from fun a ha => by
       rw [List.getElem?_set_ne (fun e => by subst e; rw [hed] at ha; cases ha)]
       exact HEN.out a ha)
      have HOK2 := Lib.hid (HOK.out.set hl (Nat.le_refl _))
      have HXH2 := Lib.hid (HXH.out.set hl hx hxl (Nat.le_refl _))
      have hvl := (List.getElem?_eq_some_iff.1 hx).1
      have hxs : (nx'.set v (l.length : Int))[v]? = some (l.length : Int) := List.getElem?_set_self hvl
      have hm5 : leftN ls (nx'.set v (l.length : Int)) n ≤ leftN ls nx' n := leftN_le hx hxl
      have hbr : Below w5.heap.size w5 (w5.alloc (.cells #[.int .i64 0, .int .i64 0, .int .i64 0, .int .i64 0] 230)) := (Below.refl _ _).alloc (Nat.le_refl _) _
      have hW6 := HW5.out.below hbr
      have hkeep6 := hkeep5.grown (grownBy_below hbr none) (fun k e => by cases e)
      have hown6 := hown5.below hbr
      obtain ⟨W6, hW6e⟩ : ∃ W6, W6 = w5.alloc (.cells #[.int .i64 0, .int .i64 0, .int .i64 0, .int .i64 0] 230) := ⟨_, rfl⟩
      rw [← hW6e] at hW6 hkeep6 hown6
      clear hbr hkeep5 hown5 HW5 HNO
      rcases List.eq_nil_or_concat p with rfl | ⟨p0, q, rfl⟩
      · have hvs : v = s := HWY.out.head rfl
        subst hvs
        have HR := Lib.hid (show Wk w0 W6 n m gw gf ge gd gx ct AT ls f en d (nx'.set v (l.length : Int)) from hW6)
        have HL := Lib.hid (show ∃ l, ls[v]? = some l ∧ (nx'.set v (l.length : Int))[v]? = some (l.length : Int) from ⟨l, hl, hxs⟩)
        clear hW6 hown6
        go_wp2_with fail
        rw [← hW6e]
        go_ret
        exact ⟨nx'.set v (l.length : Int), HOK2.out, HXH2.out, HEN2.out, hkeep6.wide (fun k e => .inr e), .inr ⟨rfl, HR.out, HDN2.out, l, hl, hxs⟩⟩
      · rw [List.concat_eq_append] at *
        have hlen : (p0 ++ [q]).length = p0.length + 1 := by simp
        have HWQ := Lib.hid (HWY.out.next (y := (l.length : Int)))
        obtain ⟨lq, xq, hlq, hxq, hqq⟩ := HWQ.out.try_ q (by simp)
        have hoff := HWQ.out.off q (by simp)
        have hlast : q.v = v := HWQ.out.last q (by simp)
        have hqin := (HK.out q.u lq hlq).2 q (List.mem_of_getElem? hqq)
        have hun : q.u < n := by rw [← hW6.at0.1]; exact (List.getElem?_eq_some_iff.1 hlq).1
        have hxql := (List.getElem?_eq_some_iff.1 hqq).1
        have HADM := Lib.hid (HWQ.out.adm q (by simp))
        have HPOP := Lib.hid (HWQ.out.pop.next (y := ((xq + 1 : Nat) : Int)))
        have HOK3 := Lib.hid (HOK2.out.set (y := xq + 1) hlq hxql)
        have HXH3 := Lib.hid (HXH2.out.set (y := xq + 1) hlq hxq (by omega) hxql)
        have HDN3 := Lib.hid (show Done ls f d nx → Done ls f d ((nx'.set v (l.length : Int)).set q.u ((xq + 1 : Nat) : Int)) from fun g => (HDN2.out g).skip hlq hxq (by omega) hxql (fun j q' g1 g2 g3 g4 => by
         obtain rfl : j = xq := by omega
         rw [hqq] at g3
         cases g3
         exact ⟨l, by rw [hlast]; exact hl, by rw [hlast, List.getElem?_set_ne hoff]; exact hxs⟩))
        have hedu : en.getD q.u false = false := HPE.out q (by simp)
        have HEN3 := Lib.hid (show ∀ a : Nat, en.getD a false = true → ((nx'.set v (l.length : Int)).set q.u ((xq + 1 : Nat) : Int))[a]? = nx[a]? from fun a ha => by
         rw [List.getElem?_set_ne (fun e => by subst e; rw [hedu] at ha; cases ha)]
         exact HEN2.out a ha)
        have HPE3 := Lib.hid (show ∀ k ∈ p0, en.getD k.u false = false from fun k hk => HPE.out k (List.mem_append_left _ hk))
        have hm6 := leftN_lt (n := n) hun hlq hxq hxql
        have hcap := hown6.cap
        have hcm := hown6.capMax
        rw [hlen] at hcap
        obtain ⟨gr, cur, hA, hgr, _⟩ := hown6.block (by rw [hlen]; omega)
        subst hA
        have hrdl := hown6.rds.rdL
        obtain ⟨rb, ro, q', e, hq', _, c1, _, _⟩ := hrdl.at_ (i := p0.length) (by rw [hlen]; omega)
        cases e
        rw [List.getElem?_append_right (Nat.le_refl _), Nat.sub_self] at hq'
        cases hq'
        rw [Nat.zero_add] at c1
        have hpre := hown6.pre (n' := p0.length) (by rw [hlen]; omega) lcells_take
        have y4 := hW6.bw.five.2.2.2.2
        have cx := hW6.bx.cellI hxq
        have cxf := hW6.bx.frozen q.u
        have HW7 := Lib.hid (hW6.setX (v := q.u) (y := ((xq + 1 : Nat) : Int)))
        have HO7 := Lib.hid (hpre.far (grownBy_set W6 gx q.u (.int .i64 ((xq + 1 : Nat) : Int))) (.inr (fun e => by injection e with e; have := HLT.2.2.2.2.2; simp only at e; omega)))
        have hkeep7 := hkeep6.grown (grownBy_set W6 gx q.u (.int .i64 ((xq + 1 : Nat) : Int))) (fun k e => .inl (by injection e with e; exact e.symm))
        have hm7 : leftW ls gx n (W6.setCell ⟨gx, q.u, none⟩ (.int .i64 ((xq + 1 : Nat) : Int))) + 1 ≤ leftW ls gx n wr := by
         rw [HQ5.out _ _ HW7.out, hmr]
         have : leftN ls ((nx'.set v (l.length : Int)).set q.u ((xq + 1 : Nat) : Int)) n + 1 ≤ leftN ls (nx'.set v (l.length : Int)) n := hm6
         omega
        rw [hlen] at hpl ⊢
        have i3 : (0 : Int) ≤ (p0.length : Int) := by omega
        have i4 : (p0.length : Int) < (p0.length : Int) + 1 := by omega
        have i5 : (p0.length : Int) ≤ (c : Int) := by omega
        have e6 : ((p0.length : Int) + 1 == 0) = false := by simp only [beq_eq_false_iff_ne]; omega
        have e7 : IntKind.i64.wrap (p0.length : Int) = (p0.length : Int) := IntWalk.i64_in _ (by omega)
        have e8 : IntKind.i64.wrap ((xq : Int) + 1) = (xq : Int) + 1 := IntWalk.i64_in _ (by have := (HK.out q.u lq hlq).1; omega)
        have i6 : (0 : Int) ≤ (q.u : Int) := by omega
        have i7 : (q.u : Int) < (n : Int) := by omega
        have HQIN := Lib.hid hqin
        clear hW6 hown6 hrdl hpre hqin hlq hxq hqq hl hx hxs hlast hkeep6 hm6 hm5
        subst hW6e
        have hm8 : leftW ls gx n ((w5.alloc (.cells #[.int .i64 0, .int .i64 0, .int .i64 0, .int .i64 0] 230)).setCell ⟨gx, q.u, none⟩ (.int .i64 ((xq : Int) + 1))) + 1 ≤ leftW ls gx n wr := hm7
        have hlc : (p0.concat q).length = p0.length + 1 := by simp
        go_wp2_with fail
        exact ⟨⟨hkeep7, p0, q.u, _, _, c, rfl, rfl, hun, HW7.out, HO7.out, HPOP.out, HOK3.out, HDN3.out, HEN3.out, HPE3.out, HXH3.out⟩, by simp only [lenV]; omega⟩
  · have hkw := hkeep.wide (T := fun k => k = gf ∨ k = gx) (fun k e => .inr e)
    have HTY := Lib.hid HWY.out.try_
    go_wp2_with fail
    clear y0 y1 y2 y3 y4 ce
    go_loopw [59] (fun idx W => KeepX (fun k => k = gf ∨ k = gx) W0 W ∧ ∃ i : Nat, i ≤ p.length ∧ idx = .int .i64 i ∧ Wk w0 W n m gw gf ge gd gx ct AT ls (appAll f (p.take i)) en d nx' ∧ Own W W0.heap.size 230 4 A p.length c (lcells p)) (fun idx _ => p.length - (intOf idx).toNat)
    case atStart => exact ⟨hkw, 0, Nat.zero_le _, rfl, HW.out, hown⟩
    case round =>
     clear hkw hkeep hown
     obtain ⟨hkeep, i, hi, rfl, hw, hown⟩ := hrel
     by_cases hlt : i < p.length
     · obtain ⟨rb, ro, k, rfl, hk, c0, c1, c2, c3⟩ := hown.rds.rdL.at_ hlt
       obtain ⟨lk, xk, hlk, _, hxk⟩ := HTY.out k (List.mem_of_getElem? hk)
       have hki := (HK.out k.u lk hlk).2 k (List.mem_of_getElem? hxk)
       have hke := hki.2.2.1
       have hky := hki.2.2.2
       have HN := Lib.hid (appAll_next hk f)
       have hnear : Near1 (appAll f (p.take i)) (1 + i) := by
        have h1 := near_all (p.take i) HF.out (fun q hq => by
         obtain ⟨lq, xq, hlq, _, hxq⟩ := HTY.out q (List.mem_of_mem_take hq)
         exact ((HK.out q.u lq hlq).2 q (List.mem_of_getElem? hxq)).2.2.2)
        rw [List.length_take, Nat.min_eq_left hi] at h1
        exact h1
       have hfe := near_getD hnear k.e
       have hlf := hw.lf
       have HW2 := Lib.hid hw
       generalize hfi : appAll f (p.take i) = fi at *
       obtain ⟨fe, hfx, hfg⟩ : ∃ z, fi[k.e]? = some z ∧ fi.getD k.e 0 = z := ⟨fi.getD k.e 0, by rw [List.getD_eq_getElem?_getD, List.getElem?_eq_getElem (by omega)]; rfl, rfl⟩
       rw [hfg] at hfe
       have HAP := Lib.hid (show fi.set k.e (fe + k.y) = app1 fi k by unfold app1; rw [hfg])
       obtain ⟨W2, hW2⟩ : ∃ W2, W2 = wr.alloc (.cells #[.int .i64 k.e, .int .i64 k.u, .int .i64 k.v, .int .i64 k.y] 230) := ⟨_, rfl⟩
       have hbox : Blk W2 wr.heap.size 230 #[.int .i64 k.e, .int .i64 k.u, .int .i64 k.v, .int .i64 k.y] := by rw [hW2]; exact Blk.new _ _ _
       have hr2 : Below wr.heap.size wr W2 := by rw [hW2]; exact bELt
       have hw2 := hw.below hr2
       have hown2 := hown.below hr2
       have hkeep2 := hkeep.grown (grownBy_below hr2 none) (fun k e => by cases e)
       have s1 := hw2.bw.five.2.1
       obtain ⟨s2, _, _, s3⟩ := hbox.four
       have s4 := hw2.bf.cellI hfx
       have s4f := hw2.bf.frozen k.e
       have hgf : gw ≠ gf := hw2.ne.1
       have hbf : wr.heap.size ≠ gf := Nat.ne_of_gt hw.bf.lt
       have t1 : (W2.setCell ⟨gf, k.e, none⟩ (.int .i64 (fe + k.y))).cell? ⟨gw, 1, none⟩ = some (.slice (some ⟨gf, 0, none⟩) m m) := by
        rw [World.cell?_setCell_other _ _ _ _ (fun e => hgf (by injection e with e1; exact e1.symm))]; exact s1
       have t2 : (W2.setCell ⟨gf, k.e, none⟩ (.int .i64 (fe + k.y))).cell? ⟨wr.heap.size, 0, none⟩ = some (.int .i64 k.e) := by
        rw [World.cell?_setCell_other _ _ _ _ (fun e => hbf (by injection e with e1; exact e1.symm))]; exact s2
       have t3 : (W2.setCell ⟨gf, k.e, none⟩ (.int .i64 (fe + k.y))).cell? ⟨wr.heap.size, 3, none⟩ = some (.int .i64 k.y) := by
        rw [World.cell?_setCell_other _ _ _ _ (fun e => hbf (by injection e with e1; exact e1.symm))]; exact s3
       have HWN := Lib.hid (hw2.setF (v := k.e) (y := fe + k.y)).drew
       have HON := Lib.hid (hown2.far (grownBy_set W2 gf k.e (.int .i64 (fe + k.y))) (.inr (hown2.ne HLT.2.2.1))).drew
       have hkn := (hkeep2.grown (grownBy_set W2 gf k.e (.int .i64 (fe + k.y))) (fun k e => .inl (.inl (by injection e with e; exact e.symm)))).grown (grownBy_below (Below.refl _ _).drew none) (fun k e => by cases e)
       have HSX := Lib.hid (show ∀ V : World, (V.cell? ⟨gw, 1, none⟩ = some (.slice (some ⟨gf, 0, none⟩) m m) ∧ V.cell? ⟨wr.heap.size, 0, none⟩ = some (.int .i64 k.e) ∧ V.cell? ⟨wr.heap.size, 3, none⟩ = some (.int .i64 k.y)) → V.cell? ⟨gw, 1, none⟩ = some (.slice (some ⟨gf, 0, none⟩) m m) ∧ V.cell? ⟨wr.heap.size, 0, none⟩ = some (.int .i64 k.e) ∧ V.cell? ⟨wr.heap.size, 3, none⟩ = some (.int .i64 k.y) from fun V h => h)
       have i3 : (0 : Int) ≤ (i : Int) := by omega
       have i4 : (i : Int) < (p.length : Int) := by omega
       have i5 : (0 : Int) ≤ (k.e : Int) := by omega
       have i6 : (k.e : Int) < (m : Int) := by omega
       have e1 : IntKind.i64.wrap (fe + k.y) = fe + k.y := IntWalk.i64_in _ (by omega)
       clear hown hw hk hki hlk hxk hbox hr2 hw2 hown2 hkeep2 hnear hfg hfx
       go_wp2_with fail
       rw [← hW2]
       clear hW2
       refine wp_region_held_drew (S := fun V => V.cell? ⟨gw, 1, none⟩ = some (.slice (some ⟨gf, 0, none⟩) m m) ∧ V.cell? ⟨wr.heap.size, 0, none⟩ = some (.int .i64 k.e) ∧ V.cell? ⟨wr.heap.size, 3, none⟩ = some (.int .i64 k.y)) (by kernel_rfl) ⟨s1, s2, s3⟩ (fun _ => ?_)
       refine tk 0 63 (h := ⟨_, tv, ?_⟩)
       simp only [pE, List.set]
       refine tk 1 64 (h := ⟨_, tv, ?_⟩)
       simp only [pE, List.set]
       refine tk 2 65 (h := ⟨_, tv, ?_⟩)
       simp only [pE, List.set]
       refine tk 3 66 (h := ⟨_, tv, ?_⟩)
       simp only [pE, List.set]
       refine tk 4 67 (h := ⟨_, tv, ?_⟩)
       simp only [pE, List.set]
       refine tk 5 68 (h := ⟨_, tv, ?_⟩)
       simp only [pE, List.set]
       refine tk 6 69 (h := ⟨_, tv, ?_⟩)
       simp only [pE, List.set]
       refine tk 8 71 (h := ⟨_, tv, ?_⟩)
       simp only [pE, List.set]
       refine tk 9 72 (h := ⟨_, tv, ?_⟩)
       simp only [pE, List.set]
       refine wpAnyH_ready (rs := [7]) (by kernel_rfl) (by simp) ?_
       refine AllReadyH.cons (o := _) rfl (fun K hK => ?_) AllReadyH.nil
       go_simp
       refine hK.out _ _ ⟨s1, s2, s3⟩ (fun _ => ?_)
       clear hK K
       refine tk 10 73 (h := ⟨_, tv, ?_⟩)
       simp only [pE, List.set]
       refine tk 11 74 (h := ⟨_, tv, ?_⟩)
       simp only [pE, List.set]
       refine wpAnyH_ready (rs := [12]) (by kernel_rfl) (by simp) ?_
       refine AllReadyH.cons (o := _) rfl (fun K hK => ?_) AllReadyH.nil
       go_simp
       refine hK.out _ _ ⟨t1, t2, t3⟩ (fun _ => ?_)
       clear hK K
       refine wpAnyH_done (by kernel_rfl) ?_ _
       clear s1 s2 s3 s4 s4f t1 t2 t3 HSX
       go_wp2_with fail
       go_roundw
       case rel => exact ⟨hkn, i + 1, by omega, by go_num, by rw [HN.out, ← HAP.out]; exact HWN.out, HON.out⟩
       case measure => simp [intOf]; omega
     · obtain rfl : i = p.length := by omega
       rw [List.take_of_length_le (Nat.le_refl _)] at hw
       have HWF := Lib.hid hw
       clear hw hown
       go_wp2_with fail
       go_ret
       exact ⟨nx', HOK.out, HXH.out, HEN.out, hkeep, .inl ⟨p, v, HWY.out, hed, rfl, HWF.out⟩⟩
end Go.Proofs.YtpffhoefmcpniaaGreatDoor
