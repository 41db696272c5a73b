/- Parts of the proof: RfI, LsP, RfT, RoP, RoQ, RoT, RfC, RoM. -/
import Derived.Test.YtgkeolddpielpaaGreatM23
namespace Go.Proofs.YtgkeolddpielpaaGreat
open Go.RowKit

attribute [local go_sem ↓] Go.wp_at_zero Go.wp_at_succ

end Go.Proofs.YtgkeolddpielpaaGreat

namespace Go.Proofs.YtgkeolddpielpaaGreat
open Go.RowKit

attribute [local go_sem ↓] Go.wp_at_zero Go.wp_at_succ

set_option maxHeartbeats 400000 in
theorem place_any (A : Option Addr) (n c : Nat) (l : List Int) (v : Int) (w : World) (h : RdI w A n l) (hn : n ≤ 1000000000) :
 Calls Tryz.prog 15 #[.slice A n c, .int .i64 v] w fun e w' => e = .returned (.int .i64 (plI l v)) ∧ w = w' := by
 have HR := Lib.hid h
 have HL := Lib.hid h.1
 clear h
 go_enter Tryz.func15, Tryz.ntmps15
 go_wp2_with fail
 go_loop [5] (fun q => ∃ k : Nat, k ≤ n ∧ q = .int .i64 k ∧ ∀ j x, j < k → l[j]? = some x → x ≠ v) (fun q => n - (intOf q).toNat)
 case atStart => exact ⟨0, Nat.zero_le _, rfl, fun _ _ h => absurd h (Nat.not_lt_zero _)⟩
 case round =>
  obtain ⟨k, hk, rfl, hj⟩ := hrel
  have HJ := Lib.hid hj
  clear hj
  by_cases hlt : k < n
  · obtain ⟨b, o, x, rfl, hx, hc⟩ := HR.out.at_ hlt
    have i1 : (0 : Int) ≤ (k : Int) := by omega
    have i2 : (k : Int) < (n : Int) := by omega
    by_cases e : x = v
    · have HP := Lib.hid (plI_hit (e ▸ hx) HJ.out)
      have e1 : (x == v) = true := by simpa using e
      have e2 : (v == x) = true := by simpa using e.symm
      clear e hx
      go_wp2_with fail
      go_ret
      exact ⟨ret_int HP.out.symm, rfl⟩
    · have e1 : (x == v) = false := by simpa using e
      have e2 : (v == x) = false := by simpa using (fun h : v = x => e h.symm)
      have HX := Lib.hid hx
      have HE := Lib.hid e
      clear e hx
      go_wp2_with fail
      go_round
      case rel => exact ⟨k + 1, by omega, by go_num, fun j y hj hy => by
       by_cases ej : j = k
       · subst ej
         rw [HX.out] at hy
         cases hy
         exact HE.out
       · exact HJ.out j y (by omega) hy⟩
      case measure => simp [intOf]; omega
  · obtain rfl : n = k := by omega
    have HP := Lib.hid (plI_miss (l := l) (v := v) (fun hm => by
     obtain ⟨j, hj⟩ := List.getElem?_of_mem hm
     exact HJ.out j v (by rw [← HL.out]; exact (List.getElem?_eq_some_iff.1 hj).1) hj rfl))
    go_wp2_with fail
    go_ret
    exact ⟨ret_int HP.out.symm, rfl⟩
end Go.Proofs.YtgkeolddpielpaaGreat

namespace Go.Proofs.YtgkeolddpielpaaGreat
open Go.RowKit

attribute [local go_sem ↓] Go.wp_at_zero Go.wp_at_succ

theorem refThere_ok (A B C : Option Addr) (n m k c d e : Nat) (a : Int) (w : World) (h0 : 0 ≤ a) (h1 : a < m) :
 Calls Tryz.prog 57 #[.agg #[.slice A n c, .slice B m d, .slice C k e], .int .i64 a] w fun r w' => r = .returned (.bool true) ∧ Below w.heap.size w w' := by
 go_enter Tryz.func57, Tryz.ntmps57
 go_wp2
 go_ret
 exact ⟨ret_bool (by first | (simp; done) | (simp; omega)), bELt⟩
theorem idx_at {f : Tri → Int} {l : List Tri} {k : Nat} {y : Tri} (h : l[k]? = some y) : ∀ j, k < j → j ≤ l.length → (idx f (l.take j) (f y))[(idx f (l.take k) (f y)).length]? = some (k : Int) := by
 intro j
 induction j with
 | zero => intro h1; omega
 | succ j ih =>
  intro h1 h2
  obtain ⟨z, hz⟩ : ∃ z, l[j]? = some z := ⟨_, List.getElem?_eq_getElem (by omega)⟩
  rw [idx_take hz]
  by_cases e : k = j
  · subst e
    rw [h] at hz
    cases hz
    rw [List.getElem?_append_right (Nat.le_refl _), Nat.sub_self]
    simp
  · have := ih (by omega) (by omega)
    rw [List.getElem?_append_left (List.getElem?_eq_some_iff.1 this).1]
    exact this
theorem plI_idx {f : Tri → Int} {l : List Tri} {k : Nat} {y : Tri} (h : l[k]? = some y) : plI (idx f l (f y)) (k : Int) = ((idx f (l.take k) (f y)).length : Nat) := by
 have hk := (List.getElem?_eq_some_iff.1 h).1
 have h1 := idx_at (f := f) h l.length hk (Nat.le_refl _)
 rw [List.take_length] at h1
 refine plI_hit h1 (fun j x hj hx => ?_)
 have hs := idx_sorted f (f y) l
 rw [List.pairwise_iff_getElem] at hs
 obtain ⟨p1, e1⟩ := List.getElem?_eq_some_iff.1 hx
 obtain ⟨p2, e2⟩ := List.getElem?_eq_some_iff.1 h1
 have := hs j _ p1 p2 hj
 omega
set_option maxHeartbeats 1000000 in
theorem refTurnAt_ok (A : Option Addr) (n c : Nat) (t : TabD) (i o : Nat) (w : World) (h : RdI w A n t.costs) (ht : TabOk t) (hi : (i : Int) < t.ins) (ho : (o : Int) < t.outs) :
 Calls Tryz.prog 58 #[.agg #[.int .i64 t.ins, .int .i64 t.outs, .slice A n c], .int .i64 i, .int .i64 o] w fun e w' => ∃ x, t.costs[i * t.outs.toNat + o]? = some x ∧ e = .returned (.int .i64 x) ∧ Below w.heap.size w w' := by
 obtain ⟨p, q, cs⟩ := t
 simp only at h hi ho ⊢
 have i0 : 0 ≤ p := ht.i0
 have i16 : p ≤ 16 := ht.i16
 have o0 : 0 ≤ q := ht.o0
 have o16 : q ≤ 16 := ht.o16
 have hm := mul_bd i0 i16 o0 o16
 have hl : (cs.length : Int) = p * q := ht.len
 have hk : (i : Int) * q + o < p * q := by
  have h1 : ((i : Int) + 1) * q ≤ p * q := Int.mul_le_mul_of_nonneg_right (by omega) o0
  rw [Int.add_mul, Int.one_mul] at h1
  omega
 have hk0 : 0 ≤ (i : Int) * q := Int.mul_nonneg (by omega) o0
 obtain ⟨k, hkk⟩ : ∃ k : Nat, (k : Int) = (i : Int) * q + o := ⟨((i : Int) * q + o).toNat, by omega⟩
 have hke : i * q.toNat + o = k := by
  have : ((i * q.toNat + o : Nat) : Int) = (k : Int) := by
   rw [hkk]
   push_cast
   rw [Int.toNat_of_nonneg o0]
  exact_mod_cast this
 rw [hke]
 have hkl : k < n := by rw [← h.1]; omega
 obtain ⟨b, oo, x, hA, hx, hc⟩ := h.at_ hkl
 subst hA
 have e1 : IntKind.i64.wrap ((i : Int) * q) = (i : Int) * q := IntWalk.i64_in _ (by omega)
 have e2 : IntKind.i64.wrap ((i : Int) * q + o) = (k : Int) := by rw [← hkk]; exact IntWalk.i64_in _ (by omega)
 have i1 : ((k : Int)) < (n : Int) := by omega
 have i2 : ¬ (p ≤ (i : Int)) := by omega
 have i3 : ¬ (q ≤ (o : Int)) := by omega
 have i4 : ¬ ((i : Int) < 0) := by omega
 have i5 : ¬ ((o : Int) < 0) := by omega
 have HX := Lib.hid hx
 have hb := lt_of_cell hc
 simp only at hb
 clear hx hk hm hl hkk hke h ht
 go_enter Tryz.func58, Tryz.ntmps58
 go_wp2_with fail
 go_ret
 exact ⟨x, HX.out, rfl, bELt⟩
end Go.Proofs.YtgkeolddpielpaaGreat

namespace Go.Proofs.YtgkeolddpielpaaGreat
open Go.RowKit

structure BfI (N : NetD) (mk : List Bool) (s t : Nat) (d : List Int) (best : Int) : Prop where
 len : d.length = N.ar.length
 ok : ∀ (b : Nat) (v : Int), d[b]? = some v → v = 1152921504606846976 ∨ (0 ≤ v ∧ v < 1152921504606846976 ∧ ∃ p c e, Rch (StA N mk) s p c ∧ StA N mk p b e ∧ v = c + e)
 best : best = 1152921504606846976 ∨ (0 ≤ best ∧ best < 1152921504606846976 ∧ OutC (StA N mk) (OuA N) s t best)
def dAt (d : List Int) (a : Nat) : Int := d.getD a 1152921504606846976
theorem dAt_get {d : List Int} {a : Nat} {v : Int} (h : d[a]? = some v) : dAt d a = v := by unfold dAt; rw [List.getD_eq_getElem?_getD, h]; rfl
theorem BfI.at_ {N : NetD} {mk : List Bool} {s t : Nat} {d : List Int} {best : Int} (h : BfI N mk s t d best) (a : Nat) : dAt d a = 1152921504606846976 ∨ (0 ≤ dAt d a ∧ dAt d a < 1152921504606846976 ∧ ∃ c, dAt d a = c ∧ Rch (StA N mk) s a c) := by
 cases e : d[a]? with
 | none => left; unfold dAt; rw [List.getD_eq_getElem?_getD, e]; rfl
 | some v =>
  rw [dAt_get e]
  rcases h.ok a v e with h1 | ⟨h1, h2, p, c, f, h3, h4, rfl⟩
  · exact .inl h1
  · exact .inr ⟨h1, h2, _, rfl, h3.step h4⟩
theorem BfI.start (N : NetD) (mk : List Bool) (s t : Nat) : BfI N mk s t (List.replicate N.ar.length 1152921504606846976) 1152921504606846976 :=
 ⟨by simp, fun b v h => by obtain ⟨_, e⟩ := List.getElem?_eq_some_iff.1 h; simp at e; exact .inl e.symm, .inl rfl⟩
section
variable {N : NetD} {mk : List Bool} {s t : Nat} {d : List Int} {best : Int}
theorem BfI.less (h : BfI N mk s t d best) {p b : Nat} {c e : Int} (hp : Rch (StA N mk) s p c) (hc : 0 ≤ c) (hs : StA N mk p b e) (he : 0 ≤ e) (hlt : c + e < dAt d b) : BfI N mk s t (d.set b (c + e)) best := by
 refine ⟨by rw [List.length_set]; exact h.len, fun q v hq => ?_, h.best⟩
 by_cases hb : b = q
 · subst hb
   by_cases hl : b < d.length
   · rw [List.getElem?_set_self hl] at hq
     cases hq
     have := h.at_ b
     right
     exact ⟨by omega, by rcases this with h1 | ⟨_, h1, _⟩ <;> omega, p, c, e, hp, hs, rfl⟩
   · rw [List.getElem?_eq_none (by rw [List.length_set]; omega)] at hq
     cases hq
 · rw [List.getElem?_set_ne hb] at hq
   exact h.ok q v hq
theorem BfI.out (h : BfI N mk s t d best) {p : Nat} {c e : Int} (hp : Rch (StA N mk) s p c) (hc : 0 ≤ c) (ho : OuA N p t e) (he : 0 ≤ e) (hlt : c + e < best) : BfI N mk s t d (c + e) :=
 ⟨h.len, h.ok, .inr ⟨by omega, by rcases h.best with h1 | ⟨_, h1, _⟩ <;> omega, p, c, e, hp, ho, rfl⟩⟩
theorem BfI.done (hok : NetOk N) (h : BfI N mk s t d best) (h0 : ∀ b e, StA N mk s b e → dAt d b ≤ e) (hT : ∀ e, OuA N s t e → best ≤ e)
 (hR : ∀ a, dAt d a < 1152921504606846976 → (∀ b e, StA N mk a b e → dAt d b ≤ dAt d a + e) ∧ ∀ e, OuA N a t e → best ≤ dAt d a + e) : EntC N mk s t best := by
 have hle : ∀ b, dAt d b ≤ 1152921504606846976 := fun b => by rcases h.at_ b with h1 | ⟨_, h1, _⟩ <;> omega
 have hble : best ≤ 1152921504606846976 := by rcases h.best with h1 | ⟨_, h1, _⟩ <;> omega
 have hlow : ∀ p c, Rch (StA N mk) s p c → (p = s ∧ c = 0) ∨ dAt d p ≤ c := by
  intro p c hr
  induction hr with
  | start => exact .inl ⟨rfl, rfl⟩
  | @step p q c e h1 h2 ih =>
   right
   rcases ih with ⟨rfl, rfl⟩ | ih
   · have := h0 q e h2; omega
   · have he := (h2.bd hok).1
     by_cases hlt : dAt d p < 1152921504606846976
     · have := (hR p hlt).1 q e h2; omega
     · have := hle q; omega
 have hout : ∀ v, OutC (StA N mk) (OuA N) s t v → best ≤ v := by
  rintro v ⟨p, c, e, h1, h2, rfl⟩
  have he := (h2.bd hok).1
  rcases hlow p c h1 with ⟨rfl, rfl⟩ | hlt
  · have := hT e h2; omega
  · by_cases hlt2 : dAt d p < 1152921504606846976
    · have := (hR p hlt2).2 e h2; omega
    · omega
 rcases h.best with h1 | ⟨_, _, h1⟩
 · right
   refine ⟨h1, fun v hv => ?_⟩
   obtain ⟨p, c, e, g1, g2, rfl⟩ := hv
   obtain ⟨c', g3, g4⟩ := rchA_bd hok p c g1
   have g5 := hout (c' + e) ⟨p, c', e, g3, g2, rfl⟩
   have g6 := (g2.bd hok).2
   unfold MB at g4
   omega
 · exact .inl ⟨h1, hout⟩
end
end Go.Proofs.YtgkeolddpielpaaGreat

namespace Go.Proofs.YtgkeolddpielpaaGreat
open Go.RowKit

def nxtI (N : NetD) (a : Nat) : List Int := match N.ar[a]? with
 | some x => (idx (·.1) N.ar x.2.1).filter (fun b => turnN N a b.toNat != 1152921504606846976)
 | none => []
def trnI (N : NetD) (a : Nat) : List Int := (nxtI N a).map (fun b => turnN N a b.toNat)
def nxtAll (N : NetD) : List (List Int) := (List.range N.ar.length).map (nxtI N)
def trnAll (N : NetD) : List (List Int) := (List.range N.ar.length).map (trnI N)
theorem nxtAll_get {N : NetD} {a : Nat} (h : a < N.ar.length) : (nxtAll N)[a]? = some (nxtI N a) := by
 unfold nxtAll
 rw [List.getElem?_map, List.getElem?_range h]
 rfl
theorem trnAll_get {N : NetD} {a : Nat} (h : a < N.ar.length) : (trnAll N)[a]? = some (trnI N a) := by
 unfold trnAll
 rw [List.getElem?_map, List.getElem?_range h]
 rfl
theorem mem_nxt {N : NetD} {a : Nat} {z : Int} : z ∈ nxtI N a ↔ ∃ b : Nat, z = (b : Int) ∧ turnN N a b ≠ 1152921504606846976 := by
 unfold nxtI
 cases hx : N.ar[a]? with
 | none =>
  simp only [List.not_mem_nil, false_iff, not_exists, not_and]
  rintro b rfl h
  obtain ⟨x, _, e, _⟩ := turnN_meet h
  rw [hx] at e
  cases e
 | some x =>
  simp only [List.mem_filter, mem_idx]
  constructor
  · rintro ⟨⟨b, y, rfl, _, _⟩, h2⟩
    exact ⟨b, rfl, by simpa using h2⟩
  · rintro ⟨b, rfl, h⟩
    obtain ⟨x', y, e1, e2, e3⟩ := turnN_meet h
    rw [hx] at e1
    cases e1
    exact ⟨⟨b, y, rfl, e2, e3.symm⟩, by simpa using h⟩
theorem nxt_len (N : NetD) (a : Nat) : (nxtI N a).length ≤ N.ar.length := by
 unfold nxtI
 cases hx : N.ar[a]? with
 | none => simp
 | some x =>
  have h := idx_bd (·.1) N.ar N.ar.length x.2.1
  rw [List.take_length] at h
  exact Nat.le_trans (List.length_filter_le _ _) h
theorem trn_len (N : NetD) (a : Nat) : (trnI N a).length = (nxtI N a).length := by simp [trnI]
theorem nxt_at {N : NetD} {a k : Nat} (h : k < (nxtI N a).length) : ∃ b : Nat, (nxtI N a)[k]? = some (b : Int) ∧ (trnI N a)[k]? = some (turnN N a b) ∧ turnN N a b ≠ 1152921504606846976 ∧ b < N.ar.length := by
 obtain ⟨z, hz⟩ : ∃ z, (nxtI N a)[k]? = some z := ⟨_, List.getElem?_eq_getElem h⟩
 obtain ⟨b, rfl, hb⟩ := mem_nxt.1 (List.mem_of_getElem? hz)
 obtain ⟨_, y, _, e, _⟩ := turnN_meet hb
 refine ⟨b, hz, ?_, hb, (List.getElem?_eq_some_iff.1 e).1⟩
 unfold trnI
 rw [List.getElem?_map, hz]
 rfl
end Go.Proofs.YtgkeolddpielpaaGreat

namespace Go.Proofs.YtgkeolddpielpaaGreat
open Go.RowKit

def GG (B : Nat) (V : World) (A1 A2 : Option Addr) : Nat → Prop := fun b => B ≤ b ∧ b < V.heap.size ∧ blkOf A1 ≠ some b ∧ blkOf A2 ≠ some b
def RwR (V : World) (G : Nat → Prop) (xs : List Value) (ls : List (List Int)) : Prop := ∀ (j : Nat) (l : List Int), ls[j]? = some l → ∃ (R : Option Addr) (d : Nat), xs[j]? = some (.slice R l.length d) ∧ RdI (msk V G) R l.length l ∧ l.length ≤ d ∧ d ≤ 9223372036854775807
theorem RwR.le {V V' : World} {G G' : Nat → Prop} {xs : List Value} {ls : List (List Int)} (h : RwR V G xs ls) (hl : Le (msk V G) (msk V' G')) : RwR V' G' xs ls := fun j l hj => by
 obtain ⟨R, d, h1, h2, h3⟩ := h j l hj
 exact ⟨R, d, h1, h2.le hl, h3⟩
structure Tw (t1 t2 : TypeId) (B : Nat) (V : World) (A1 : Option Addr) (c1 : Nat) (x1 : List Value) (l1 : List (List Int)) (A2 : Option Addr) (c2 : Nat) (x2 : List Value) (l2 : List (List Int)) : Prop where
 o1 : Own V B t1 1 A1 l1.length c1 x1
 o2 : Own V B t2 1 A2 l2.length c2 x2
 r1 : RwR V (GG B V A1 A2) x1 l1
 r2 : RwR V (GG B V A1 A2) x2 l2
 dj : ∀ g, blkOf A1 = some g → blkOf A2 ≠ some g
section
variable {t1 t2 : TypeId} {B : Nat} {V V' : World} {A1 A2 : Option Addr} {c1 c2 : Nat} {x1 x2 : List Value} {l1 l2 : List (List Int)}
theorem Tw.nil (t1 t2 : TypeId) (B : Nat) (V : World) : Tw t1 t2 B V none 0 [] [] none 0 [] [] := ⟨Own.nil _ _ _ _, Own.nil _ _ _ _, fun j l h => by simp at h, fun j l h => by simp at h, fun g e => by cases e⟩
theorem Tw.swap (h : Tw t1 t2 B V A1 c1 x1 l1 A2 c2 x2 l2) : Tw t2 t1 B V A2 c2 x2 l2 A1 c1 x1 l1 :=
 have hm : Le (msk V (GG B V A1 A2)) (msk V (GG B V A2 A1)) := msk_mono (fun _ hb => ⟨hb.1, hb.2.1, hb.2.2.2, hb.2.2.1⟩)
 ⟨h.o2, h.o1, h.r2.le hm, h.r1.le hm, fun g e e2 => h.dj g e2 e⟩
theorem Tw.below (h : Tw t1 t2 B V A1 c1 x1 l1 A2 c2 x2 l2) (hb : Below V.heap.size V V') : Tw t1 t2 B V' A1 c1 x1 l1 A2 c2 x2 l2 :=
 have hm : Le (msk V (GG B V A1 A2)) (msk V' (GG B V' A1 A2)) := (Kept.msk (Kept.below hb)).trans (msk_mono (fun _ hb' => ⟨hb'.1, Nat.lt_of_lt_of_le hb'.2.1 hb.size, hb'.2.2⟩))
 ⟨h.o1.below hb, h.o2.below hb, h.r1.le hm, h.r2.le hm, h.dj⟩
theorem Tw.set (h : Tw t1 t2 B V A1 c1 x1 l1 A2 c2 x2 l2) {b : Nat} (hb : b < B) (o : Nat) (v : Value) : Tw t1 t2 B (V.setCell ⟨b, o, none⟩ v) A1 c1 x1 l1 A2 c2 x2 l2 := by
 have hg := grownBy_set V b o v
 have hm : Le (msk V (GG B V A1 A2)) (msk (V.setCell ⟨b, o, none⟩ v) (GG B (V.setCell ⟨b, o, none⟩ v) A1 A2)) := (Kept.msk (Kept.set V b o v (fun e => by have := e.1; omega))).trans (msk_mono (fun q hq => ⟨hq.1, Nat.lt_of_lt_of_le hq.2.1 hg.size, hq.2.2⟩))
 exact ⟨h.o1.far hg (.inr (fun e => by have := (h.o1.lt b e).1; omega)), h.o2.far hg (.inr (fun e => by have := (h.o2.lt b e).1; omega)), h.r1.le hm, h.r2.le hm, h.dj⟩
theorem Tw.push {R A3 : Option Addr} {d c3 : Nat} {l : List Int} (h : Tw t1 t2 B V A1 c1 x1 l1 A2 c2 x2 l2) (hr : RdI (msk V (GG B V A1 A2)) R l.length l) (k1 : l.length ≤ d) (k2 : d ≤ 9223372036854775807)
 (ho : Own V' B t1 1 A3 (l1.length + 1) c3 (x1 ++ [.slice R l.length d])) (hg : V.grownBy V' (blkOf A1)) (hat : blkOf A3 = blkOf A1 ∨ blkOf A3 = some V.heap.size) : Tw t1 t2 B V' A3 c3 (x1 ++ [.slice R l.length d]) (l1 ++ [l]) A2 c2 x2 l2 := by
 have hxl : x1.length = l1.length := by rw [h.o1.1, Nat.mul_one]
 have hm : Le (msk V (GG B V A1 A2)) (msk V' (GG B V' A3 A2)) := (Kept.msk (Kept.grown hg (fun b hb => hb.2.2.1))).trans (msk_mono (fun q hq => ⟨hq.1, Nat.lt_of_lt_of_le hq.2.1 hg.size, fun e => by
  rcases hat with e2 | e2
  · exact hq.2.2.1 (e2 ▸ e)
  · rw [e2] at e
    have := Option.some.inj e
    have := hq.2.1
    omega, hq.2.2.2⟩))
 refine ⟨by rw [List.length_append]; exact ho, h.o2.far hg ?_, ?_, h.r2.le hm, fun g e e2 => ?_⟩
 · cases e : blkOf A2 with
   | none => exact .inl rfl
   | some g => exact .inr (fun e2 => h.dj g e2.symm e)
 · intro j l' hj
   rcases Nat.lt_trichotomy j l1.length with e | e | e
   · rw [List.getElem?_append_left e] at hj
     obtain ⟨R', d', q1, q2, q3⟩ := h.r1 j l' hj
     exact ⟨R', d', by rw [List.getElem?_append_left (by omega)]; exact q1, q2.le hm, q3⟩
   · subst e
     rw [List.getElem?_append_right (Nat.le_refl _), Nat.sub_self] at hj
     cases hj
     exact ⟨R, d, by rw [← hxl, List.getElem?_append_right (Nat.le_refl _), Nat.sub_self]; rfl, hr.le hm, k1, k2⟩
   · rw [List.getElem?_eq_none (by simp; omega)] at hj
     cases hj
 · rcases hat with e3 | e3
   · exact h.dj g (e3 ▸ e) e2
   · rw [e3] at e
     have := Option.some.inj e
     have := (h.o2.lt g e2).2
     omega
theorem Tw.rd1 (h : Tw t1 t2 B V A1 c1 x1 l1 A2 c2 x2 l2) : RdT (msk V (fun b => B ≤ b)) A1 l1.length l1 :=
 ⟨rfl, fun j l hj => by
  obtain ⟨R, d, q1, q2, q3⟩ := h.r1 j l hj
  obtain ⟨b, o, e, k4⟩ := h.o1.rds.2 _ _ q1
  exact ⟨b, o, R, _, d, e, msk_cell.2 ⟨(h.o1.lt b (by rw [e]; rfl)).1, k4⟩, q2.le (msk_mono (fun b hb => hb.1)), q3⟩⟩
end

theorem idx_pos {f : Tri → Int} {l : List Tri} {v : Int} {k b : Nat} (h : (idx f l v)[k]? = some (b : Int)) : ∃ y, l[b]? = some y ∧ f y = v ∧ (idx f (l.take b) v).length = k := by
 obtain ⟨b', y, e, hy, hv⟩ := mem_idx.1 (List.mem_of_getElem? h)
 obtain rfl : b = b' := by omega
 refine ⟨y, hy, hv, ?_⟩
 have hb := (List.getElem?_eq_some_iff.1 hy).1
 have h1 := idx_at (f := f) hy l.length hb (Nat.le_refl _)
 rw [List.take_length, hv] at h1
 have hs := idx_sorted f v l
 rw [List.pairwise_iff_getElem] at hs
 obtain ⟨p1, e1⟩ := List.getElem?_eq_some_iff.1 h
 obtain ⟨p2, e2⟩ := List.getElem?_eq_some_iff.1 h1
 rcases Nat.lt_trichotomy (idx f (l.take b) v).length k with g | g | g
 · have := hs _ _ p2 p1 g; omega
 · exact g
 · have := hs _ _ p1 p2 g; omega
theorem turnN_eq {N : NetD} {a b v t : Nat} {x1 x3 y2 y3 v1 v2 z : Int} {tb : TabD} (hx : N.ar[a]? = some (x1, (v : Int), x3)) (hy : N.ar[b]? = some ((v : Int), y2, y3)) (hv : N.vs[v]? = some (v1, v2, (t : Int))) (htb : N.ts[t]? = some tb)
 (hz : tb.costs[(idx (·.2.1) (N.ar.take a) (v : Int)).length * tb.outs.toNat + (idx (·.1) (N.ar.take b) (v : Int)).length]? = some z) : turnN N a b = z := by
 unfold turnN
 rw [hx, hy]
 simp only [if_pos, Int.toNat_natCast, hv, htb, plcOf]
 rw [List.getD_eq_getElem?_getD, hz]
 rfl
def nxK (N : NetD) (a v k : Nat) : List Int := ((idx (·.1) N.ar (v : Int)).take k).filter (fun b => turnN N a b.toNat != 1152921504606846976)
def trK (N : NetD) (a v k : Nat) : List Int := (nxK N a v k).map (fun b => turnN N a b.toNat)
theorem trK_len (N : NetD) (a v k : Nat) : (trK N a v k).length = (nxK N a v k).length := by simp [trK]
theorem nxK_le (N : NetD) (a v k : Nat) : (nxK N a v k).length ≤ k := Nat.le_trans (List.length_filter_le _ _) (List.length_take_le _ _)
theorem nxK_in {N : NetD} {a v k b : Nat} (h : (idx (·.1) N.ar (v : Int))[k]? = some (b : Int)) (ht : turnN N a b ≠ 1152921504606846976) : nxK N a v (k + 1) = nxK N a v k ++ [(b : Int)] ∧ trK N a v (k + 1) = trK N a v k ++ [turnN N a b] := by
 have e : nxK N a v (k + 1) = nxK N a v k ++ [(b : Int)] := by
  unfold nxK
  rw [List.take_add_one, h, List.filter_append]
  simp [ht]
 exact ⟨e, by unfold trK; rw [e]; simp⟩
theorem nxK_out {N : NetD} {a v k b : Nat} (h : (idx (·.1) N.ar (v : Int))[k]? = some (b : Int)) (ht : turnN N a b = 1152921504606846976) : nxK N a v (k + 1) = nxK N a v k ∧ trK N a v (k + 1) = trK N a v k := by
 have e : nxK N a v (k + 1) = nxK N a v k := by
  unfold nxK
  rw [List.take_add_one, h, List.filter_append]
  simp [ht]
 exact ⟨e, by unfold trK; rw [e]⟩
theorem nxK_all {N : NetD} {a v : Nat} {x : Tri} (hx : N.ar[a]? = some x) (hv : x.2.1 = (v : Int)) {k : Nat} (hk : (idx (·.1) N.ar (v : Int)).length ≤ k) : nxK N a v k = nxtI N a ∧ trK N a v k = trnI N a := by
 have e : nxK N a v k = nxtI N a := by
  unfold nxK nxtI
  rw [hx, List.take_of_length_le hk]
  simp only [hv]
 exact ⟨e, by unfold trK trnI; rw [e]⟩
theorem nxtAll_next {N : NetD} {a : Nat} : (List.range (a + 1)).map (nxtI N) = (List.range a).map (nxtI N) ++ [nxtI N a] ∧ (List.range (a + 1)).map (trnI N) = (List.range a).map (trnI N) ++ [trnI N a] := by
 rw [List.range_succ]
 simp
end Go.Proofs.YtgkeolddpielpaaGreat

namespace Go.Proofs.YtgkeolddpielpaaGreat
open Go.RowKit

attribute [local go_sem ↓] Go.wp_at_zero Go.wp_at_succ

theorem refHas_ok (Q : Option Addr) (L cq i : Nat) (w : World) (hi : i < L) :
 Calls Tryz.prog 51 #[.agg #[.slice Q L cq], .int .i64 ((i : Int) + 1)] w fun r w' => r = .returned (.bool true) ∧ Below w.heap.size w w' := by
 have i1 : (1 : Int) ≤ (i : Int) + 1 := by omega
 have i2 : (i : Int) + 1 ≤ (L : Int) := by omega
 go_enter Tryz.func51, Tryz.ntmps51
 go_wp2
 go_ret
 exact ⟨ret_bool (by first | (simp; done) | (simp; omega)), bELt⟩
set_option maxHeartbeats 2000000 in
theorem refCross_ok (A B C Q : Option Addr) (n m k c d e L cq li : Nat) (N : NetD) (ls : List (List Int)) (l : List Int) (w : World) (h : RdNet w A B C n m k N) (hok : NetOk N) (hq : RdT w Q L ls) (hl : ls[li]? = some l) (hll : l.length = N.vs.length) (hL : L ≤ 1000000) :
 Calls Tryz.prog 25 #[.agg #[.slice A n c, .slice B m d, .slice C k e], .agg #[.slice Q L cq], .int .i64 ((li : Int) + 1)] w fun r w' => ∃ A' n' c', r = .returned (.slice A' n' c') ∧ RdI w' A' n' (crossL N.ar l) ∧ (∀ b, blkOf A' = some b → w.heap.size ≤ b) ∧ Below w.heap.size w w' := by
 have HH := Lib.hid h
 have HM := Lib.hid h.2.1.1
 have hm : m ≤ 16384 := by rw [← h.2.1.1]; exact hok.la
 have hliL : li < L := by rw [← hq.1]; exact (List.getElem?_eq_some_iff.1 hl).1
 obtain ⟨qb, qo, LA, ln, lc, l', rfl, hl', q1, q2, q3, q4⟩ := hq.at_ hliL
 rw [hl] at hl'
 cases hl'
 have hln : ln = N.vs.length := by rw [← q2.1]; exact hll
 have i5 : (li : Int) + 1 - 1 = (li : Int) := by omega
 have i6 : (li : Int) < (L : Int) := by omega
 have i7 : (0 : Int) ≤ (li : Int) := by omega
 have wl : IntKind.i64.wrap (li : Int) = (li : Int) := IntWalk.i64_in _ (by omega)
 have HQ := Lib.hid q2
 have HQ1 := Lib.hid q1
 have HLN := Lib.hid hln
 have hlv := hok.lv
 have HAR := Lib.hid hok.arcs
 clear h hq hl q1 q2 q3 q4 hll hln hok
 go_enter Tryz.func25, Tryz.ntmps25
 go_wp2_with fail
 (refine wp_named ?_; intro w1 hw1)
 have hb1 : Below w.heap.size w w1 := by rw [hw1]; exact bELt
 have hX : Blk w1 w.heap.size 26 #[.slice A n c, .slice B m d, .slice C k e] := by
  rw [hw1]
  refine Blk.alloc ?_ _
  exact Blk.new _ _ _
 have hY : Blk w1 (w.heap.size + 1) 29 #[.slice (some ⟨qb, qo, none⟩) L cq] := by
  rw [hw1]
  refine Blk.new' _ _ _ ?_
  simp
 clear hw1
 go_loopw [7, 8] (fun z q V => ∃ (i : Nat) (A' : Option Addr) (c' : Nat), i ≤ m ∧ q = .int .i64 i ∧ z = .slice A' (arcP (crossB l) (N.ar.take i)).length c' ∧ Own V w1.heap.size 3 1 A' (arcP (crossB l) (N.ar.take i)).length c' (icells (arcP (crossB l) (N.ar.take i))) ∧ Below w1.heap.size w1 V) (fun _ q _ => m - (intOf q).toNat)
 case atStart => exact ⟨0, none, 0, Nat.zero_le _, rfl, rfl, Own.nil _ _ _ _, Below.refl _ _⟩
 case round =>
  obtain ⟨i, A', c', hi, rfl, rfl, hown, hbl⟩ := hrel
  have hXr := hX.below hbl hX.lt
  have hYr := hY.below hbl hY.lt
  have x1 := hXr.cell 1
  have xl := hXr.lt
  have y0 := hYr.cell 0
  have yl := hYr.lt
  simp only [List.getElem?_toArray, List.getElem?_cons_zero, List.getElem?_cons_succ] at x1 y0
  have hbd : (arcP (crossB l) (N.ar.take i)).length ≤ i := Nat.le_trans (arcP_len _ _) (by rw [List.length_take]; omega)
  have HOW := Lib.hid hown
  obtain ⟨no, hno⟩ : ∃ no, no = (arcP (crossB l) (N.ar.take i)).length := ⟨_, rfl⟩
  rw [← hno] at hbd ⊢
  have HNO := Lib.hid hno
  clear hown hno
  by_cases hlt : i < m
  rotate_left
  · obtain rfl : i = m := by omega
    have i1 : ¬ ((i : Int) < (i : Int)) := by omega
    go_wp2_with fail
    go_ret
    refine ⟨A', no, ⟨c', rfl⟩, ?_, fun b hb => by have := (HOW.out.lt b hb).1; have := hb1.size; omega, Bel.step hb1 hbl⟩
    have := HOW.out.rds.rdI
    rw [List.take_of_length_le (by rw [HM.out]; exact Nat.le_refl _)] at this
    rw [HNO.out, List.take_of_length_le (by rw [HM.out]; exact Nat.le_refl _)]
    exact this
  · have i1 : (i : Int) < (m : Int) := by omega
    have i2 : (0 : Int) ≤ (i : Int) := by omega
    go_wp2_with fail
    with_reducible refine (refHas_ok _ L cq li wr hliL).mono ?_
    rintro r w2 ⟨rfl, hb2⟩
    have hbl2 := Bel.step hbl hb2
    have HOW2 := Lib.hid (HOW.out.below hb2)
    have hbw := Bel.step hb1 hbl2
    clear x1 xl y0 yl hXr hYr hb2 hbl HOW
    obtain ⟨y, hy⟩ : ∃ y, N.ar[i]? = some y := ⟨_, List.getElem?_eq_getElem (by rw [HM.out]; exact hlt)⟩
    obtain ⟨b, o, rfl, c0, c1, c2⟩ := (HH.out.below hbw).2.1.2 i y hy
    have ho := HAR.out y (List.mem_of_getElem? hy)
    have f0 := ho.f0; have f1 := ho.f1; have g0 := ho.g0; have g1 := ho.g1
    obtain ⟨u, hu⟩ : ∃ u : Nat, y.1 = (u : Int) := ⟨y.1.toNat, by omega⟩
    obtain ⟨v, hv⟩ : ∃ v : Nat, y.2.1 = (v : Int) := ⟨y.2.1.toNat, by omega⟩
    rw [hu] at c0
    rw [hv] at c1
    have hun : u < ln := by rw [HLN.out]; omega
    have hvn : v < ln := by rw [HLN.out]; omega
    obtain ⟨b1, o1, z1, rfl, hz1, d1⟩ := (HQ.out.below hbw).at_ hun
    obtain ⟨b1', o1', z2, e', hz2, d2⟩ := (HQ.out.below hbw).at_ hvn
    cases e'
    have hqc := Below.cellOf hbw (Nat.le_refl _) HQ1.out
    have hXr := hX.below hbl2 hX.lt
    have hYr := hY.below hbl2 hY.lt
    have hcr : crossB l y = (z1 != z2) := by
     unfold crossB
     rw [hu, hv, cellOf_nat hz1, cellOf_nat hz2]
    have j1 : (u : Int) < (ln : Int) := by omega
    have j2 : (v : Int) < (ln : Int) := by omega
    have j3 : (0 : Int) ≤ (u : Int) := by omega
    have j4 : (0 : Int) ≤ (v : Int) := by omega
    have HY := Lib.hid hy
    have HCR := Lib.hid hcr
    have HSX := Lib.hid (show ∀ V, Below w2.heap.size w2 V → V.cell? ⟨w.heap.size, 1, none⟩ = some (.slice (some ⟨b, o, none⟩) m d) ∧ V.cell? ⟨w.heap.size + 1, 0, none⟩ = some (.slice (some ⟨qb, qo, none⟩) L cq) ∧ V.cell? ⟨qb, qo + li, none⟩ = some (.slice (some ⟨b1, o1, none⟩) ln lc) ∧ V.cell? ⟨b, o + i * 3, none⟩ = some (.int .i64 u) ∧ V.cell? ⟨b, o + i * 3 + 1, none⟩ = some (.int .i64 v) ∧ V.cell? ⟨b1, o1 + u, none⟩ = some (.int .i64 z1) ∧ V.cell? ⟨b1, o1 + v, none⟩ = some (.int .i64 z2) from
     fun V hV => ⟨by rw [(hXr.below hV hXr.lt).cell]; rfl, by rw [(hYr.below hV hYr.lt).cell]; rfl, Below.cellOf hV (Nat.le_refl _) hqc, Below.cellOf hV (Nat.le_refl _) c0, Below.cellOf hV (Nat.le_refl _) c1, Below.cellOf hV (Nat.le_refl _) d1, Below.cellOf hV (Nat.le_refl _) d2⟩)
    clear hy hcr c0 c1 c2 d1 d2 hqc hXr hYr hu hv hz1 hz2 f0 f1 g0 g1 ho
    go_wp2_with fail
    refine wp_region_held_drew (S := fun V => Below w2.heap.size w2 V) (by kernel_rfl) (Below.refl _ _).drew (fun _ => ?_)
    refine tk 0 21 (h := ⟨_, tv, ?_⟩)
    simp only [pE, List.set]
    refine tk 1 22 (h := ⟨_, tv, ?_⟩)
    simp only [pE, List.set]
    refine tk 2 23 (h := ⟨_, tv, ?_⟩)
    simp only [pE, List.set]
    refine tk 3 24 (h := ⟨_, tv, ?_⟩)
    simp only [pE, List.set]
    refine tk 4 25 (h := ⟨_, tv, ?_⟩)
    simp only [pE, List.set]
    refine tk 5 26 (h := ⟨_, tv, ?_⟩)
    simp only [pE, List.set]
    refine tk 6 27 (h := ⟨_, tv, ?_⟩)
    simp only [pE, List.set]
    refine tk 7 28 (h := ⟨_, tv, ?_⟩)
    simp only [pE, List.set]
    refine tk 8 29 (h := ⟨_, tv, ?_⟩)
    simp only [pE, List.set]
    refine tk 9 30 (h := ⟨_, tv, ?_⟩)
    simp only [pE, List.set]
    refine tk 10 31 (h := ⟨_, tv, ?_⟩)
    simp only [pE, List.set]
    refine tk 11 32 (h := ⟨_, tv, ?_⟩)
    simp only [pE, List.set]
    refine tk 12 33 (h := ⟨_, tv, ?_⟩)
    simp only [pE, List.set]
    refine tk 13 34 (h := ⟨_, tv, ?_⟩)
    simp only [pE, List.set]
    refine tk 14 35 (h := ⟨_, tv, ?_⟩)
    simp only [pE, List.set]
    refine tk 15 36 (h := ⟨_, tv, ?_⟩)
    simp only [pE, List.set]
    refine tk 16 37 (h := ⟨_, tv, ?_⟩)
    simp only [pE, List.set]
    refine tk 17 38 (h := ⟨_, tv, ?_⟩)
    simp only [pE, List.set]
    refine tk 18 39 (h := ⟨_, tv, ?_⟩)
    simp only [pE, List.set]
    refine tk 19 40 (h := ⟨_, tv, ?_⟩)
    simp only [pE, List.set]
    refine tk 20 41 (h := ⟨_, tv, ?_⟩)
    simp only [pE, List.set]
    refine tk 21 42 (h := ⟨_, tv, ?_⟩)
    simp only [pE, List.set]
    refine tk 22 43 (h := ⟨_, tv, ?_⟩)
    simp only [pE, List.set]
    refine tk 23 44 (h := ⟨_, tv, ?_⟩)
    simp only [pE, List.set]
    refine tk 24 45 (h := ⟨_, tv, ?_⟩)
    simp only [pE, List.set]
    refine tk 25 46 (h := ⟨_, tv, ?_⟩)
    simp only [pE, List.set]
    refine tk 26 47 (h := ⟨_, tv, ?_⟩)
    simp only [pE, List.set]
    refine tk 27 48 (h := ⟨_, tv, ?_⟩)
    simp only [pE, List.set]
    refine tk 28 49 (h := ⟨_, tv, ?_⟩)
    simp only [pE, List.set]
    refine wpAnyH_done (by kernel_rfl) ?_ _
    clear HSX
    by_cases hv : z1 = z2
    · have e1 : (z1 != z2) = false := by simpa using hv
      have HN1 := Lib.hid (show arcP (crossB l) (N.ar.take (i + 1)) = arcP (crossB l) (N.ar.take i) by rw [arcP_take HY.out, HCR.out, e1]; simp)
      have HE := Lib.hid hv
      clear hv
      go_wp2_with fail
      go_roundw
      case rel => exact ⟨i + 1, A', c', by omega, by go_num, by rw [HN1.out, HNO.out], by rw [HN1.out]; exact HOW2.out.drew, hbl2.drew⟩
      case measure => simp [intOf]; omega
    · have e1 : (z1 != z2) = true := by simpa using hv
      obtain ⟨W1, hW1⟩ : ∃ W1, W1 = w2.drew := ⟨_, rfl⟩
      have hbW1 : Below w1.heap.size w1 W1 := by rw [hW1]; exact hbl2.drew
      have hown2 : Own W1 w1.heap.size 3 1 A' no c' (icells (arcP (crossB l) (N.ar.take i))) := by
       rw [hW1]
       have := HOW2.out
       rw [← HNO.out] at this
       exact this.drew
      rw [← hW1]
      obtain ⟨W2, hW2⟩ : ∃ W2, W2 = W1.alloc (.cells #[.int .i64 i] 3) := ⟨_, rfl⟩
      have hown3 : Own W2 w1.heap.size 3 1 A' no c' (icells (arcP (crossB l) (N.ar.take i))) := by rw [hW2]; exact hown2.alloc _
      have hrd : Rds W2 1 (some ⟨W1.heap.size, 0, none⟩) 1 (icells [(i : Int)]) := by rw [hW2]; exact (Blk.new W1 3 #[.int .i64 i]).rds rfl
      have hba : Below w1.heap.size w1 W2 := by rw [hW2]; exact Below.alloc hbW1 hbW1.size _
      have hsz : w1.heap.size ≤ W2.heap.size := hba.size
      have HW2 := Lib.hid hW2
      have HE := Lib.hid hv
      clear hW2 hown2 hv hW1 hbW1
      go_wp2_with (at_builtin; rw [← HW2.out]; with_reducible refine wpList_app rfl (.tmp 50) (.tmp 52) 36 rfl 3 _ 1 8 infoInt Tryz.underlying36 rfl (by omega) rfl rfl hown3 hrd (icells_one _) (by omega) (by omega) hsz ?_)
      intro A3 c3 w8 ho8 hg8 _
      have hb8 : Below w1.heap.size w1 w8 := Bel.grownOwn hba hg8 hown3 hsz
      have HN0 := Lib.hid (show arcP (crossB l) (N.ar.take (i + 1)) = arcP (crossB l) (N.ar.take i) ++ [(i : Int)] by rw [arcP_take HY.out, HCR.out, e1, if_pos rfl])
      have HO8 := Lib.hid (show Own w8 w1.heap.size 3 1 A3 (no + 1) c3 (icells (arcP (crossB l) (N.ar.take (i + 1)))) by rw [HN0.out, icells_app]; exact ho8)
      have HN1 := Lib.hid (show (arcP (crossB l) (N.ar.take (i + 1))).length = no + 1 by rw [HN0.out, List.length_append, ← HNO.out]; rfl)
      clear hown3 hrd hba hsz ho8 hg8
      go_wp2_with fail
      go_roundw
      case rel => exact ⟨i + 1, A3, c3, by omega, by go_num, by rw [HN1.out], by rw [HN1.out]; exact HO8.out, hb8⟩
      case measure => simp [intOf]; omega
end Go.Proofs.YtgkeolddpielpaaGreat

namespace Go.Proofs.YtgkeolddpielpaaGreat
open Go.RowKit

attribute [local go_sem ↓] Go.wp_at_zero Go.wp_at_succ

set_option maxHeartbeats 1000000 in
theorem refMarks_ok (Q : Option Addr) (L cq li n : Nat) (c : Int) (ls : List (List Int)) (l l0 : List Int) (w : World) (h : RdT w Q L ls) (hl : ls[li]? = some l) (hL : L ≤ 1000000) (h0 : ls[0]? = some l0) (hn : l.length = n) (hn0 : l0.length = n) (hn4 : n ≤ 1000000) :
 Calls Tryz.prog 87 #[.agg #[.slice Q L cq], .int .i64 ((li : Int) + 1), .int .i64 c] w fun e w' => ∃ b, e = .returned (.slice (some ⟨b, 0, none⟩) n n) ∧ Blk w' b 4 (bools (mkOf l c)) ∧ w.heap.size ≤ b ∧ Below w.heap.size w w' := by
 have hL0 : 0 < L := by rw [← h.1]; exact (List.getElem?_eq_some_iff.1 h0).1
 have hliL : li < L := by rw [← h.1]; exact (List.getElem?_eq_some_iff.1 hl).1
 obtain ⟨qb, qo, A0, n0, c0, l0', hQ, hl0, g0, g1, g2, g3⟩ := h.at_ hL0
 rw [h0] at hl0
 cases hl0
 obtain rfl : n = n0 := by rw [← hn0]; exact g1.1
 obtain ⟨qb', qo', A1, n1, c1, l1', e', hl1, k0, k1, k2, k3⟩ := h.at_ hliL
 subst hQ
 cases e'
 rw [hl] at hl1
 cases hl1
 obtain rfl : n = n1 := by rw [← hn]; exact k1.1
 have HG0 := Lib.hid (show ∀ V, Below w.heap.size w V → V.cell? ⟨qb, qo, none⟩ = some (.slice A0 n c0) from fun V hV => Below.cellOf hV (Nat.le_refl _) g0)
 have HK0 := Lib.hid (show ∀ V, Below w.heap.size w V → V.cell? ⟨qb, qo + li, none⟩ = some (.slice A1 n c1) from fun V hV => Below.cellOf hV (Nat.le_refl _) k0)
 have HK1 := Lib.hid k1
 have HN := Lib.hid hn
 have hmk := run_makeB n (by omega)
 have e1 : ((L : Int) == 0) = false := by simp; omega
 have i1 : (0 : Int) < (L : Int) := by omega
 have i2 : (li : Int) < (L : Int) := by omega
 have i3 : (0 : Int) ≤ (li : Int) := by omega
 have i4 : (li : Int) + 1 - 1 = (li : Int) := by omega
 have wl : IntKind.i64.wrap (li : Int) = (li : Int) := IntWalk.i64_in _ (by omega)
 have zq := lt_of_cell g0
 simp only at zq
 have z0 : (w.alloc (.cells #[.slice (some ⟨qb, qo, none⟩) L cq] 29)).cell? ⟨qb, qo, none⟩ = some (.slice A0 n c0) := HG0.out _ ((Below.refl _ _).alloc (Nat.le_refl _) _)
 clear h hl h0 hn hn0 g0 g1 g2 g3 k0 k1 k2 k3
 go_enter Tryz.func87, Tryz.ntmps87
 go_wp2_with fail
 (refine wp_named ?_; intro w3 hw3)
 have hb3 : Below w.heap.size w w3 := by rw [hw3]; exact bELt
 have hX3 : Blk w3 w.heap.size 29 #[.slice (some ⟨qb, qo, none⟩) L cq] := by rw [hw3]; exact (Blk.new _ _ _).alloc _
 have hd3 : Blk w3 (w.heap.size + 1) 4 (bools ((mkOf l c).take 0 ++ List.replicate (n - 0) false)) := by
  rw [hw3, Nat.sub_zero, List.take_zero, List.nil_append, ← zeros_bool]
  refine Blk.new' _ _ _ ?_
  simp
 clear hw3 z0 zq
 go_loopw [8] (fun q W => ∃ i : Nat, q = .int .i64 i ∧ i ≤ n ∧ Below w.heap.size w W ∧ Blk W w.heap.size 29 #[.slice (some ⟨qb, qo, none⟩) L cq] ∧ Blk W (w.heap.size + 1) 4 (bools ((mkOf l c).take i ++ List.replicate (n - i) false))) (fun q _ => n - (intOf q).toNat)
 case atStart => exact ⟨0, by go_num, Nat.zero_le _, hb3, hX3, hd3⟩
 case round =>
  clear hb3 hd3 hX3
  obtain ⟨i, rfl, hin, hb, hX, hd⟩ := hrel
  by_cases hlt : i < n
  · have x0 : wr.cell? ⟨w.heap.size, 0, none⟩ = some (.slice (some ⟨qb, qo, none⟩) L cq) := by rw [hX.cell]; rfl
    have hi2 : (i : Int) < (n : Int) := by omega
    go_wp2_with fail
    with_reducible refine (refHas_ok _ L cq li wr hliL).mono ?_
    rintro r w2 ⟨rfl, hb2⟩
    have hbw2 := Bel.step hb hb2
    obtain ⟨b, o, z, rfl, hz, hc⟩ := (HK1.out.below hbw2).at_ hlt
    have hd2 := hd.below hb2 hd.lt
    have hX2 := hX.below hb2 hX.lt
    have f0 := hd2.frozen i
    have hd' := hd2.setB (i := i) (x := z == c) (mkOf_next hz HN.out)
    have hb' : Below w.heap.size w (w2.setCell ⟨w.heap.size + 1, i, none⟩ (.bool (z == c))) := hbw2.setCell (by simp) _
    have hX' : Blk (w2.setCell ⟨w.heap.size + 1, i, none⟩ (.bool (z == c))) w.heap.size 29 #[.slice (some ⟨qb, qo, none⟩) L cq] := hX2.far_ (by omega) _
    have hi1 : (0 : Int) ≤ (i : Int) := by omega
    have HD := Lib.hid hd'
    have HB := Lib.hid hb'
    have HX := Lib.hid hX'
    obtain ⟨v0, hv0⟩ : ∃ v0, ((mkOf l c).take i ++ List.replicate (n - i) false)[i]? = some v0 := ⟨_, List.getElem?_eq_getElem (by rw [List.length_append, List.length_take, mkOf_len, HN.out, List.length_replicate]; omega)⟩
    have c0' := hd2.cellB hv0
    have x2 : w2.cell? ⟨w.heap.size, 0, none⟩ = some (.slice (some ⟨qb, qo, none⟩) L cq) := by rw [hX2.cell]; rfl
    have x3 := HK0.out w2 hbw2
    clear hv0
    clear hd hb hd' hb' hz hd2 hX2 hX hX' x0 hb2 hbw2
    go_wp2_with fail
    go_roundw
    case rel => exact ⟨i + 1, by go_num, by omega, HB.out, HX.out, HD.out⟩
    case measure => simp [intOf]; omega
  · obtain rfl : i = n := by omega
    rw [Nat.sub_self, List.take_of_length_le (by rw [mkOf_len, HN.out]; exact Nat.le_refl _), List.replicate_zero, List.append_nil] at hd
    go_wp2_with fail
    go_ret
    exact ⟨_, rfl, hd, by omega, hb⟩
set_option maxHeartbeats 1000000 in
theorem never_ok (n : Nat) (w : World) (hn : n ≤ 1000000) : Calls Tryz.prog 128 #[.int .i64 n] w fun e w' => e = .returned (.slice (some ⟨w.heap.size, 0, none⟩) n n) ∧ Blk w' w.heap.size 2 (ints (List.replicate n 1152921504606846976)) ∧ Below w.heap.size w w' := by
 have hmk := run_make64 n (by omega)
 go_enter Tryz.func128, Tryz.ntmps128
 go_wp2_with fail
 (refine wp_named ?_; intro w1 hw1)
 have hb1 : Below w.heap.size w w1 := by rw [hw1]; exact bELt
 have hd1 : Blk w1 w.heap.size 2 (ints (List.replicate 0 1152921504606846976 ++ List.replicate (n - 0) 0)) := by
  rw [hw1, Nat.sub_zero, List.replicate_zero, List.nil_append, ← zeros_int]
  exact Blk.new _ _ _
 clear hw1
 go_loopw [4] (fun q W => ∃ i : Nat, q = .int .i64 i ∧ i ≤ n ∧ Below w.heap.size w W ∧ Blk W w.heap.size 2 (ints (List.replicate i 1152921504606846976 ++ List.replicate (n - i) 0))) (fun q _ => n - (intOf q).toNat)
 case atStart => exact ⟨0, rfl, Nat.zero_le _, hb1, hd1⟩
 case round =>
  clear hb1 hd1
  obtain ⟨i, rfl, hin, hb, hd⟩ := hrel
  by_cases hlt : i < n
  · obtain ⟨v0, hv0⟩ : ∃ v0, (List.replicate i (1152921504606846976 : Int) ++ List.replicate (n - i) 0)[i]? = some v0 := ⟨_, List.getElem?_eq_getElem (by simp; omega)⟩
    have c0 := hd.cellI hv0
    have f0 := hd.frozen i
    have HD := Lib.hid (hd.setI (rep_next n i hlt 1152921504606846976 0))
    have HB := Lib.hid (show Below w.heap.size w (wr.setCell ⟨w.heap.size, i, none⟩ (.int .i64 1152921504606846976)) from Bel.setCell_ hb (Nat.le_refl _))
    have i1 : (0 : Int) ≤ (i : Int) := by omega
    have i2 : (i : Int) < (n : Int) := by omega
    clear hb hd hv0
    go_wp2_with fail
    go_roundw
    case rel => exact ⟨i + 1, by go_num, by omega, HB.out, HD.out⟩
    case measure => simp [intOf]; omega
  · obtain rfl : n = i := by omega
    rw [Nat.sub_self, List.replicate_zero, List.append_nil] at hd
    have i2 : ¬ ((n : Int) < (n : Int)) := by omega
    go_wp2_with fail
    go_ret
    exact ⟨rfl, hd, hb⟩
theorem refMarked_ok (A : Option Addr) (n c v : Nat) (mk : List Bool) (w : World) (h : RdB w A n mk) (hv : v < n) : Calls Tryz.prog 129 #[.slice A n c, .int .i64 v] w fun e w' => e = .returned (.bool (mk.getD v false)) ∧ w = w' := by
 obtain ⟨b, o, x, rfl, hx, hc⟩ := h.at_ hv
 have hxe : mk.getD v false = x := by rw [List.getD_eq_getElem?_getD, hx]; rfl
 rw [hxe]
 have i1 : (0 : Int) ≤ (v : Int) := by omega
 have i2 : (v : Int) < (n : Int) := by omega
 clear h hx hxe
 go_enter Tryz.func129, Tryz.ntmps129
 go_wp2_with fail
 go_ret
 exact ⟨rfl, rfl⟩
def addR (x y : Int) : Int := if x + y > 1152921504606846976 then 1152921504606846976 else x + y
theorem refHeld_ok (x : Int) (w : World) (h0 : 0 ≤ x) (h1 : x ≤ 1152921504606846976) : Calls Tryz.prog 159 #[.int .i64 x] w fun e w' => e = .returned (.int .i64 x) ∧ w = w' := by
 have i1 : ¬ (x < 0) := by omega
 have i2 : ¬ (x > 1152921504606846976) := by omega
 go_enter Tryz.func159, Tryz.ntmps159
 go_wp2_with fail
 go_ret
 exact ⟨rfl, rfl⟩
theorem refHeld_big (x : Int) (w : World) (h1 : x > 1152921504606846976) : Calls Tryz.prog 159 #[.int .i64 x] w fun e w' => e = .returned (.int .i64 1152921504606846976) ∧ w = w' := by
 have i1 : ¬ (x < 0) := by omega
 go_enter Tryz.func159, Tryz.ntmps159
 go_wp2_with fail
 go_ret
 exact ⟨rfl, rfl⟩
theorem refAdd_ok (x y : Int) (w : World) (hx : 0 ≤ x ∧ x ≤ 1152921504606846976) (hy : 0 ≤ y ∧ y ≤ 1152921504606846976) : Calls Tryz.prog 130 #[.int .i64 x, .int .i64 y] w fun e w' => e = .returned (.int .i64 (addR x y)) ∧ w = w' := by
 have HX := Lib.hid (refHeld_ok x w hx.1 hx.2)
 have HY := Lib.hid (refHeld_ok y w hy.1 hy.2)
 have HZ := Lib.hid (show Calls Tryz.prog 159 #[.int .i64 (x + y)] w fun e w' => e = .returned (.int .i64 (addR x y)) ∧ w = w' by
  unfold addR
  by_cases h : x + y > 1152921504606846976
  · rw [if_pos h]; exact refHeld_big _ w h
  · rw [if_neg h]; exact refHeld_ok _ w (by omega) (by omega))
 have e1 : IntKind.i64.wrap (x + y) = x + y := IntWalk.i64_in _ (by omega)
 clear hx hy
 go_enter Tryz.func130, Tryz.ntmps130
 go_wp2_with fail
 with_reducible refine HX.out.mono ?_
 rintro e w' ⟨rfl, rfl⟩
 go_wp2_with fail
 with_reducible refine HY.out.mono ?_
 rintro e w' ⟨rfl, rfl⟩
 go_wp2_with fail
 with_reducible refine HZ.out.mono ?_
 rintro e w' ⟨rfl, rfl⟩
 go_wp2_with fail
 go_ret
 exact ⟨rfl, rfl⟩
end Go.Proofs.YtgkeolddpielpaaGreat
