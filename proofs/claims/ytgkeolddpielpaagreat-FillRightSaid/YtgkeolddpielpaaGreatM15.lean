/- Parts of the proof: Dk, InQ, LeP, Og. -/
import Derived.Test.YtgkeolddpielpaaGreatM14
import Derived.Test.YtgkeolddpielpaaGreatShelf
namespace Go.Proofs.YtgkeolddpielpaaGreat

def mkOf (l : List Int) (c : Int) : List Bool := l.map (fun z => z == c)
theorem mkOf_len (l : List Int) (c : Int) : (mkOf l c).length = l.length := by simp [mkOf]
theorem mkOf_next {l : List Int} {c z : Int} {i n : Nat} (hz : l[i]? = some z) (hn : l.length = n) : ((mkOf l c).take i ++ List.replicate (n - i) false).set i (z == c) = (mkOf l c).take (i + 1) ++ List.replicate (n - (i + 1)) false := by
 have hi := (List.getElem?_eq_some_iff.1 hz).1
 have hl : ((mkOf l c).take i).length = i := by rw [List.length_take, mkOf_len]; omega
 have e : (mkOf l c)[i]? = some (z == c) := by unfold mkOf; rw [List.getElem?_map, hz]; rfl
 rw [List.set_append_right _ _ (by rw [hl]; exact Nat.le_refl _), hl, Nat.sub_self, List.take_succ_eq_append_getElem (by rw [mkOf_len]; exact hi), (List.getElem?_eq_some_iff.1 e).2]
 obtain ⟨m, hm⟩ : ∃ m, n - i = m + 1 := ⟨n - i - 1, by omega⟩
 rw [hm, show n - (i + 1) = m by omega]
 simp [List.replicate_succ]
def InK (St : StepR) (s : Nat) (D : Int) (k q : Nat) : Prop := ∃ e, Rch St s q e ∧ e ≤ (k : Int) * D
theorem InK.mono {St : StepR} {s : Nat} {D : Int} (hD : 0 ≤ D) {k q : Nat} (h : InK St s D k q) : InK St s D (k + 1) q := by
 obtain ⟨e, h1, h2⟩ := h
 refine ⟨e, h1, ?_⟩
 push_cast
 rw [Int.add_mul, Int.one_mul]
 omega
theorem countP_lt {α : Type} {p q : α → Bool} : ∀ {l : List α}, (∀ x ∈ l, p x = true → q x = true) → (∃ x ∈ l, p x = false ∧ q x = true) → l.countP p < l.countP q
 | [], _, h => by obtain ⟨x, hx, _⟩ := h; cases hx
 | y :: l, h1, h2 => by
  have hle : l.countP p ≤ l.countP q := List.countP_mono_left (fun x hx => h1 x (by simp [hx]))
  by_cases hy : p y = true
  · have hq := h1 y (by simp) hy
    obtain ⟨x, hx, hp, hx2⟩ := h2
    rcases List.mem_cons.1 hx with rfl | hx
    · rw [hy] at hp; cases hp
    · have := countP_lt (fun z hz => h1 z (by simp [hz])) ⟨x, hx, hp, hx2⟩
      simp only [List.countP_cons, hy, hq, if_pos]
      omega
  · have hy' : p y = false := by simpa using hy
    by_cases hq : q y = true
    · simp only [List.countP_cons, hy', hq]
      simp
      omega
    · obtain ⟨x, hx, hp, hx2⟩ := h2
      rcases List.mem_cons.1 hx with rfl | hx
      · exact absurd hx2 hq
      · have := countP_lt (fun z hz => h1 z (by simp [hz])) ⟨x, hx, hp, hx2⟩
        have hq' : q y = false := by simpa using hq
        simp only [List.countP_cons, hy', hq']
        simpa using this
open Classical in
theorem InK.stable (St : StepR) (s : Nat) {D : Int} (hD : 0 ≤ D) (n : Nat) : ∃ k, k ≤ n ∧ ∀ q, q < n → InK St s D (k + 1) q → InK St s D k q := by
 apply Classical.byContradiction
 intro hno
 have hstep : ∀ k, k ≤ n → (List.range n).countP (fun q => decide (InK St s D k q)) < (List.range n).countP (fun q => decide (InK St s D (k + 1) q)) := fun k hk => by
  have h1 : ¬ ∀ q, q < n → InK St s D (k + 1) q → InK St s D k q := fun h => hno ⟨k, hk, h⟩
  have ⟨q, h2⟩ := Classical.not_forall.1 h1
  have ⟨hq, h3⟩ := Classical.not_imp.1 h2
  have ⟨h4, h5⟩ := Classical.not_imp.1 h3
  refine countP_lt (fun x _ hx => ?_) ⟨q, by simpa using hq, by simpa using h5, by simpa using h4⟩
  have := InK.mono hD (of_decide_eq_true hx)
  simpa using this
 have hall : ∀ k, k ≤ n + 1 → k ≤ (List.range n).countP (fun q => decide (InK St s D k q)) := fun k => by
  induction k with
  | zero => intro _; exact Nat.zero_le _
  | succ k ih => intro hk; have := ih (by omega); have := hstep k (by omega); omega
 have h1 := hall (n + 1) (Nat.le_refl _)
 have h2 := List.countP_le_length (p := fun q => decide (InK St s D (n + 1) q)) (l := List.range n)
 rw [List.length_range] at h2
 omega
theorem Rch.bound {St : StepR} {n : Nat} {D : Int} (hD : 0 ≤ D) (hst : ∀ p q d, St p q d → q < n ∧ d ≤ D) {s p : Nat} {c : Int} (h : Rch St s p c) : ∃ e, Rch St s p e ∧ e ≤ (n : Int) * D := by
 obtain ⟨k, hk, hs⟩ := InK.stable St s hD n
 have hin : InK St s D k p := by
  induction h with
  | start => exact ⟨0, .start, Int.mul_nonneg (by omega) hD⟩
  | step h1 h2 ih =>
   obtain ⟨e, h3, h4⟩ := ih
   have := hst _ _ _ h2
   refine hs _ this.1 ⟨_, h3.step h2, ?_⟩
   push_cast
   rw [Int.add_mul, Int.one_mul]
   omega
 obtain ⟨e, h1, h2⟩ := hin
 exact ⟨e, h1, Int.le_trans h2 (Int.mul_le_mul_of_nonneg_right (by omega) hD)⟩
theorem Dij.bd {St : StepR} {s : Nat} {dn hp : Nat → Option Int} (h : Dij St s dn hp) {M : Int} (hM : ∀ p c, Rch St s p c → ∃ e, Rch St s p e ∧ e ≤ M) {p : Nat} {c : Int} (hd : dn p = some c) : c ≤ M := by
 obtain ⟨e, h1, h2⟩ := hM p c (h.dr p c hd)
 have := h.dm p c hd e h1
 omega
theorem Dij.bdTake {St : StepR} {s : Nat} {dn hp : Nat → Option Int} (h : Dij St s dn hp) (h0 : ∀ p q d, St p q d → 0 ≤ d) {M : Int} (hM : ∀ p c, Rch St s p c → ∃ e, Rch St s p e ∧ e ≤ M) {p : Nat} {c : Int} (hp1 : hp p = some c) (hm : ∀ q e, hp q = some e → c ≤ e) : c ≤ M := by
 obtain ⟨e, h1, h2⟩ := hM p c (h.hr p c hp1)
 have := h.least h0 hp1 hm e h1
 omega
theorem OutB.cut {St Out : StepR} {s k : Nat} {dn hp : Nat → Option Int} {b : Int} (h : Dij St s dn hp) (h0 : ∀ p q d, St p q d → 0 ≤ d) (ho : ∀ p d, Out p k d → 0 ≤ d) (he : ∀ q e, hp q = some e → b ≤ e)
 (hb : OutB Out dn k b (fun _ => False)) (hlt : ∀ p c d, dn p = some c → Out p k d → c + d < INF) (hin : b = INF → ∀ q, hp q = none) : Lst (OutC St Out s k) b := by
 rcases hb.hit with h1 | ⟨p, c, d, h1, h2, h3⟩
 · right
   refine ⟨h1, fun v ⟨p, c, d, h2, h3, h4⟩ => ?_⟩
   obtain ⟨e, h5, _⟩ := h.all h0 (hin h1) h2
   have := hb.lo p e d h5 h3 (fun h => h)
   have := hlt p e d h5 h3
   omega
 · left
   refine ⟨⟨p, c, d, h.dr p c h1, h2, h3⟩, fun v ⟨q, e, f, h4, h5, h6⟩ => ?_⟩
   have hf := ho _ _ h5
   rcases h.wait h0 h4 with ⟨x, h7, h8⟩ | ⟨r, x, h7, h8⟩
   · have := hb.lo q x f h7 h5 (fun h => h)
     omega
   · have := he r x h7
     omega
theorem Dij.init (St : StepR) (s : Nat) {hp : Nat → Option Int} (h : ∀ q, hp q = if q = s then some 0 else none) : Dij St s (fun _ => none) hp where
 dr := fun p c h => by cases h
 dm := fun p c h => by cases h
 hr := fun p c hc => by
  rw [h] at hc
  by_cases e : p = s
  · subst e; simp at hc; subst hc; exact .start
  · simp [e] at hc
 off := fun p c h => by cases h
 on := fun p c q d h => by cases h
 st := .inr ⟨0, by rw [h, if_pos rfl], Int.le_refl _⟩
theorem DijP.init (St : StepR) (s : Nat) (h0 : ∀ p q d, St p q d → 0 ≤ d) {hp : Nat → Option Int} (h : ∀ q, hp q = none) : DijP St s (fun q => if q = s then some 0 else none) hp s 0 (fun _ _ => False) where
 dr := fun p c hc => by
  by_cases e : p = s
  · subst e; simp at hc; subst hc; exact .start
  · simp [e] at hc
 dm := fun p c hc e he => by
  by_cases h1 : p = s
  · subst h1; simp at hc; subst hc; exact he.pos h0
  · simp [h1] at hc
 hr := fun p c hc => by rw [h] at hc; cases hc
 off := fun p c _ => h p
 on := fun p c q d hc _ => by
  by_cases h1 : p = s
  · exact .inl ⟨h1, fun h => h⟩
  · simp [h1] at hc
 st := .inl (by simp)
 at_ := by simp
theorem OutB.next {Out : StepR} {dn : Nat → Option Int} {k p : Nat} {b b' c : Int} (h : OutB Out dn k b (fun _ => False)) (hp : dn p = none) (hle : b' ≤ b) (hout : ∀ d, Out p k d → b' ≤ c + d) (hhit : b' = b ∨ ∃ d, Out p k d ∧ b' = c + d) :
 OutB Out (fun q => if q = p then some c else dn q) k b' (fun _ => False) where
 lo := fun q e d hq ho _ => by
  by_cases e1 : q = p
  · subst e1; simp at hq; subst hq; exact hout d ho
  · simp [e1] at hq; have := h.lo q e d hq ho (fun h => h); omega
 hit := by
  rcases hhit with e | ⟨d, h1, h2⟩
  · subst e
    rcases h.hit with h1 | ⟨q, x, d, h1, h2, h3⟩
    · exact .inl h1
    · exact .inr ⟨q, x, d, by rw [if_neg (fun e => by rw [e, hp] at h1; cases h1)]; exact h1, h2, h3⟩
  · exact .inr ⟨p, c, d, by simp, h1, h2⟩
end Go.Proofs.YtgkeolddpielpaaGreat

namespace Go.Proofs.YtgkeolddpielpaaGreat
open Go.RowKit

theorem turnN_meet {N : NetD} {a b : Nat} (h : turnN N a b ≠ 1152921504606846976) : ∃ x y, N.ar[a]? = some x ∧ N.ar[b]? = some y ∧ x.2.1 = y.1 := by
 unfold turnN at h
 split at h
 · rename_i x y hx hy
   by_cases e : x.2.1 = y.1
   · exact ⟨x, y, hx, hy, e⟩
   · rw [if_neg e] at h; exact absurd rfl h
 · exact absurd rfl h
def StA (N : NetD) (mk : List Bool) : StepR := fun a b d => ∃ y, N.ar[b]? = some y ∧ turnN N a b ≠ 1152921504606846976 ∧ y.2.2 ≠ 1152921504606846976 ∧
 mk.getD y.1.toNat false = true ∧ mk.getD y.2.1.toNat false = true ∧ d = turnN N a b + y.2.2
def OuA (N : NetD) : StepR := fun a t d => turnN N a t ≠ 1152921504606846976 ∧ d = turnN N a t
def EntC (N : NetD) (mk : List Bool) (s t : Nat) (v : Int) : Prop := Lst (OutC (StA N mk) (OuA N) s t) v
def OuN (N : NetD) (s na : Nat) : StepR := fun a t d => OuA N (if a = na then s else a) t d
theorem StA.lt {N : NetD} {mk : List Bool} {a b : Nat} {d : Int} (h : StA N mk a b d) : b < N.ar.length := by
 obtain ⟨y, hy, _⟩ := h
 exact (List.getElem?_eq_some_iff.1 hy).1
theorem StN.stA {N : NetD} {mk : List Bool} {s na a b : Nat} {d : Int} (h : StN N mk s na a b d) : StA N mk (if a = na then s else a) b d := h
theorem StA.bd {N : NetD} (hok : NetOk N) {mk : List Bool} {a b : Nat} {d : Int} (h : StA N mk a b d) : 0 ≤ d ∧ d ≤ 4294967296 := by
 obtain ⟨y, hy, h1, h2, _, _, rfl⟩ := h
 have h3 := (turnN_bd hok a b).resolve_left h1
 have h4 := (wOk_bd (hok.arcs y (List.mem_of_getElem? hy)).w).resolve_left h2
 omega
theorem OuA.bd {N : NetD} (hok : NetOk N) {a t : Nat} {d : Int} (h : OuA N a t d) : 0 ≤ d ∧ d ≤ 2147483648 := by
 obtain ⟨h1, rfl⟩ := h
 exact (turnN_bd hok a t).resolve_left h1
theorem rchN {N : NetD} {mk : List Bool} {s p : Nat} {c : Int} (h : Rch (StN N mk s N.ar.length) N.ar.length p c) : Rch (StA N mk) s (if p = N.ar.length then s else p) c := by
 induction h with
 | start => rw [if_pos rfl]; exact .start
 | step _ h2 ih =>
  have h3 := StN.stA h2
  rw [if_neg (fun e => by have := h3.lt; omega)]
  exact ih.step h3
theorem rchA {N : NetD} {mk : List Bool} {s p : Nat} {c : Int} (h : Rch (StA N mk) s p c) : ∃ p', p = (if p' = N.ar.length then s else p') ∧ Rch (StN N mk s N.ar.length) N.ar.length p' c := by
 induction h with
 | start => exact ⟨N.ar.length, by simp, .start⟩
 | @step p q c d _ h2 ih =>
  obtain ⟨p', e, h3⟩ := ih
  refine ⟨q, by rw [if_neg (fun e => by have := h2.lt; omega)], h3.step ?_⟩
  show StA N mk (if p' = N.ar.length then s else p') q d
  rw [← e]
  exact h2
theorem outN {N : NetD} {mk : List Bool} {s t : Nat} {v : Int} (h : Lst (OutC (StN N mk s N.ar.length) (OuN N s N.ar.length) N.ar.length t) v) : EntC N mk s t v := by
 refine h.conv (fun c hc => ?_) (fun c hc => ?_)
 · obtain ⟨p, c1, d, h1, h2, rfl⟩ := hc
   exact ⟨_, ⟨_, c1, d, rchN h1, h2, rfl⟩, Int.le_refl _⟩
 · obtain ⟨p, c1, d, h1, h2, rfl⟩ := hc
   obtain ⟨p', e, h3⟩ := rchA h1
   exact ⟨_, ⟨p', c1, d, h3, by unfold OuN; rw [← e]; exact h2, rfl⟩, Int.le_refl _⟩
def MB : Int := 70373039144960
theorem rchN_bd {N : NetD} (hok : NetOk N) {mk : List Bool} {s : Nat} (p : Nat) (c : Int) (h : Rch (StN N mk s N.ar.length) N.ar.length p c) : ∃ e, Rch (StN N mk s N.ar.length) N.ar.length p e ∧ e ≤ MB := by
 obtain ⟨e, h1, h2⟩ := Rch.bound (n := N.ar.length) (D := 4294967296) (by omega) (fun p q d h => ⟨(StN.stA h).lt, ((StN.stA h).bd hok).2⟩) h
 refine ⟨e, h1, ?_⟩
 have := hok.la
 unfold MB
 omega
theorem rchA_bd {N : NetD} (hok : NetOk N) {mk : List Bool} {s : Nat} (p : Nat) (c : Int) (h : Rch (StA N mk) s p c) : ∃ e, Rch (StA N mk) s p e ∧ e ≤ MB := by
 obtain ⟨e, h1, h2⟩ := Rch.bound (n := N.ar.length) (D := 4294967296) (by omega) (fun p q d h => ⟨h.lt, (h.bd hok).2⟩) h
 refine ⟨e, h1, ?_⟩
 have := hok.la
 unfold MB
 omega
theorem EntC.bd {N : NetD} (hok : NetOk N) {mk : List Bool} {s t : Nat} {v : Int} (h : EntC N mk s t v) : v = 1152921504606846976 ∨ (0 ≤ v ∧ v ≤ 70375186628608) := by
 rcases h with ⟨⟨p, c, d, h1, h2, rfl⟩, hm⟩ | ⟨h1, _⟩
 · right
   have hc := h1.pos (fun p q d h => (h.bd hok).1)
   have hd := h2.bd hok
   obtain ⟨e, h3, h4⟩ := rchA_bd hok p c h1
   have := hm (e + d) ⟨p, e, d, h3, h2, rfl⟩
   unfold MB at h4
   omega
 · exact .inl h1
structure InsI (N : NetD) (mk : List Bool) (s na t : Nat) (dnf hp : Nat → Option Int) (dn : List Bool) (best : Int) : Prop where
 dij : Dij (StN N mk s na) na dnf hp
 fl : ∀ q, q < na → (dn.getD q false = true ↔ dnf q ≠ none)
 bd : ∀ q e, hp q = some e → e ≤ MB + 4294967296
 best : OutB (OuN N s na) dnf t best (fun _ => False)
 ld : dn.length = na
theorem fold_bd {N : NetD} {mk dn : List Bool} {t a : Nat} {c B : Int} (hok : NetOk N) (hc : c + 4294967296 ≤ B) : ∀ (bs : List Nat) (st : Int × (Nat → Option Int)), (∀ q e, st.2 q = some e → e ≤ B) →
 ∀ q e, (bs.foldl (stepF N t mk dn a c) st).2 q = some e → e ≤ B
 | [], st, h => h
 | b :: bs, (best, hp), h => by
  refine fold_bd hok hc bs _ ?_
  intro q e hq
  unfold stepF at hq
  cases hy : N.ar[b]? with
  | none => rw [hy] at hq; exact h q e hq
  | some y =>
   rw [hy] at hq
   by_cases h1 : turnN N a b = 1152921504606846976
   · simp only [if_pos h1] at hq; exact h q e hq
   · simp only [if_neg h1] at hq
     split at hq
     · rename_i h2
       have h3 := (turnN_bd hok a b).resolve_left h1
       have h4 := (wOk_bd (hok.arcs y (List.mem_of_getElem? hy)).w).resolve_left h2.1
       unfold putH at hq
       by_cases e1 : q = b
       · rw [if_pos e1] at hq
         split at hq
         · cases hq; omega
         · rename_i z hz
           have := h b z hz
           split at hq <;> (cases hq; omega)
       · rw [if_neg e1] at hq; exact h q e hq
     · exact h q e hq
theorem nis_mem {bs : List Nat} {l : List Int} (h : nis bs = l) (b : Nat) : b ∈ bs ↔ (b : Int) ∈ l := by
 rw [← h]
 unfold nis
 constructor
 · intro hb; exact List.mem_map.2 ⟨b, hb, rfl⟩
 · intro hb
   obtain ⟨c, hc, e⟩ := List.mem_map.1 hb
   have : c = b := by omega
   rwa [← this]
theorem outs_mem {N : NetD} {a b : Nat} {x : Tri} (hx : N.ar[a]? = some x) {bs : List Nat} (hbs : nis bs = idx (·.1) N.ar x.2.1) (h : turnN N a b ≠ 1152921504606846976) : b ∈ bs := by
 obtain ⟨x', y, h1, h2, h3⟩ := turnN_meet h
 rw [hx] at h1
 cases h1
 exact (nis_mem hbs b).2 (mem_idx.2 ⟨b, y, rfl, h2, h3.symm⟩)
theorem outs_lt {N : NetD} {x : Tri} {bs : List Nat} (hbs : nis bs = idx (·.1) N.ar x.2.1) : ∀ b ∈ bs, b < N.ar.length := fun b hb => by
 obtain ⟨i, a, h1, h2, _⟩ := mem_idx.1 ((nis_mem hbs b).1 hb)
 have : b = i := by omega
 subst this
 exact (List.getElem?_eq_some_iff.1 h2).1
theorem InsI.fold {N : NetD} (hok : NetOk N) {mk dn' : List Bool} {s na t p a : Nat} {dnf hp : Nat → Option Int} {best c : Int} {x : Tri} {bs : List Nat} (hn : na = N.ar.length)
 (hP : DijP (StN N mk s na) na (fun q => if q = p then some c else dnf q) hp p c (fun _ _ => False)) (hfl : ∀ q, q < na → (dn'.getD q false = true ↔ (fun q => if q = p then some c else dnf q) q ≠ none))
 (hbd : ∀ q e, hp q = some e → e ≤ MB + 4294967296) (hb : OutB (OuN N s na) dnf t best (fun _ => False)) (hno : dnf p = none) (hld : dn'.length = na) (hc : c ≤ MB)
 (ha : a = if p = na then s else p) (hx : N.ar[a]? = some x) (hbs : nis bs = idx (·.1) N.ar x.2.1) :
 InsI N mk s na t (fun q => if q = p then some c else dnf q) (bs.foldl (stepF N t mk dn' a c) (best, hp)).2 dn' (bs.foldl (stepF N t mk dn' a c) (best, hp)).1 := by
 have hlt := outs_lt hbs
 have hdj := fold_dj (t := t) hfl hn bs (best, hp) _ (fun b hb => by rw [hn]; exact hlt b hb) hP
 rw [← ha] at hdj
 have hbest : (bs.foldl (stepF N t mk dn' a c) (best, hp)).1 = if t ∈ bs ∧ turnN N a t ≠ 1152921504606846976 then min best (c + turnN N a t) else best := fold_best bs (best, hp) (fun b hb => ⟨_, List.getElem?_eq_getElem (hlt b hb)⟩)
 refine ⟨hdj.done (fun q d hs => .inr ?_), hfl, fold_bd hok (by omega) bs _ hbd, hb.next hno ?_ ?_ ?_, hld⟩
 · obtain ⟨y, _, h1, _⟩ := hs
   rw [← ha] at h1
   exact outs_mem hx hbs h1
 · rw [hbest]
   by_cases h1 : t ∈ bs ∧ turnN N a t ≠ 1152921504606846976
   · rw [if_pos h1]; omega
   · rw [if_neg h1]; omega
 · intro d ⟨h1, h2⟩
   rw [← ha] at h1 h2
   subst h2
   rw [hbest, if_pos ⟨outs_mem hx hbs h1, h1⟩]
   omega
 · rw [hbest]
   by_cases h1 : t ∈ bs ∧ turnN N a t ≠ 1152921504606846976
   · rw [if_pos h1]
     by_cases h2 : best ≤ c + turnN N a t
     · exact .inl (by omega)
     · exact .inr ⟨turnN N a t, by unfold OuN; rw [← ha]; exact ⟨h1.2, rfl⟩, by omega⟩
   · rw [if_neg h1]; exact .inl rfl
theorem getD_rep (n q : Nat) : (List.replicate n false).getD q false = false := by
 rw [List.getD_eq_getElem?_getD, List.getElem?_replicate]
 split <;> rfl
theorem InsI.init {N : NetD} (hok : NetOk N) {mk : List Bool} {s na t : Nat} {x : Tri} {bs : List Nat} {hp : Nat → Option Int} (hn : na = N.ar.length) (he : ∀ q, hp q = none) (hx : N.ar[s]? = some x) (hbs : nis bs = idx (·.1) N.ar x.2.1) :
 InsI N mk s na t (fun q => if q = na then some 0 else none) (bs.foldl (stepF N t mk (List.replicate na false) s 0) (1152921504606846976, hp)).2 (List.replicate na false) (bs.foldl (stepF N t mk (List.replicate na false) s 0) (1152921504606846976, hp)).1 := by
 refine InsI.fold (dnf := fun _ => none) (p := na) hok hn (DijP.init _ _ (fun p q d h => ((StN.stA h).bd hok).1) he) (fun q hq => ?_) (fun q e h => by rw [he] at h; cases h) ⟨fun p c d h => (by cases h), .inl rfl⟩ rfl (by simp) (by unfold MB; omega) (by simp) hx hbs
 rw [getD_rep]
 have : q ≠ na := by omega
 simp [this]
theorem InsI.next {N : NetD} (hok : NetOk N) {mk dn : List Bool} {s na t p : Nat} {dnf hp : Nat → Option Int} {best c : Int} {x : Tri} {bs : List Nat} (h : InsI N mk s na t dnf hp dn best) (hn : na = N.ar.length)
 (hpn : p < na) (hp1 : hp p = some c) (hm : ∀ q e, hp q = some e → c ≤ e) (hx : N.ar[p]? = some x) (hbs : nis bs = idx (·.1) N.ar x.2.1) :
 InsI N mk s na t (fun q => if q = p then some c else dnf q) (bs.foldl (stepF N t mk (dn.set p true) p c) (best, fun q => if q = p then none else hp q)).2 (dn.set p true) (bs.foldl (stepF N t mk (dn.set p true) p c) (best, fun q => if q = p then none else hp q)).1 := by
 have h0 : ∀ p q d, StN N mk s na p q d → 0 ≤ d := fun p q d h => ((StN.stA h).bd hok).1
 have hno : dnf p = none := by
  cases hd : dnf p with
  | none => rfl
  | some e => have := h.dij.off p e hd; rw [hp1] at this; cases this
 refine InsI.fold hok hn (h.dij.take h0 hp1 hm) (fun q hq => ?_) (fun q e hq => ?_) h.best hno (by rw [List.length_set]; exact h.ld) (h.dij.bdTake h0 (by subst hn; exact rchN_bd hok) hp1 hm) (by rw [if_neg (by omega)]) hx hbs
 · by_cases e : q = p
   · subst e
     have : q < dn.length := by rw [h.ld]; exact hq
     simp [List.getD_eq_getElem?_getD, this]
   · have e' : ¬ p = q := fun x => e x.symm
     have := h.fl q hq
     simpa [List.getD_eq_getElem?_getD, List.getElem?_set, e, e'] using this
 · by_cases e1 : q = p
   · rw [if_pos e1] at hq; cases hq
   · rw [if_neg e1] at hq; exact h.bd q e hq
theorem InsI.done {N : NetD} {mk dn : List Bool} {s na t : Nat} {dnf hp : Nat → Option Int} {best : Int} (h : InsI N mk s na t dnf hp dn best) (hok : NetOk N) (hn : na = N.ar.length)
 (he : ∀ q e, hp q = some e → best ≤ e) : EntC N mk s t best := by
 subst hn
 refine outN (OutB.cut h.dij (fun p q d h => ((StN.stA h).bd hok).1) (fun p d h => (OuA.bd hok h).1) he h.best (fun p c d h1 h2 => ?_) (fun e q => ?_))
 · have h4 := h.dij.bd (rchN_bd hok) h1
   have h5 := OuA.bd hok h2
   unfold MB at h4
   unfold INF
   omega
 · cases hq : hp q with
   | none => rfl
   | some x =>
    have h1 := he q x hq
    have h2 := h.bd q x hq
    unfold INF at e
    unfold MB at h2
    omega
end Go.Proofs.YtgkeolddpielpaaGreat

namespace Go.Proofs.YtgkeolddpielpaaGreat

abbrev Stp := Nat × Int × Int
def StF (L : Nat → List Stp) : StepR := fun p q d => ∃ s ∈ L p, s.2.1 < 0 ∧ s.1 = q ∧ s.2.2 = d
def OuF (L : Nat → List Stp) : StepR := fun p k d => ∃ s ∈ L p, s.2.1 = (k : Int) ∧ s.2.2 = d
def stepL (dn : List Bool) (c : Int) (st : List Int × (Nat → Option Int)) (s : Stp) : List Int × (Nat → Option Int) :=
 if 0 ≤ s.2.1 then (st.1.set s.2.1.toNat (min (st.1.getD s.2.1.toNat 0) (c + s.2.2)), st.2)
 else (st.1, if dn.getD s.1 false = false then putH st.2 s.1 (c + s.2.2) else st.2)
structure FldOk (L : Nat → List Stp) (n outs : Nat) (D : Int) : Prop where
 to_ : ∀ p, p < n → ∀ s ∈ L p, s.2.1 < 0 → s.1 < n
 out : ∀ p, p < n → ∀ s ∈ L p, s.2.1 < outs
 bd : ∀ p, p < n → ∀ s ∈ L p, 0 ≤ s.2.2 ∧ s.2.2 ≤ D
theorem foldL_dj {L : Nat → List Stp} {n : Nat} {dn : List Bool} {s p : Nat} {dnf : Nat → Option Int} {c : Int} (hdn : ∀ q, q < n → (dn.getD q false = true ↔ dnf q ≠ none)) :
 ∀ (l : List Stp) (st : List Int × (Nat → Option Int)) (Gone : Nat → Int → Prop), (∀ x ∈ l, x ∈ L p ∧ (x.2.1 < 0 → x.1 < n)) → DijP (StF L) s dnf st.2 p c Gone →
  DijP (StF L) s dnf (l.foldl (stepL dn c) st).2 p c (fun r e => Gone r e ∨ ∃ x ∈ l, x.2.1 < 0 ∧ x.1 = r ∧ x.2.2 = e)
 | [], st, Gone, _, h => h.gone (fun r d _ hg => hg.elim id (fun ⟨_, e, _⟩ => by cases e))
 | x :: l, (row, hp), Gone, hb, h => by
  have hx := hb x (by simp)
  have h1 : DijP (StF L) s dnf (stepL dn c (row, hp) x).2 p c (fun r e => Gone r e ∨ (x.2.1 < 0 ∧ x.1 = r ∧ x.2.2 = e)) := by
   unfold stepL
   by_cases ho : 0 ≤ x.2.1
   · simp only [if_pos ho]
     exact h.gone (fun r d _ hg => hg.elim id (fun e => by omega))
   · simp only [if_neg ho]
     have hst : StF L p x.1 x.2.2 := ⟨x, hx.1, by omega, rfl, rfl⟩
     by_cases h5 : dn.getD x.1 false = true
     · have hne := (hdn x.1 (hx.2 (by omega))).1 h5
       rw [if_neg (by rw [h5]; simp)]
       exact (h.put hst (.inl ⟨hne, fun e he => h.dm x.1 e he _ ((h.dr p c h.at_).step hst), rfl⟩)).gone (fun r d _ hg => hg.elim .inl (fun e => .inr ⟨e.2.1.symm, e.2.2.symm⟩))
     · have h6 : dn.getD x.1 false = false := by simpa using h5
       rw [if_pos h6]
       have hno : dnf x.1 = none := by
        cases hd : dnf x.1 with
        | none => rfl
        | some e => exact absurd ((hdn x.1 (hx.2 (by omega))).2 (by rw [hd]; simp)) h5
       refine (h.put (hp' := putH hp x.1 (c + x.2.2)) hst (.inr ⟨hno, fun r hr => by unfold putH; rw [if_neg hr], ?_⟩)).gone (fun r d _ hg => hg.elim .inl (fun e => .inr ⟨e.2.1.symm, e.2.2.symm⟩))
       unfold putH
       rw [if_pos rfl]
       dsimp only
       cases hv : hp x.1 with
       | none => exact .inr ⟨fun e he => (by cases he), rfl⟩
       | some z =>
        by_cases hz : z ≤ c + x.2.2
        · exact .inl ⟨z, rfl, hz, by simp [hz]⟩
        · exact .inr ⟨fun e he => (by cases he; omega), by simp [hz]⟩
  have h2 := foldL_dj hdn l _ _ (fun q hq => hb q (by simp [hq])) h1
  refine h2.gone (fun r d _ hg => ?_)
  rcases hg with hg | ⟨y, hy, hg⟩
  · exact .inl (.inl hg)
  · rcases List.mem_cons.1 hy with e | e
    · subst e; exact .inl (.inr hg)
    · exact .inr ⟨y, e, hg⟩
theorem foldL_len {dn : List Bool} {c : Int} : ∀ (l : List Stp) (st : List Int × (Nat → Option Int)), (l.foldl (stepL dn c) st).1.length = st.1.length
 | [], st => rfl
 | x :: l, st => by
  rw [List.foldl_cons, foldL_len l]
  unfold stepL
  split <;> simp
theorem foldL_bd {dn : List Bool} {c D B : Int} (hc : c + D ≤ B) : ∀ (l : List Stp) (st : List Int × (Nat → Option Int)), (∀ x ∈ l, x.2.2 ≤ D) → (∀ q e, st.2 q = some e → e ≤ B) →
 ∀ q e, (l.foldl (stepL dn c) st).2 q = some e → e ≤ B
 | [], st, _, h => h
 | x :: l, (row, hp), hb, h => by
  have hx := hb x (by simp)
  refine foldL_bd hc l _ (fun y hy => hb y (by simp [hy])) ?_
  intro q e hq
  unfold stepL at hq
  split at hq
  · exact h q e hq
  · simp only at hq
    split at hq
    · unfold putH at hq
      by_cases e1 : q = x.1
      · rw [if_pos e1] at hq
        split at hq
        · cases hq; omega
        · rename_i z hz
          have := h x.1 z hz
          split at hq <;> (cases hq; omega)
      · rw [if_neg e1] at hq; exact h q e hq
    · exact h q e hq
theorem foldL_row {dn : List Bool} {c : Int} (k : Nat) : ∀ (l : List Stp) (st : List Int × (Nat → Option Int)), k < st.1.length →
 (l.foldl (stepL dn c) st).1.getD k 0 ≤ st.1.getD k 0 ∧ (∀ x ∈ l, x.2.1 = (k : Int) → (l.foldl (stepL dn c) st).1.getD k 0 ≤ c + x.2.2) ∧
  ((l.foldl (stepL dn c) st).1.getD k 0 = st.1.getD k 0 ∨ ∃ x ∈ l, x.2.1 = (k : Int) ∧ (l.foldl (stepL dn c) st).1.getD k 0 = c + x.2.2)
 | [], st, _ => ⟨Int.le_refl _, fun x hx => (by cases hx), .inl rfl⟩
 | x :: l, st, hk => by
  have hl : (stepL dn c st x).1.length = st.1.length := by unfold stepL; split <;> simp
  obtain ⟨h1, h2, h3⟩ := foldL_row k l (stepL dn c st x) (by rw [hl]; exact hk)
  rw [List.foldl_cons]
  have hs : (stepL dn c st x).1.getD k 0 = if x.2.1 = (k : Int) then min (st.1.getD k 0) (c + x.2.2) else st.1.getD k 0 := by
   unfold stepL
   by_cases ho : 0 ≤ x.2.1
   · simp only [if_pos ho]
     by_cases e : x.2.1 = (k : Int)
     · rw [if_pos e, e, Int.toNat_natCast]
       simp [List.getD_eq_getElem?_getD, hk]
     · rw [if_neg e]
       have : ¬ x.2.1.toNat = k := by omega
       simp [List.getD_eq_getElem?_getD, this]
   · simp only [if_neg ho]
     rw [if_neg (by omega)]
  generalize hz : (stepL dn c st x).1.getD k 0 = z at h1 h3 hs
  generalize hy : (l.foldl (stepL dn c) (stepL dn c st x)).1.getD k 0 = y at h1 h2 h3 ⊢
  refine ⟨by split at hs <;> omega, fun u hu e => ?_, ?_⟩
  · rcases List.mem_cons.1 hu with rfl | hu
    · rw [if_pos e] at hs; omega
    · exact h2 u hu e
  · rcases h3 with h3 | ⟨u, hu, h4, h5⟩
    · by_cases e : x.2.1 = (k : Int)
      · rw [if_pos e] at hs
        by_cases h6 : st.1.getD k 0 ≤ c + x.2.2
        · exact .inl (by omega)
        · exact .inr ⟨x, by simp, e, by omega⟩
      · rw [if_neg e] at hs; exact .inl (by omega)
    · exact .inr ⟨u, by simp [hu], h4, h5⟩
structure LeI (L : Nat → List Stp) (n outs start : Nat) (B : Int) (dnf hp : Nat → Option Int) (dn : List Bool) (row : List Int) : Prop where
 dij : Dij (StF L) start dnf hp
 fl : ∀ q, q < n → (dn.getD q false = true ↔ dnf q ≠ none)
 dlt : ∀ q, n ≤ q → dnf q = none
 bd : ∀ q e, hp q = some e → e ≤ B
 best : ∀ k, k < outs → OutB (OuF L) dnf k (row.getD k 0) (fun _ => False)
 ld : dn.length = n
 lr : row.length = outs
theorem LeI.init {L : Nat → List Stp} {n outs start : Nat} {B : Int} {hp : Nat → Option Int} {row : List Int} (hB : 0 ≤ B) (h : ∀ q, hp q = if q = start then some 0 else none) (hr : row = List.replicate outs 1152921504606846976) : LeI L n outs start B (fun _ => none) hp (List.replicate n false) row := by
 subst hr
 refine ⟨Dij.init _ _ h, fun q _ => ?_, fun q _ => rfl, fun q e hq => ?_, fun k hk => ⟨fun p c d h => (by cases h), .inl ?_⟩, by simp, by simp⟩
 · rw [List.getD_eq_getElem?_getD, List.getElem?_replicate]
   split <;> simp
 · rw [h] at hq
   split at hq
   · cases hq; exact hB
   · cases hq
 · rw [List.getD_eq_getElem?_getD, List.getElem?_replicate, if_pos hk]
   rfl
theorem StF.bd {L : Nat → List Stp} {n outs : Nat} {D : Int} (h : FldOk L n outs D) (he : ∀ p, n ≤ p → L p = []) {p q : Nat} {d : Int} (hs : StF L p q d) : 0 ≤ d ∧ d ≤ D ∧ p < n ∧ q < n := by
 obtain ⟨s, h1, h2, rfl, rfl⟩ := hs
 have hp : p < n := by
  rcases Nat.lt_or_ge p n with h3 | h3
  · exact h3
  · rw [he p h3] at h1; cases h1
 exact ⟨(h.bd p hp s h1).1, (h.bd p hp s h1).2, hp, h.to_ p hp s h1 h2⟩
theorem OuF.bd {L : Nat → List Stp} {n outs : Nat} {D : Int} (h : FldOk L n outs D) (he : ∀ p, n ≤ p → L p = []) {p k : Nat} {d : Int} (hs : OuF L p k d) : 0 ≤ d ∧ d ≤ D := by
 obtain ⟨s, h1, h2, rfl⟩ := hs
 have hp : p < n := by
  rcases Nat.lt_or_ge p n with h3 | h3
  · exact h3
  · rw [he p h3] at h1; cases h1
 exact h.bd p hp s h1
theorem LeI.next {L : Nat → List Stp} {n outs start p : Nat} {M D B c : Int} {dnf hp : Nat → Option Int} {dn : List Bool} {row : List Int} (h : LeI L n outs start B dnf hp dn row) (hf : FldOk L n outs D) (he : ∀ p, n ≤ p → L p = [])
 (hM : ∀ p c, Rch (StF L) start p c → ∃ e, Rch (StF L) start p e ∧ e ≤ M) (hB : M + D ≤ B) (hpn : p < n) (hp1 : hp p = some c) (hm : ∀ q e, hp q = some e → c ≤ e) :
 LeI L n outs start B (fun q => if q = p then some c else dnf q) ((L p).foldl (stepL (dn.set p true) c) (row, fun q => if q = p then none else hp q)).2 (dn.set p true) ((L p).foldl (stepL (dn.set p true) c) (row, fun q => if q = p then none else hp q)).1 := by
 have h0 : ∀ p q d, StF L p q d → 0 ≤ d := fun p q d hs => (StF.bd hf he hs).1
 have hno : dnf p = none := by
  cases hd : dnf p with
  | none => rfl
  | some e => have := h.dij.off p e hd; rw [hp1] at this; cases this
 have hfl : ∀ q, q < n → ((dn.set p true).getD q false = true ↔ (fun q => if q = p then some c else dnf q) q ≠ none) := fun q hq => by
  by_cases e : q = p
  · subst e
    have : q < dn.length := by rw [h.ld]; exact hq
    simp [List.getD_eq_getElem?_getD, this]
  · have e' : ¬ p = q := fun x => e x.symm
    have := h.fl q hq
    simpa [List.getD_eq_getElem?_getD, List.getElem?_set, e, e'] using this
 have hc : c ≤ M := h.dij.bdTake h0 hM hp1 hm
 have hdj := foldL_dj (L := L) (n := n) hfl (L p) (row, fun q => if q = p then none else hp q) _ (fun x hx => ⟨hx, fun h1 => hf.to_ p hpn x hx h1⟩) (h.dij.take h0 hp1 hm)
 refine ⟨hdj.done (fun q d ⟨s, h1, h2, h3, h4⟩ => .inr ⟨s, h1, h2, h3, h4⟩), hfl, fun q hq => ?_, foldL_bd (D := D) (by omega) _ _ (fun x hx => (hf.bd p hpn x hx).2) (fun q e hq => ?_), fun k hk => ?_, by rw [List.length_set]; exact h.ld, by rw [foldL_len]; exact h.lr⟩
 · have : q ≠ p := by omega
   simp [this, h.dlt q hq]
 · by_cases e1 : q = p
   · simp [e1] at hq
   · simp [e1] at hq; exact h.bd q e hq
 · obtain ⟨h1, h2, h3⟩ := foldL_row (dn := dn.set p true) (c := c) k (L p) (row, fun q => if q = p then none else hp q) (by rw [h.lr]; exact hk)
   refine (h.best k hk).next hno h1 (fun d ⟨s, h4, h5, h6⟩ => ?_) (h3.elim .inl (fun ⟨s, h4, h5, h6⟩ => .inr ⟨_, ⟨s, h4, h5, rfl⟩, h6⟩))
   subst h6
   exact h2 s h4 h5
theorem LeI.done {L : Nat → List Stp} {n outs start : Nat} {M D B : Int} {dnf hp : Nat → Option Int} {dn : List Bool} {row : List Int} (h : LeI L n outs start B dnf hp dn row) (hf : FldOk L n outs D) (he : ∀ p, n ≤ p → L p = [])
 (hM : ∀ p c, Rch (StF L) start p c → ∃ e, Rch (StF L) start p e ∧ e ≤ M) (hB : M + D < 1152921504606846976) (hn : ∀ q, hp q = none) : ∀ k, k < outs → Lst (OutC (StF L) (OuF L) start k) (row.getD k 0) := fun k hk =>
 OutB.least h.dij (fun p q d hs => (StF.bd hf he hs).1) hn (h.best k hk) (fun p c d h1 h2 => by
  have h3 := h.dij.bd hM h1
  have h4 := OuF.bd hf he h2
  unfold INF
  omega)
end Go.Proofs.YtgkeolddpielpaaGreat

namespace Go.Proofs.YtgkeolddpielpaaGreat
open Go.RowKit

attribute [local go_sem ↓] Go.wp_at_zero Go.wp_at_succ

theorem oLevels_any (o : Nat) (ar : List Tri) (ls : List (List Int)) (w : World) (h : RdOv w o ar ls) : Calls Tryz.prog 10 #[.pointer (some ⟨o, 0, none⟩)] w fun e w' => e = .returned (.int .i64 (ls.length : Int)) ∧ w = w' := by
 obtain ⟨Q, F, T, G, S, L, m, cq, cf, ct, cg, cs, h⟩ := h
 have h0 := h.n0
 have HL := Lib.hid h.part.1
 clear h
 go_enter Tryz.func10, Tryz.ntmps10
 go_wp2
 go_ret
 exact ⟨ret_int (by rw [HL.out]), rfl⟩
theorem oSize_any (o : Nat) (ar : List Tri) (ls : List (List Int)) (w : World) (h : RdOv w o ar ls) : Calls Tryz.prog 27 #[.pointer (some ⟨o, 0, none⟩)] w fun e w' => e = .returned (.int .i64 ((sumA (gatesOf ar ls) : Nat) : Int)) ∧ w = w' := by
 obtain ⟨Q, F, T, G, S, L, m, cq, cf, ct, cg, cs, h⟩ := h
 have h0 := h.n5
 clear h
 generalize sumA (gatesOf ar ls) = z at *
 go_enter Tryz.func27, Tryz.ntmps27
 go_wp2
 go_ret
 exact ⟨rfl, rfl⟩
theorem gates_get {ar : List Tri} {ls : List (List Int)} {i : Nat} {l : List Int} (h : ls[i]? = some l) : (gatesOf ar ls)[i]? = some (gateRow ar l) := by
 unfold gatesOf
 rw [List.getElem?_map, h]
 rfl
theorem oCells_ok (o i M : Nat) (ar : List Tri) (ls : List (List Int)) (l : List Int) (w : World) (h : RdOv w o ar ls) (hl : ls[i]? = some l) (hL : ls.length ≤ 1000000) (hM : (mostN l).toNat = M) : Calls Tryz.prog 11 #[.pointer (some ⟨o, 0, none⟩), .int .i64 ((i : Int) + 1)] w fun e w' => e = .returned (.int .i64 (M : Int)) ∧ w = w' := by
 obtain ⟨Q, F, T, G, S, L, m, cq, cf, ct, cg, cs, h⟩ := h
 have h0 := h.n3
 have hi : i < L := by rw [← h.part.1]; exact (List.getElem?_eq_some_iff.1 hl).1
 have hLL : L ≤ 1000000 := by rw [← h.part.1]; exact hL
 obtain ⟨row, gb, go_, A, n, c, hrow, rfl, hc, hr, _⟩ := h.gates.at_ hi
 rw [gates_get hl] at hrow
 cases hrow
 have HN := Lib.hid (show n = M by rw [← hr.1, gateRow_len, hM])
 clear hM
 have i1 : (0 : Int) ≤ (i : Int) := by omega
 have i2 : (i : Int) < (L : Int) := by omega
 have i3 : ¬ ((i : Int) + 1 < 1) := by omega
 have i4 : ¬ ((i : Int) + 1 > (L : Int)) := by omega
 have i5 : (i : Int) + 1 - 1 = (i : Int) := by omega
 clear h hl hr hL
 go_enter Tryz.func11, Tryz.ntmps11
 go_wp2
 go_ret
 exact ⟨ret_int (by rw [HN.out]), rfl⟩
theorem oHas_ok (o i k M : Nat) (ar : List Tri) (ls : List (List Int)) (l : List Int) (w : World) (h : RdOv w o ar ls) (hl : ls[i]? = some l) (hL : ls.length ≤ 1000000) (hM : (mostN l).toNat = M) (hk : k < M) : Calls Tryz.prog 39 #[.pointer (some ⟨o, 0, none⟩), .int .i64 ((i : Int) + 1), .int .i64 k] w fun e w' => e = .returned (.bool true) ∧ w = w' := by
 have HC := Lib.hid (oCells_ok o i M ar ls l w h hl hL hM)
 clear h hl hL hM
 have i1 : (0 : Int) ≤ (k : Int) := by omega
 have i2 : (k : Int) < (M : Int) := by omega
 go_enter Tryz.func39, Tryz.ntmps39
 go_wp2_with fail
 with_reducible refine HC.out.mono ?_
 rintro e w' ⟨rfl, rfl⟩
 go_wp2_with fail
 go_ret
 exact ⟨ret_bool (by first | (simp; done) | (simp; omega)), rfl⟩
set_option maxHeartbeats 1000000 in
theorem oGate_own (o i k : Nat) (ar : List Tri) (ls : List (List Int)) (l : List Int) (x : GateD) (w : World) (h : RdOv w o ar ls) (hl : ls[i]? = some l) (hL : ls.length ≤ 1000000) (hx : (gateRow ar l)[k]? = some x) (ha : ar.length ≤ 1000000) :
 Calls Tryz.prog 12 #[.pointer (some ⟨o, 0, none⟩), .int .i64 ((i : Int) + 1), .int .i64 k] w fun e w' => ∃ A1 n1 c1 A2 n2 c2, e = .returned (.agg #[.slice A1 n1 c1, .slice A2 n2 c2]) ∧ Own w' w.heap.size 3 1 A1 n1 c1 (icells x.1) ∧ Own w' w.heap.size 3 1 A2 n2 c2 (icells x.2) ∧ Below w.heap.size w w' := by
 have hk : k < (mostN l).toNat := by rw [← gateRow_len ar l]; exact (List.getElem?_eq_some_iff.1 hx).1
 have HH := Lib.hid (show ∀ V, Below w.heap.size w V → Calls Tryz.prog 39 #[.pointer (some ⟨o, 0, none⟩), .int .i64 ((i : Int) + 1), .int .i64 k] V fun e w' => e = .returned (.bool true) ∧ V = w' from fun V hV => oHas_ok o i k _ ar ls l V (h.below hV) hl hL rfl hk)
 obtain ⟨Q, F, T, G, S, L, m, cq, cf, ct, cg, cs, h⟩ := h
 have h0 := h.n3
 have hi : i < L := by rw [← h.part.1]; exact (List.getElem?_eq_some_iff.1 hl).1
 have hLL : L ≤ 1000000 := by rw [← h.part.1]; exact hL
 obtain ⟨row, gb, go_, A, n, c, hrow, rfl, hc, hr, _⟩ := h.gates.at_ hi
 rw [gates_get hl] at hrow
 cases hrow
 have hn : n = (mostN l).toNat := by rw [← hr.1, gateRow_len]
 obtain ⟨y, cb, co, A1, n1, c1, A2, n2, c2, hy, rfl, hc1, hr1, hc2, hr2, _⟩ := hr.at_ (c := k) (by omega)
 rw [hx] at hy
 cases hy
 have hg := gate_in_le hx
 have HR1 := Lib.hid hr1
 have HR2 := Lib.hid hr2
 have hn1 : n1 ≤ 1000000 := by rw [← hr1.1]; omega
 have hn2 : n2 ≤ 1000000 := by rw [← hr2.1]; omega
 have h0a := fun ob => Below.cellOf (show Below w.heap.size w (w.alloc ob) from bELt) (Nat.le_refl _) h0
 have hca := fun ob => Below.cellOf (show Below w.heap.size w (w.alloc ob) from bELt) (Nat.le_refl _) hc
 have hc1a := fun ob => Below.cellOf (show Below w.heap.size w (w.alloc ob) from bELt) (Nat.le_refl _) hc1
 have hc2a := fun ob => Below.cellOf (show Below w.heap.size w (w.alloc ob) from bELt) (Nat.le_refl _) hc2
 have i1 : (0 : Int) ≤ (i : Int) := by omega
 have i2 : (i : Int) < (L : Int) := by omega
 have i5 : (i : Int) + 1 - 1 = (i : Int) := by omega
 have i6 : (0 : Int) ≤ (k : Int) := by omega
 have i7 : (k : Int) < (n : Int) := by omega
 clear h hl hr hL hx hr1 hr2 hn hk
 go_enter Tryz.func12, Tryz.ntmps12
 go_wp2_with fail
 with_reducible refine (HH.out _ bELt).mono ?_
 rintro e w' ⟨rfl, rfl⟩
 go_wp2_with fail
 (refine wp_named ?_; intro w3 hw3)
 have hb3 : Below w.heap.size w w3 := by rw [hw3]; exact bELt
 have hZ : Blk w3 w.heap.size 38 #[.slice none 0 0, .slice none 0 0] := by rw [hw3]; exact bLNt
 have hX : Blk w3 (w.heap.size + 1) 38 #[.slice A1 n1 c1, .slice A2 n2 c2] := by rw [hw3]; exact bLNt
 clear hw3 h0a hca hc1a hc2a
 have HSX := Lib.hid (show ∀ V, Blk V (w.heap.size + 1) 38 #[.slice A1 n1 c1, .slice A2 n2 c2] → V.cell? ⟨w.heap.size + 1, 0, none⟩ = some (.slice A1 n1 c1) ∧ V.cell? ⟨w.heap.size + 1, 1, none⟩ = some (.slice A2 n2 c2) from fun V hV => ⟨hV.two.1, hV.two.2.1⟩)
 refine wp_region_held_drew (S := fun V => Blk V (w.heap.size + 1) 38 #[.slice A1 n1 c1, .slice A2 n2 c2]) (by kernel_rfl) hX.drew (fun _ => ?_)
 refine tk 0 25 (h := ⟨_, tv, ?_⟩)
 simp only [pE, List.set]
 refine tk 1 26 (h := ⟨_, tv, ?_⟩)
 simp only [pE, List.set]
 refine tk 3 28 (h := ⟨_, tv, ?_⟩)
 simp only [pE, List.set]
 refine tk 4 29 (h := ⟨_, tv, ?_⟩)
 simp only [pE, List.set]
 refine wpAnyH_ready (rs := [2]) (by kernel_rfl) (by simp) ?_
 refine AllReadyH.cons (o := _) rfl (fun K hK => ?_) AllReadyH.nil
 go_simp
 with_reducible refine (fresh_any A1 n1 c1 x.1 _ (HR1.out.below (show Below w.heap.size w w3.drew from bELt)) hn1).mono ?_
 rintro e w4 ⟨B1, d1, rfl, ho1, hb4⟩
 have hb34 : Below w3.heap.size w3 w4 := (Below.refl _ w3).drew.trans hb4
 have hX4 := hX.below hb34 hX.lt
 have hZ4 := hZ.below hb34 hZ.lt
 have hb4' := Bel.step hb3 hb34
 clear hb4
 go_wp2_with fail
 refine hK.out _ _ hX4 (fun _ => ?_)
 clear hK K
 refine wpAnyH_ready (rs := [5]) (by kernel_rfl) (by simp) ?_
 refine AllReadyH.cons (o := _) rfl (fun K hK => ?_) AllReadyH.nil
 go_simp
 with_reducible refine (fresh_any A2 n2 c2 x.2 w4 (HR2.out.below hb4') hn2).mono ?_
 rintro e w5 ⟨B2, d2, rfl, ho2, hb5⟩
 have hX5 := hX4.below hb5 hX4.lt
 have hZ5 := hZ4.below hb5 hZ4.lt
 have hb5' := Bel.step hb4' hb5
 have ho1' := ho1.below hb5
 have hz3 := hb34.size
 have hzX := hX.lt
 replace ho1' : Own w5 w3.heap.size 3 1 B1 n1 d1 (icells x.1) := ho1'
 clear ho1 hb5
 go_wp2_with fail
 refine hK.out _ _ hX5 (fun _ => ?_)
 clear hK K
 refine tk 6 31 (h := ⟨_, tv, ?_⟩)
 simp only [pE, List.set]
 obtain ⟨z0, z1, zf0, zf1⟩ := hZ5.two
 refine wpAnyH_ready (rs := [7]) (by kernel_rfl) (by simp) ?_
 refine AllReadyH.cons (o := _) rfl (fun K hK => ?_) AllReadyH.nil
 go_simp
 refine hK.out _ _ ((hX5.far_ (by omega) _).far_ (by omega) _) (fun _ => ?_)
 clear hK K
 refine wpAnyH_done (by kernel_rfl) ?_ _
 have HF1 := Lib.hid (((ho1'.far (grownBy_set w5 w.heap.size 0 (.slice B1 n1 d1)) (.inr (ho1'.ne (by omega)))).far (grownBy_set _ w.heap.size 1 (.slice B2 n2 d2)) (.inr (ho1'.ne (by omega)))).mono (show w.heap.size ≤ w3.heap.size by omega))
 have HF2 := Lib.hid (((ho2.far (grownBy_set w5 w.heap.size 0 (.slice B1 n1 d1)) (.inr (ho2.ne (by omega)))).far (grownBy_set _ w.heap.size 1 (.slice B2 n2 d2)) (.inr (ho2.ne (by omega)))).mono (show w.heap.size ≤ w4.heap.size by omega))
 clear ho1' ho2
 go_wp2_with fail
 refine bodyPost_ret (v := .agg #[.slice B1 n1 d1, .slice B2 n2 d2]) (by simp [results, Tryz.results12, go_sem, z0, z1]) rfl ?_
 exact ⟨B1, n1, d1, B2, n2, d2, rfl, HF1.out, HF2.out, bELt⟩
theorem count_lt {l : List Int} (h : l.Pairwise (· < ·)) {k : Nat} {v : Int} (hk : l[k]? = some v) : l.countP (· < v) = k := by
 induction l generalizing k with
 | nil => simp at hk
 | cons x t ih =>
  rw [List.pairwise_cons] at h
  cases k with
  | zero =>
   simp at hk
   subst hk
   rw [List.countP_eq_zero]
   intro y hy
   rcases List.mem_cons.1 hy with rfl | hy
   · simp
   · have := h.1 y hy
     simp
     omega
  | succ k =>
   simp at hk
   have hx := h.1 v (List.mem_of_getElem? hk)
   rw [List.countP_cons, ih h.2 hk]
   simp [hx]
theorem plI_sorted {l : List Int} (h : l.Pairwise (· < ·)) {k : Nat} {v : Int} (hk : l[k]? = some v) : plI l v = k := by
 refine plI_hit hk (fun j x hj hx e => ?_)
 subst e
 rw [List.pairwise_iff_getElem] at h
 have h1 := (List.getElem?_eq_some_iff.1 hx)
 have h2 := (List.getElem?_eq_some_iff.1 hk)
 have := h j k h1.1 h2.1 hj
 rw [h1.2, h2.2] at this
 omega
set_option maxHeartbeats 400000 in
theorem gPlace_ok (A : Option Addr) (n c : Nat) (l : List Int) (v : Int) (w : World) (h : RdI w A n l) (hs : l.Pairwise (· < ·)) (hn : n ≤ 1000000) :
 Calls Tryz.prog 42 #[.slice A n c, .int .i64 v] w fun e w' => e = .returned (.int .i64 (plI l v)) ∧ Below w.heap.size w w' := by
 have hb : ∃ (p : Nat) (t : Bool), Calls Tryz.prog 74 #[.slice A n c, .int .i64 v] w (fun e w' => e = .returned (.tuple #[.int .i64 (p : Int), .bool t]) ∧ Below w.heap.size w w') ∧ plI l v = if t then (p : Int) else -1 := by
  cases n with
  | zero =>
   have hl : l = [] := List.eq_nil_of_length_eq_zero h.1
   subst hl
   refine ⟨0, false, ?_, by simp [plI_miss]⟩
   refine Calls.mono (show Calls Tryz.prog 74 _ _ _ from Any.slices_BinarySearch_int_empty Tryz.searchL A c v w) ?_
   rintro e w' ⟨rfl, rfl⟩
   exact ⟨rfl, Below.refl _ _⟩
  | succ n =>
   obtain ⟨b, o, x, rfl, hx, hc⟩ := h.at_ (i := 0) (by omega)
   have hcon := Any.slices_BinarySearch_int Tryz.searchL b o (n + 1) c l v w (by rw [h.1]; exact Nat.le_refl _) (by omega) (fun j hj => by
    obtain ⟨b', o', y, e, hy, hc'⟩ := h.at_ (i := j) (by rw [← h.1]; exact hj)
    cases e
    rw [List.getD_eq_getElem?_getD, hy]
    exact hc') (by rw [List.take_of_length_le (by rw [h.1]; exact Nat.le_refl _)]; exact hs.imp (fun h => by omega))
   rw [List.take_of_length_le (by rw [h.1]; exact Nat.le_refl _)] at hcon
   refine ⟨l.countP (· < v), l.contains v, ?_, ?_⟩
   · refine Calls.mono (show Calls Tryz.prog 74 _ _ _ from hcon) ?_
     rintro e w' ⟨rfl, q, rfl⟩
     exact ⟨rfl, below_drewN (Below.refl _ _) q⟩
   · by_cases hm : v ∈ l
     · obtain ⟨k, hk⟩ := List.getElem?_of_mem hm
       rw [plI_sorted hs hk, count_lt hs hk, if_pos (by simpa using hm)]
     · rw [plI_miss hm, if_neg (by simpa using hm)]
 obtain ⟨p, t, hcall, hp⟩ := hb
 have HC := Lib.hid hcall
 have HP := Lib.hid hp
 clear hcall hp h hs
 go_enter Tryz.func42, Tryz.ntmps42
 go_wp2_with fail
 with_reducible refine HC.out.mono ?_
 rintro e w' ⟨rfl, hb⟩
 cases t
 · go_wp2_with fail
   go_ret
   exact ⟨ret_int (by rw [HP.out]; rfl), hb⟩
 · go_wp2_with fail
   go_ret
   exact ⟨ret_int (by rw [HP.out]; rfl), hb⟩
end Go.Proofs.YtgkeolddpielpaaGreat
