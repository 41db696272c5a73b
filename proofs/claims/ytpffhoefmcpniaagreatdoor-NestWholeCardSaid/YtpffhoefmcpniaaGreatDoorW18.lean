/- Parts of the proof: NeW, Ks. -/
import Derived.Test.YtpffhoefmcpniaaGreatDoorW1
import Derived.Test.YtpffhoefmcpniaaGreatDoorW3
import Derived.Test.YtpffhoefmcpniaaGreatDoorW4
import Derived.Test.YtpffhoefmcpniaaGreatDoorW17
/- nest.cutter: what its memory reads as. -/
namespace Go.Proofs.YtpffhoefmcpniaaGreatDoor
open Go.RowKit

/-- Numbers, and what lies behind them. -/
def ovr (L : List Int) (cs : List Value) : Array Value := (icells L ++ cs).toArray
theorem ovr_get {L : List Int} {cs : List Value} {i : Nat} {x : Int} (h : L[i]? = some x) : (ovr L cs)[i]? = some (.int .i64 x) := by
  unfold ovr icells
  rw [List.getElem?_toArray, List.getElem?_append_left (by rw [List.length_map]; exact (List.getElem?_eq_some_iff.1 h).1), List.getElem?_map, h]
  rfl
theorem ovr_set {L : List Int} {cs : List Value} {i : Nat} (x : Int) (h : i < L.length) : (ovr L cs).setIfInBounds i (.int .i64 x) = ovr (L.set i x) cs := by
  unfold ovr icells
  rw [List.setIfInBounds_toArray, List.set_append_left _ _ (by rw [List.length_map]; exact h), List.map_set]
/-- The places, in a block of their own: none, where there are no vertices. -/
def PlI (W : World) (A : Option Addr) (cs : List Value) (L : List Int) : Prop := (A = none ∧ L = []) ∨ ∃ g, A = some ⟨g, 0, none⟩ ∧ Blk W g 3 (ovr L cs)
theorem PlI.at_ {W : World} {A : Option Addr} {cs : List Value} {L : List Int} {i : Nat} {x : Int} (h : PlI W A cs L) (hx : L[i]? = some x) : ∃ g, A = some ⟨g, 0, none⟩ ∧ W.cell? ⟨g, i, none⟩ = some (.int .i64 x) ∧ W.frozen? ⟨g, i, none⟩ = false ∧ g < W.heap.size ∧ ∀ y, PlI (W.setCell ⟨g, i, none⟩ (.int .i64 y)) A cs (L.set i y) := by
  rcases h with ⟨_, rfl⟩ | ⟨g, rfl, h⟩
  · simp at hx
  · exact ⟨g, rfl, by rw [h.cell, ovr_get hx], h.frozen i, h.lt, fun y => .inr ⟨g, rfl, by have := h.set_ i (.int .i64 y); rwa [ovr_set y (List.getElem?_eq_some_iff.1 hx).1] at this⟩⟩
theorem PlI.keep {W W' : World} {A : Option Addr} {cs : List Value} {L : List Int} (h : PlI W A cs L) (hk : ∀ g, blkOf A = some g → g < W.heap.size → W'.heap[g]? = W.heap[g]?) : PlI W' A cs L := by
  rcases h with h | ⟨g, rfl, h⟩
  · exact .inl h
  · exact .inr ⟨g, rfl, (hk g rfl h.lt).trans h⟩
/-- Of each vertex its place among vl: of the first j of these alone; then of those behind the first j alone. -/
def plcL (n : Nat) (vl : List Nat) (j : Nat) : List Int := (List.range n).map (fun v => if v ∈ vl.take j then (vl.idxOf v : Int) else -1)
def clrL (n : Nat) (vl : List Nat) (j : Nat) : List Int := (List.range n).map (fun v => if v ∈ vl ∧ v ∉ vl.take j then (vl.idxOf v : Int) else -1)
theorem plcL_len (n : Nat) (vl : List Nat) (j : Nat) : (plcL n vl j).length = n := by simp [plcL]
theorem clrL_len (n : Nat) (vl : List Nat) (j : Nat) : (clrL n vl j).length = n := by simp [clrL]
theorem plcL_zero (n : Nat) (vl : List Nat) : plcL n vl 0 = List.replicate n (-1) := by
  apply List.ext_getElem?
  intro i
  rcases Nat.lt_or_ge i n with h | h
  · simp [plcL, h]
  · rw [List.getElem?_eq_none (by rw [plcL_len]; exact h), List.getElem?_eq_none (by simpa using h)]
theorem plcL_at {n j v : Nat} {vl : List Nat} (h : v < n) : (plcL n vl j)[v]? = some (if v ∈ vl.take j then (vl.idxOf v : Int) else -1) := by
  unfold plcL
  rw [List.getElem?_map, List.getElem?_range h]
  rfl
theorem clrL_at {n j v : Nat} {vl : List Nat} (h : v < n) : (clrL n vl j)[v]? = some (if v ∈ vl ∧ v ∉ vl.take j then (vl.idxOf v : Int) else -1) := by
  unfold clrL
  rw [List.getElem?_map, List.getElem?_range h]
  rfl
theorem take_mem {vl : List Nat} {j v u : Nat} (hv : vl[j]? = some v) : u ∈ vl.take (j + 1) ↔ u ∈ vl.take j ∨ u = v := by
  obtain ⟨h1, e1⟩ := List.getElem?_eq_some_iff.1 hv
  rw [List.take_succ_eq_append_getElem h1, e1, List.mem_append, List.mem_singleton]
theorem idxOf_at {vl : List Nat} (hn : vl.Nodup) {j v : Nat} (hv : vl[j]? = some v) : vl.idxOf v = j := by
  obtain ⟨h1, e1⟩ := List.getElem?_eq_some_iff.1 hv
  rw [← e1]
  exact hn.idxOf_getElem j h1
theorem plcL_next {n j v : Nat} {vl : List Nat} (hn : vl.Nodup) (hv : vl[j]? = some v) (h : v < n) : (plcL n vl j).set v (j : Int) = plcL n vl (j + 1) := by
  apply List.ext_getElem?
  intro i
  rcases Nat.lt_or_ge i n with hi | hi
  · rw [plcL_at hi]
    by_cases e : v = i
    · subst e
      rw [List.getElem?_set_self (by rw [plcL_len]; exact h), if_pos ((take_mem hv).2 (.inr rfl)), idxOf_at hn hv]
    · rw [List.getElem?_set_ne e, plcL_at hi]
      have : i ∈ vl.take (j + 1) ↔ i ∈ vl.take j := by rw [take_mem hv]; exact ⟨fun h => h.resolve_right (fun h => e h.symm), .inl⟩
      simp only [this]
  · rw [List.getElem?_eq_none (by rw [List.length_set, plcL_len]; exact hi), List.getElem?_eq_none (by rw [plcL_len]; exact hi)]
theorem clrL_zero (n : Nat) (vl : List Nat) : clrL n vl 0 = plcL n vl vl.length := by
  apply List.ext_getElem?
  intro i
  rcases Nat.lt_or_ge i n with hi | hi
  · rw [plcL_at hi, clrL_at hi]
    simp
  · rw [List.getElem?_eq_none (by rw [clrL_len]; exact hi), List.getElem?_eq_none (by rw [plcL_len]; exact hi)]
theorem clrL_all (n : Nat) (vl : List Nat) : clrL n vl vl.length = List.replicate n (-1) := by
  apply List.ext_getElem?
  intro i
  rcases Nat.lt_or_ge i n with hi | hi
  · rw [clrL_at hi]
    simp [hi]
  · rw [List.getElem?_eq_none (by rw [clrL_len]; exact hi), List.getElem?_eq_none (by simpa using hi)]
theorem clrL_next {n j v : Nat} {vl : List Nat} (hv : vl[j]? = some v) (h : v < n) : (clrL n vl j).set v (-1) = clrL n vl (j + 1) := by
  apply List.ext_getElem?
  intro i
  rcases Nat.lt_or_ge i n with hi | hi
  · rw [clrL_at hi]
    by_cases e : v = i
    · subst e
      rw [List.getElem?_set_self (by rw [clrL_len]; exact h), if_neg (fun q => q.2 ((take_mem hv).2 (.inr rfl)))]
    · rw [List.getElem?_set_ne e, clrL_at hi]
      have : i ∈ vl.take (j + 1) ↔ i ∈ vl.take j := by rw [take_mem hv]; exact ⟨fun h => h.resolve_right (fun h => e h.symm), .inl⟩
      simp only [this]
  · rw [List.getElem?_eq_none (by rw [List.length_set, clrL_len]; exact hi), List.getElem?_eq_none (by rw [clrL_len]; exact hi)]
theorem plcL_full {n v : Nat} {vl : List Nat} (h : v < n) : (plcL n vl vl.length)[v]? = some (if v ∈ vl then (vl.idxOf v : Int) else -1) := by
  rw [plcL_at h, List.take_length]
/-- A cutter: its points, its ends, of each vertex its place (L). -/
structure CtL (W : World) (gc : Nat) (AP AE AL : Option Addr) (cp ce cl : Nat) (cs : List Value) (N : NetD) (L : List Int) : Prop where
  blk : Blk W gc 125 #[.slice AP N.vs.length cp, .slice AE N.ar.length ce, .slice AL N.vs.length cl]
  pts : RdP W AP N.vs.length (N.vs.map (fun v => (v.1, v.2.1)))
  ends : RdP W AE N.ar.length (N.ar.map (fun a => (a.1, a.2.1)))
  place : PlI W AL cs L
  len : L.length = N.vs.length
  far : ∀ g, blkOf AL = some g → g ≠ gc ∧ blkOf AP ≠ some g ∧ blkOf AE ≠ some g
  lt : ∀ b, blkOf AP = some b ∨ blkOf AE = some b ∨ blkOf AL = some b → b < W.heap.size
  capP : N.vs.length ≤ cp
  capE : N.ar.length ≤ ce
  capL : N.vs.length ≤ cl
/-- The cutter at rest. -/
def NoPl (N : NetD) : List Int := List.replicate N.vs.length (-1)
abbrev CtV (W : World) (gc : Nat) (AP AE AL : Option Addr) (cp ce cl : Nat) (cs : List Value) (N : NetD) : Prop := CtL W gc AP AE AL cp ce cl cs N (NoPl N)
section
variable {W W' w : World} {gc cp ce cl g : Nat} {AP AE AL : Option Addr} {cs : List Value} {N : NetD} {L : List Int}
theorem RdP.keep {A : Option Addr} {n : Nat} {l : List (Int × Int)} (h : RdP W A n l) (hk : ∀ b, blkOf A = some b → W'.heap[b]? = W.heap[b]?) : RdP W' A n l :=
  ⟨h.1, fun i x hx => by
    obtain ⟨b, o, e, h1, h2⟩ := h.2 i x hx
    subst e
    have hb := hk b rfl
    refine ⟨b, o, rfl, ?_, ?_⟩
    all_goals
      unfold World.cell? at h1 h2 ⊢
      rw [hb]
      assumption⟩
theorem RdP.ltN {A : Option Addr} {n b : Nat} {l : List (Int × Int)} (h : RdP W A n l) (hn : 0 < n) (hb : blkOf A = some b) : b < W.heap.size := by
  obtain ⟨b', o, x, y, rfl, _, hc, _⟩ := h.at_ hn
  cases hb
  exact lt_of_cell hc
theorem RdP.grownN {A : Option Addr} {n : Nat} {r : Option Nat} {l : List (Int × Int)} (h : RdP W A n l) (hg : W.grownBy W' r) (hne : ∀ g, blkOf A = some g → r ≠ some g) : RdP W' A n l :=
  ⟨h.1, fun i x hx => by
    obtain ⟨b, o, e, h1, h2⟩ := h.2 i x hx
    subst e
    have hk := hg.block b (lt_of_cell h1) (fun e => hne b rfl e.symm)
    refine ⟨b, o, rfl, ?_, ?_⟩
    all_goals
      unfold World.cell? at h1 h2 ⊢
      rw [hk]
      assumption⟩
theorem CtL.below (h : CtL W gc AP AE AL cp ce cl cs N L) (hb : Below W.heap.size W W') : CtL W' gc AP AE AL cp ce cl cs N L :=
  ⟨h.blk.below hb h.blk.lt, h.pts.below hb, h.ends.below hb, h.place.keep (fun g _ hl => hb.block g hl), h.len, h.far, fun b hx => Nat.lt_of_lt_of_le (h.lt b hx) hb.size, h.capP, h.capE, h.capL⟩
theorem CtL.grown {r : Option Nat} (h : CtL W gc AP AE AL cp ce cl cs N L) (hg : W.grownBy W' r) (hr : ∀ k, r = some k → k ≠ gc ∧ blkOf AP ≠ some k ∧ blkOf AE ≠ some k ∧ blkOf AL ≠ some k) : CtL W' gc AP AE AL cp ce cl cs N L :=
  ⟨h.blk.grown hg (fun e => (hr gc e).1 rfl), h.pts.grownN hg (fun g e1 e2 => (hr g e2).2.1 e1), h.ends.grownN hg (fun g e1 e2 => (hr g e2).2.2.1 e1), h.place.keep (fun g e hl => hg.block g hl (fun e2 => (hr g e2.symm).2.2.2 e)), h.len, h.far, fun b hx => Nat.lt_of_lt_of_le (h.lt b hx) hg.size, h.capP, h.capE, h.capL⟩
theorem CtL.at_ {v : Nat} (h : CtL W gc AP AE AL cp ce cl cs N L) (hv : v < N.vs.length) : ∃ (g : Nat) (x : Int), L[v]? = some x ∧ AL = some ⟨g, 0, none⟩ ∧ W.cell? ⟨g, v, none⟩ = some (.int .i64 x) ∧ W.frozen? ⟨g, v, none⟩ = false ∧ g < W.heap.size ∧ ∀ y, CtL (W.setCell ⟨g, v, none⟩ (.int .i64 y)) gc AP AE AL cp ce cl cs N (L.set v y) := by
  have hx := List.getElem?_eq_getElem (show v < L.length by rw [h.len]; exact hv)
  obtain ⟨g, rfl, h1, h2, h3, h4⟩ := h.place.at_ hx
  have hf := h.far g rfl
  exact ⟨g, _, hx, rfl, h1, h2, h3, fun y => ⟨h.blk.grown (grownBy_set W g v _) (fun e => hf.1 (by cases e; rfl)), h.pts.grownN (grownBy_set W g v _) (fun k e1 e2 => hf.2.1 (by cases e2; exact e1)), h.ends.grownN (grownBy_set W g v _) (fun k e1 e2 => hf.2.2 (by cases e2; exact e1)), h4 y, by rw [List.length_set, h.len], h.far, fun b hx => by simpa [World.setCell] using h.lt b hx, h.capP, h.capE, h.capL⟩⟩
theorem CtL.new {k : Nat} (h : CtL W gc AP AE AL cp ce cl cs N L) (hk : W.heap.size ≤ k) : k ≠ gc ∧ blkOf AP ≠ some k ∧ blkOf AE ≠ some k ∧ blkOf AL ≠ some k :=
  ⟨fun e => by have := h.blk.lt; omega, fun e => by have := h.lt k (.inl e); omega, fun e => by have := h.lt k (.inr (.inl e)); omega, fun e => by have := h.lt k (.inr (.inr e)); omega⟩
/-- Where the places are again what they were nothing has been turned. -/
theorem CtL.back (h : CtL w gc AP AE AL cp ce cl cs N L) (h' : CtL W gc AP AE AL cp ce cl cs N L) (hg : w.grownBy W (blkOf AL)) : Below w.heap.size w W where
  os := hg.os
  tape := hg.tape
  output := hg.output
  size := hg.size
  block := fun k hk => by
    by_cases e : some k = blkOf AL
    · rcases h.place with ⟨e0, _⟩ | ⟨g, e0, p1⟩
      · rw [e0] at e; cases e
      · rcases h'.place with ⟨e1, _⟩ | ⟨g', e2, p2⟩
        · rw [e0] at e1; cases e1
        · rw [e0] at e2 e
          cases e2
          cases e
          exact p2.trans p1.symm
    · exact hg.block k hk e
end
end Go.Proofs.YtpffhoefmcpniaaGreatDoor

/- Drawn orders: what a region's loads need, held till its store; one store more at the end. -/
namespace Go.Proofs.YtpffhoefmcpniaaGreatDoor
open Go.RowKit

section
variable {P : Program} {ops : Array Oper} {Q : Exit → Act → World → Prop} {md : Region.Mode} {S : World → Prop} {k : Nat}
/-- Whatever order is picked; S behind every operation till k has come up, nothing asked behind it. -/
def wpAnyK (P : Program) (md : Region.Mode) (ops : Array Oper) (Q : Exit → Act → World → Prop) (S : World → Prop) (k : Nat) : Nat → Array Bool → Act → World → Prop
  | 0, listed, a, w => Region.ready md ops listed = [] ∧ Q .normal a w
  | fuel + 1, listed, a, w =>
    (Region.ready md ops listed = [] → Q .normal a w) ∧
    ∀ i ∈ Region.ready md ops listed, wpOp P ops Q i (fun a' w' => if i = k then wpAny P md ops Q fuel (listed.setIfInBounds i true) a' w' else S w' ∧ wpAnyK P md ops Q S k fuel (listed.setIfInBounds i true) a' w') a w
theorem wpAny_of_K : ∀ (fuel : Nat) (listed : Array Bool) (a : Act) (w : World), wpAnyK P md ops Q S k fuel listed a w → wpAny P md ops Q fuel listed a w
  | 0, _, _, _, h => h
  | fuel + 1, _, _, _, h => ⟨h.1, fun i hi => wpOp_mono (fun a' w' h' => by
      by_cases e : i = k
      · rw [if_pos e] at h'; exact h'
      · rw [if_neg e] at h'; exact wpAny_of_K fuel _ a' w' h'.2) (h.2 i hi)⟩
/-- k waits for i. -/
def waitsFor (md : Region.Mode) (ops : Array Oper) (k i : Nat) : Bool := (ops[k]?).elim false fun o => o.after.any fun e => Region.binds md e && e.on == i
theorem waits_not {i : Nat} {listed : Array Bool} (h : waitsFor md ops k i = true) (hi : i ∈ Region.ready md ops listed) : k ∉ Region.ready md ops listed := by
  intro hk
  obtain ⟨_, o, ho, hall⟩ := mem_ready.1 hk
  unfold waitsFor at h
  rw [ho] at h
  simp only [Option.elim, Array.any_eq_true', Bool.and_eq_true, beq_iff_eq] at h
  obtain ⟨e, he, hb, hon⟩ := h
  have h1 := hall e he hb
  have h0 := (mem_ready.1 hi).1
  rw [hon] at h1
  simp only [Array.getD_eq_getD_getElem?] at h0 h1
  cases hx : listed[i]? with
  | none => rw [hx] at h0; cases h0
  | some b => rw [hx] at h0 h1; simp at h0 h1; rw [h0] at h1; cases h1
theorem wpAnyK_first {i : Nat} {oi : Oper} {v : Value} (hi : ops[i]? = some oi) (hsel : ∀ (j : Nat) (o : Oper) cs b, ops[j]? = some o → o.op ≠ .select cs b)
    (hQ : ∀ c a w, Q (.panic c) (a.put oi.dst v) w → Q (.panic c) a w) (hwk : waitsFor md ops k i = true) (hik : i ≠ k) :
    ∀ (fuel : Nat) (listed : Array Bool) (a : Act) (w : World),
      (∀ j oj, ops[j]? = some oj → j ≠ i → listed.getD j true = false → (∀ e ∈ oj.after, Region.binds md e = true → e.on ≠ i) → oi.apart ops oj = true) →
      i ∈ Region.ready md ops listed → YieldsIf P ops S oi v a → S w →
      wpAnyK P md ops Q S k fuel (listed.setIfInBounds i true) (a.put oi.dst v) w → wpAnyK P md ops Q S k (fuel + 1) listed a w := by
  intro fuel
  induction fuel with
  | zero =>
    intro listed a w _ hr hy hS H
    refine ⟨fun h => (by rw [h] at hr; cases hr), fun j hj => ?_⟩
    by_cases hji : j = i
    · subst hji
      refine hy.wpOp hi hS ?_
      rw [if_neg hik]
      exact ⟨hS, H⟩
    · have := ready_mono hj hji
      rw [H.1] at this
      cases this
  | succ fuel ih =>
    intro listed a w hfree hr hy hS H
    refine ⟨fun h => (by rw [h] at hr; cases hr), fun j hj => ?_⟩
    by_cases hji : j = i
    · subst hji
      refine hy.wpOp hi hS ?_
      rw [if_neg hik]
      exact ⟨hS, H⟩
    · have hjk : j ≠ k := fun e => waits_not hwk hr (e ▸ hj)
      have h1 := H.2 j (ready_mono hj hji)
      obtain ⟨hjun, oj, hoj, hall⟩ := mem_ready.1 hj
      have hnot : ∀ e ∈ oj.after, Region.binds md e = true → e.on ≠ i := fun e he hb heq => by
        refine waits_not (k := j) (i := i) ?_ hr hj
        unfold waitsFor
        rw [hoj]
        simp only [Option.elim, Array.any_eq_true', Bool.and_eq_true, beq_iff_eq]
        exact ⟨e, he, hb, heq⟩
      have h2 := wpOp_putIf hoj (hfree j oj hoj hji hjun hnot) (fun cs b => hsel i oi cs b hi) (fun cs b => hsel j oj cs b hoj) hQ hy h1
      have hfree' : ∀ q oq, ops[q]? = some oq → q ≠ i → (listed.setIfInBounds j true).getD q true = false →
          (∀ e ∈ oq.after, Region.binds md e = true → e.on ≠ i) → oi.apart ops oq = true := fun q oq hq hqi hun hno => by
        refine hfree q oq hq hqi ?_ hno
        by_cases hjq : j = q
        · subst hjq; exact hjun
        · rw [getD_set_ne true hjq] at hun; exact hun
      refine wpOp_mono (fun a' w' h3 => ?_) h2
      rw [if_neg hjk] at h3 ⊢
      refine ⟨h3.2.1, ih (listed.setIfInBounds j true) a' w' hfree' (ready_mono hr (Ne.symm hji)) h3.1 h3.2.1 ?_⟩
      rw [Array.setIfInBounds_comm _ _ hji]
      exact h3.2.2
theorem takeK_ {i : Nat} {oi : Oper} {d : Option Tmp} {v : Value} {fuel : Nat} {listed : Array Bool} {a : Act} {w : World} (hi : ops[i]? = some oi) (hd : oi.dst = d)
    (hwk : waitsFor md ops k i = true) (hik : (i == k) = false) (hs : Region.noSelect ops = true) (hf : Region.free md ops listed i = true) (hr : (Region.ready md ops listed).contains i = true)
    (hQ : ∀ c a w, Q (.panic c) (a.put oi.dst v) w → Q (.panic c) a w) (hw : Region.wanted oi (yielded ops a.tmps) = true) (hy : ∀ w, S w → (execOp a.eval oi).run P w = .ok (.value v) w) (hS : S w)
    (h : wpAnyK P md ops Q S k fuel (listed.setIfInBounds i true) (a.put d v) w) : wpAnyK P md ops Q S k (fuel + 1) listed a w := by
  subst hd
  exact wpAnyK_first hi (Region.noSelect_spec hs) hQ hwk (by simpa using hik) fuel listed a w (Region.free_spec hi hf) (by simpa using hr) (Or.inl ⟨hw, hy⟩) hS h
/-- What yields in whatever world may be taken first too, though k does not wait for it. -/
theorem wpAnyK_free {i : Nat} {oi : Oper} {v : Value} (hi : ops[i]? = some oi) (hsel : ∀ (j : Nat) (o : Oper) cs b, ops[j]? = some o → o.op ≠ .select cs b)
    (hQ : ∀ c a w, Q (.panic c) (a.put oi.dst v) w → Q (.panic c) a w) (hik : i ≠ k) :
    ∀ (fuel : Nat) (listed : Array Bool) (a : Act) (w : World),
      (∀ j oj, ops[j]? = some oj → j ≠ i → listed.getD j true = false → (∀ e ∈ oj.after, Region.binds md e = true → e.on ≠ i) → oi.apart ops oj = true) →
      i ∈ Region.ready md ops listed → YieldsIf P ops (fun _ => True) oi v a → S w →
      wpAnyK P md ops Q S k fuel (listed.setIfInBounds i true) (a.put oi.dst v) w → wpAnyK P md ops Q S k (fuel + 1) listed a w := by
  intro fuel
  induction fuel with
  | zero =>
    intro listed a w _ hr hy hS H
    refine ⟨fun h => (by rw [h] at hr; cases hr), fun j hj => ?_⟩
    by_cases hji : j = i
    · subst hji
      refine hy.wpOp hi trivial ?_
      rw [if_neg hik]
      exact ⟨hS, H⟩
    · have := ready_mono hj hji
      rw [H.1] at this
      cases this
  | succ fuel ih =>
    intro listed a w hfree hr hy hS H
    refine ⟨fun h => (by rw [h] at hr; cases hr), fun j hj => ?_⟩
    by_cases hji : j = i
    · subst hji
      refine hy.wpOp hi trivial ?_
      rw [if_neg hik]
      exact ⟨hS, H⟩
    · have h1 := H.2 j (ready_mono hj hji)
      obtain ⟨hjun, oj, hoj, hall⟩ := mem_ready.1 hj
      have hnot : ∀ e ∈ oj.after, Region.binds md e = true → e.on ≠ i := fun e he hb heq => by
        refine waits_not (k := j) (i := i) ?_ hr hj
        unfold waitsFor
        rw [hoj]
        simp only [Option.elim, Array.any_eq_true', Bool.and_eq_true, beq_iff_eq]
        exact ⟨e, he, hb, heq⟩
      have h2 := wpOp_putIf hoj (hfree j oj hoj hji hjun hnot) (fun cs b => hsel i oi cs b hi) (fun cs b => hsel j oj cs b hoj) hQ hy h1
      have hfree' : ∀ q oq, ops[q]? = some oq → q ≠ i → (listed.setIfInBounds j true).getD q true = false →
          (∀ e ∈ oq.after, Region.binds md e = true → e.on ≠ i) → oi.apart ops oq = true := fun q oq hq hqi hun hno => by
        refine hfree q oq hq hqi ?_ hno
        by_cases hjq : j = q
        · subst hjq; exact hjun
        · rw [getD_set_ne true hjq] at hun; exact hun
      refine wpOp_mono (fun a' w' h3 => ?_) h2
      by_cases hjk : j = k
      · rw [if_pos hjk] at h3 ⊢
        refine wpAny_first hi hsel hQ fuel (listed.setIfInBounds j true) a' w' hfree' (ready_mono hr (Ne.symm hji)) (h3.1.imp (fun ⟨ha, hb⟩ => ⟨ha, fun w => hb w trivial⟩) id) ?_
        rw [Array.setIfInBounds_comm _ _ hji]
        exact h3.2
      · rw [if_neg hjk] at h3 ⊢
        refine ⟨h3.2.1, ih (listed.setIfInBounds j true) a' w' hfree' (ready_mono hr (Ne.symm hji)) h3.1 h3.2.1 ?_⟩
        rw [Array.setIfInBounds_comm _ _ hji]
        exact h3.2.2
theorem takeF_ {i : Nat} {oi : Oper} {d : Option Tmp} {v : Value} {fuel : Nat} {listed : Array Bool} {a : Act} {w : World} (hi : ops[i]? = some oi) (hd : oi.dst = d)
    (hik : (i == k) = false) (hs : Region.noSelect ops = true) (hf : Region.free md ops listed i = true) (hr : (Region.ready md ops listed).contains i = true)
    (hQ : ∀ c a w, Q (.panic c) (a.put oi.dst v) w → Q (.panic c) a w) (hw : Region.wanted oi (yielded ops a.tmps) = true) (hy : ∀ w, True → (execOp a.eval oi).run P w = .ok (.value v) w) (hS : S w)
    (h : wpAnyK P md ops Q S k fuel (listed.setIfInBounds i true) (a.put d v) w) : wpAnyK P md ops Q S k (fuel + 1) listed a w := by
  subst hd
  exact wpAnyK_free hi (Region.noSelect_spec hs) hQ (by simpa using hik) fuel listed a w (Region.free_spec hi hf) (by simpa using hr) (Or.inl ⟨hw, hy⟩) hS h
theorem tkK (i d : Nat) {oi : Oper} {fuel : Nat} {listed : Array Bool} {a : Act} {w : World} (hi : ops[i]? = some oi := by rfl) (hd : oi.dst = some d := by rfl) (hwk : waitsFor md ops k i = true := by kernel_rfl) (hik : (i == k) = false := by rfl) (hs : Region.noSelect ops = true := by kernel_rfl)
    (hf : Region.free md ops listed i = true := by kernel_rfl) (hr : (Region.ready md ops listed).contains i = true := by kernel_rfl) (hQ : ∀ c a w v, Q (.panic c) (a.put oi.dst v) w → Q (.panic c) a w := by exact fun _ _ _ _ h => h) (hw : Region.wanted oi (yielded ops a.tmps) = true := by rfl) (hS : S w := by first | rfl | trivial | assumption)
    (h : ∃ v, (∀ w, S w → (execOp a.eval oi).run P w = .ok (.value v) w) ∧ wpAnyK P md ops Q S k fuel (listed.setIfInBounds i true) (a.put (some d) v) w) : wpAnyK P md ops Q S k (fuel + 1) listed a w := by
  obtain ⟨v, h1, h2⟩ := h
  exact takeK_ (i := i) (d := some d) (v := v) hi hd hwk hik hs hf hr (fun c a w => hQ c a w v) hw h1 hS h2
theorem tkF (i d : Nat) {oi : Oper} {fuel : Nat} {listed : Array Bool} {a : Act} {w : World} (hi : ops[i]? = some oi := by rfl) (hd : oi.dst = some d := by rfl) (hik : (i == k) = false := by rfl) (hs : Region.noSelect ops = true := by kernel_rfl)
    (hf : Region.free md ops listed i = true := by kernel_rfl) (hr : (Region.ready md ops listed).contains i = true := by kernel_rfl) (hQ : ∀ c a w v, Q (.panic c) (a.put oi.dst v) w → Q (.panic c) a w := by exact fun _ _ _ _ h => h) (hw : Region.wanted oi (yielded ops a.tmps) = true := by rfl) (hS : S w := by first | rfl | trivial | assumption)
    (h : ∃ v, (∀ w, True → (execOp a.eval oi).run P w = .ok (.value v) w) ∧ wpAnyK P md ops Q S k fuel (listed.setIfInBounds i true) (a.put (some d) v) w) : wpAnyK P md ops Q S k (fuel + 1) listed a w := by
  obtain ⟨v, h1, h2⟩ := h
  exact takeF_ (i := i) (d := some d) (v := v) hi hd hik hs hf hr (fun c a w => hQ c a w v) hw h1 hS h2
/-- k alone may come up: it is carried out. -/
theorem wpAnyK_at {o : Oper} {fuel : Nat} {listed : Array Bool} {a : Act} {w : World} (hr : Region.ready md ops listed = [k]) (ho : ops[k]? = some o)
    (h : ∀ K' : Act → World → Prop, Shut (∀ a w, wpAny P md ops Q fuel (listed.setIfInBounds k true) a w → K' a w) → if Region.wanted o (yielded ops a.tmps) = true then Oper.wp P o a w K' Q else K' (a.put o.dst undef) w) :
    wpAnyK P md ops Q S k (fuel + 1) listed a w := by
  refine ⟨fun h0 => (by rw [hr] at h0; cases h0), fun j hj => ?_⟩
  rw [hr] at hj
  obtain rfl : j = k := by simpa using hj
  refine wpOp_step ho (fun K' hK => h K' (fun a w hW => hK a w ?_))
  rw [if_pos rfl]
  exact hW
/-- i alone may come up, ahead of k: it is carried out, S shown behind it. -/
theorem wpAnyK_one {i : Nat} {o : Oper} {fuel : Nat} {listed : Array Bool} {a : Act} {w : World} (hr : Region.ready md ops listed = [i]) (hik : (i == k) = false) (ho : ops[i]? = some o)
    (h : ∀ K' : Act → World → Prop, Shut (∀ a w, S w → (S w → wpAnyK P md ops Q S k fuel (listed.setIfInBounds i true) a w) → K' a w) → if Region.wanted o (yielded ops a.tmps) = true then Oper.wp P o a w K' Q else K' (a.put o.dst undef) w) :
    wpAnyK P md ops Q S k (fuel + 1) listed a w := by
  refine ⟨fun h0 => (by rw [hr] at h0; cases h0), fun j hj => ?_⟩
  rw [hr] at hj
  obtain rfl : j = i := by simpa using hj
  refine wpOp_step ho (fun K' hK => h K' (fun a w hS hW => hK a w ?_))
  rw [if_neg (by simpa using hik)]
  exact ⟨hS, hW hS⟩
theorem wpAny_at {o : Oper} {fuel : Nat} {listed : Array Bool} {a : Act} {w : World} (hr : Region.ready md ops listed = [k]) (ho : ops[k]? = some o)
    (h : ∀ K' : Act → World → Prop, Shut (∀ a w, wpAny P md ops Q fuel (listed.setIfInBounds k true) a w → K' a w) → if Region.wanted o (yielded ops a.tmps) = true then Oper.wp P o a w K' Q else K' (a.put o.dst undef) w) :
    wpAny P md ops Q (fuel + 1) listed a w := by
  refine ⟨fun h0 => (by rw [hr] at h0; cases h0), fun j hj => ?_⟩
  rw [hr] at hj
  obtain rfl : j = k := by simpa using hj
  exact wpOp_step ho (fun K' hK => h K' (fun a w hW => hK a w hW))
theorem wpAny_over {listed : Array Bool} {a : Act} {w : World} (hr : Region.ready md ops listed = []) (h : Q .normal a w) : ∀ fuel, wpAny P md ops Q fuel listed a w
  | 0 => ⟨hr, h⟩
  | _ + 1 => ⟨fun _ => h, by rw [hr]; simp⟩
theorem wp_region_K (k : Nat) {id : Nat} {a : Act} {w : World} (hm : P.follows .mixedOrders = true) (hS : S w.drew)
    (h : S w.drew → wpAnyK P .any ops Q S k ops.size (Array.replicate ops.size false) a w.drew) : (Code.region id ops true).wp P Q a w :=
  wp_region_any hm (wpAny_of_K _ _ _ _ (h hS))
end
end Go.Proofs.YtpffhoefmcpniaaGreatDoor
