/- What a push does to a flow; what it means that none more goes: plain. -/
import Derived.Test.YtjphjbchhhembaaDoorFl4
namespace Go.Proofs.YtjphjbchhhembaaDoor
open Go.RowKit

/-- Links one behind the other, from a to b. -/
def Chn : Nat → List Lnk → Nat → Prop
  | a, [], b => a = b
  | a, k :: p, b => k.u = a ∧ Chn k.v p b
theorem chn_of : ∀ (p : List Lnk) (a b : Nat), (p = [] → b = a) → (∀ k, p[0]? = some k → k.u = a) → (∀ k, p.getLast? = some k → k.v = b) → (∀ (i : Nat) (k k' : Lnk), p[i]? = some k → p[i + 1]? = some k' → k.v = k'.u) → Chn a p b
  | [], a, b, h, _, _, _ => (h rfl).symm
  | k :: p, a, b, _, h0, hl, hk => by
    refine ⟨h0 k rfl, chn_of p k.v b (fun e => ?_) (fun q hq => ?_) (fun q hq => ?_) (fun i q q' h1 h2 => hk (i + 1) q q' (by simpa using h1) (by simpa using h2))⟩
    · subst e
      exact (hl k rfl).symm
    · exact (hk 0 k q rfl (by simpa using hq)).symm
    · refine hl q ?_
      cases p with
      | nil => simp at hq
      | cons c t => rw [List.getLast?_cons_cons]; exact hq
/-- A link is an edge's. -/
def LkE (E : List Edg) (k : Lnk) : Prop := k.u ≠ k.v ∧ ((k.y = 1 ∧ E[k.e]? = some ((k.u : Int), (k.v : Int))) ∨ (k.y = -1 ∧ E[k.e]? = some ((k.v : Int), (k.u : Int))))
theorem LkE.lt {E : List Edg} {k : Lnk} (h : LkE E k) : k.e < E.length := by
  rcases h.2 with ⟨_, h⟩ | ⟨_, h⟩ <;> exact (List.getElem?_eq_some_iff.1 h).1
theorem LkE.sign {E : List Edg} {k : Lnk} (h : LkE E k) : k.y = 1 ∨ k.y = -1 := by
  rcases h.2 with ⟨h, _⟩ | ⟨h, _⟩
  · exact .inl h
  · exact .inr h
theorem app1_out {S : Int → Bool} {E : List Edg} {f : List Int} {k : Lnk} (hk : LkE E k) (hl : f.length = E.length) : outF S E (app1 f k) = outF S E f + iB (S k.u) - iB (S k.v) := by
  have hf : f[k.e]? = some (f.getD k.e 0) := by
    rw [List.getD_eq_getElem?_getD, List.getElem?_eq_getElem (by rw [hl]; exact hk.lt)]; rfl
  exact outF_link hf hk.2
theorem appAll_out {S : Int → Bool} {E : List Edg} : ∀ (p : List Lnk) (f : List Int) (a b : Nat), (∀ k ∈ p, LkE E k) → f.length = E.length → Chn a p b → outF S E (appAll f p) = outF S E f + iB (S a) - iB (S b)
  | [], f, a, b, _, _, hc => by
    have : a = b := hc
    subst this
    show outF S E f = _
    omega
  | k :: p, f, a, b, hk, hl, hc => by
    have h1 := app1_out (S := S) (hk k List.mem_cons_self) hl
    have h2 := appAll_out (S := S) p (app1 f k) k.v b (fun q hq => hk q (List.mem_cons_of_mem _ hq)) (by rw [app1_len]; exact hl) hc.2
    show outF S E (appAll (app1 f k) p) = _
    rw [h2, h1, hc.1]
    omega
theorem app1_getD {f : List Int} {k : Lnk} {i : Nat} (h : i ≠ k.e) : (app1 f k).getD i 0 = f.getD i 0 := by
  unfold app1
  rw [List.getD_eq_getElem?_getD, List.getElem?_set_ne (Ne.symm h), ← List.getD_eq_getElem?_getD]
theorem appAll_unit {E : List Edg} : ∀ (p : List Lnk) (f : List Int), (∀ k ∈ p, LkE E k) → f.length = E.length → (∀ x ∈ f, Unit3 x) → (∀ k ∈ p, rm f 1 k) → p.Pairwise (fun a b => a.e ≠ b.e) → ∀ x ∈ appAll f p, Unit3 x
  | [], f, _, _, hu, _, _ => hu
  | k :: p, f, hk, hl, hu, hr, hd => by
    have hd' := List.pairwise_cons.1 hd
    have hlt := (hk k List.mem_cons_self).lt
    refine appAll_unit p (app1 f k) (fun q hq => hk q (List.mem_cons_of_mem _ hq)) (by rw [app1_len]; exact hl) (fun x hx => ?_) (fun q hq => ?_) hd'.2
    · unfold app1 at hx
      rcases List.mem_or_eq_of_mem_set hx with h1 | h1
      · exact hu x h1
      · have h2 : Unit3 (f.getD k.e 0) := by
          rw [List.getD_eq_getElem?_getD, List.getElem?_eq_getElem (by omega)]
          exact hu _ (List.getElem_mem _)
        have h3 : f.getD k.e 0 ≠ 1 * k.y := hr k List.mem_cons_self
        have h4 := (hk k List.mem_cons_self).sign
        subst h1
        unfold Unit3 at *
        omega
    · have h3 := hr q (List.mem_cons_of_mem _ hq)
      unfold rm at *
      rw [app1_getD (Ne.symm (hd'.1 q hq))]
      exact h3
theorem LinksOf.lkE {n : Nat} {E : List Edg} {ls : List (List Lnk)} (h : LinksOf n E ls) {a x : Nat} {l : List Lnk} {k : Lnk} (hl : ls[a]? = some l) (hk : l[x]? = some k) : LkE E k :=
  ⟨(h.sound a l k hl (List.mem_of_getElem? hk)).2.2.1, (h.sound a l k hl (List.mem_of_getElem? hk)).2.2.2⟩
/-- One more goes. -/
theorem flow_push {n : Nat} {E : List Edg} {ls : List (List Lnk)} {src dst : List Int} {V : Int} {f d nx : List Int} {s t : Nat} {p : List Lnk} (hL : LinksOf n E ls) (h : FlowI E src dst V f) (hw : Way ls f d nx s p t) (hs : (s : Int) ∈ src) (ht : (t : Int) ∈ dst) : FlowI E src dst (V + 1) (appAll f p) := by
  have hke : ∀ k ∈ p, LkE E k := fun k hk => by
    obtain ⟨l, x, h1, _, h3⟩ := hw.try_ k hk
    exact hL.lkE h1 h3
  refine ⟨by rw [appAll_len]; exact h.len, appAll_unit p f hke h.len h.unit (fun k hk => (hw.adm k hk).1) ?_, fun S hS => ?_⟩
  · rw [List.pairwise_iff_getElem]
    intro i j hi hj hij e
    have ei := hw.dep i p[i] (List.getElem?_eq_getElem hi)
    have ej := hw.dep j p[j] (List.getElem?_eq_getElem hj)
    have ai := (hw.adm _ (List.getElem_mem hi)).2
    have aj := (hw.adm _ (List.getElem_mem hj)).2
    have ki := (hke _ (List.getElem_mem hi)).2
    have kj := (hke _ (List.getElem_mem hj)).2
    rw [e] at ki
    rcases ki with ⟨_, ki⟩ | ⟨_, ki⟩ <;> rcases kj with ⟨_, kj⟩ | ⟨_, kj⟩ <;> rw [ki] at kj <;> simp only [Option.some.injEq, Prod.mk.injEq] at kj
    · have : p[i].u = p[j].u := by omega
      rw [this] at ei
      omega
    · have h1 : p[i].u = p[j].v := by omega
      rw [h1] at ei
      omega
    · have h1 : p[i].u = p[j].v := by omega
      rw [h1] at ei
      omega
    · have : p[i].u = p[j].u := by omega
      rw [this] at ei
      omega
  · rw [appAll_out p f s t hke h.len (chn_of p s t hw.head hw.first hw.last hw.link), h.out S hS, hS.1 _ hs, hS.2 _ ht]
    simp [iB]
/-- A flow carries no more than there are edges. -/
theorem flow_bd {E : List Edg} {src dst : List Int} {V : Int} {f : List Int} (h : FlowI E src dst V f) (hd : ∀ v ∈ src, v ∉ dst) : V ≤ E.length := by
  have hS : Sep src dst (fun v => decide (v ∈ src)) := ⟨fun v hv => by simp [hv], fun v hv => by simp; exact fun e => hd v e hv⟩
  have h1 := outF_le (fun v => decide (v ∈ src)) E f h.unit
  have h2 := crossN_le (fun v => decide (v ∈ src)) E
  rw [h.out _ hS] at h1
  omega
/-- Room in an edge is room in a link. -/
theorem room_link {n : Nat} {E : List Edg} {ls : List (List Lnk)} {f : List Int} {a b : Nat} (hL : LinksOf n E ls) (hE : Ends n E) (h : Room E f a b) : Go1 ls f 1 a b := by
  obtain ⟨i, x, hx, hne, he⟩ := h
  have hfx : f.getD i 0 = x := by rw [List.getD_eq_getElem?_getD, hx]; rfl
  rcases he with ⟨he, hxe⟩ | ⟨he, hxe⟩
  · have hb := hE _ (List.mem_of_getElem? he)
    simp only at hb
    obtain ⟨⟨l, h1, h2⟩, _⟩ := hL.full i a b he (fun e => hne (by rw [e])) (by omega) (by omega)
    refine ⟨_, by rw [List.getD_eq_getElem?_getD, h1]; exact h2, rfl, ?_⟩
    unfold rm
    rw [hfx]
    simpa using hxe
  · have hb := hE _ (List.mem_of_getElem? he)
    simp only at hb
    obtain ⟨_, l, h1, h2⟩ := hL.full i b a he (fun e => hne (by rw [e])) (by omega) (by omega)
    refine ⟨_, by rw [List.getD_eq_getElem?_getD, h1]; exact h2, rfl, ?_⟩
    unfold rm
    rw [hfx]
    simpa using hxe
theorem link_room {n : Nat} {E : List Edg} {ls : List (List Lnk)} {f : List Int} {a b : Nat} (hL : LinksOf n E ls) (hl : f.length = E.length) (h : Go1 ls f 1 a b) : Room E f a b := by
  obtain ⟨k, hk, hkv, hr⟩ := h
  rw [List.getD_eq_getElem?_getD] at hk
  cases hls : ls[a]? with
  | none => rw [hls] at hk; cases hk
  | some l =>
    rw [hls] at hk
    obtain ⟨hu, _, hne, he⟩ := hL.sound a l k hls hk
    subst hkv
    subst hu
    have hlt : k.e < E.length := by rcases he with ⟨_, h⟩ | ⟨_, h⟩ <;> exact (List.getElem?_eq_some_iff.1 h).1
    have hx : f[k.e]? = some (f.getD k.e 0) := by rw [List.getD_eq_getElem?_getD, List.getElem?_eq_getElem (by omega)]; rfl
    unfold rm at hr
    refine ⟨k.e, _, hx, by omega, ?_⟩
    rcases he with ⟨hy, he⟩ | ⟨hy, he⟩
    · exact .inl ⟨he, by rw [hy] at hr; simpa using hr⟩
    · exact .inr ⟨he, by rw [hy] at hr; simpa using hr⟩
/-- What can be reached has a depth. -/
theorem reach_dep {n : Nat} {E : List Edg} {ls : List (List Lnk)} {f d : List Int} {s : List Nat} (hL : LinksOf n E ls) (hE : Ends n E) (hD : Dep n ls f 1 s d) : ∀ {v : Int}, Reach E f (nats s) v → ∃ a : Nat, v = a ∧ 0 ≤ dAt d a := by
  intro v h
  induction h with
  | start hv =>
    unfold nats at hv
    obtain ⟨a, ha, e⟩ := List.mem_map.1 hv
    exact ⟨a, e.symm, hD.src a ha⟩
  | step _ hr ih =>
    obtain ⟨a, rfl, ha⟩ := ih
    obtain ⟨b, rfl⟩ : ∃ b : Nat, ‹Int› = b := by
      obtain ⟨i, x, _, _, he⟩ := hr
      rcases he with ⟨he, _⟩ | ⟨he, _⟩
      · have := hE _ (List.mem_of_getElem? he)
        exact ⟨_, (Int.toNat_of_nonneg this.2.2.1).symm⟩
      · have := hE _ (List.mem_of_getElem? he)
        exact ⟨_, (Int.toNat_of_nonneg this.1).symm⟩
    exact ⟨b, rfl, hD.closed a b ha (room_link hL hE hr)⟩
/-- What has a depth can be reached. -/
theorem dep_reach {n : Nat} {E : List Edg} {ls : List (List Lnk)} {f d : List Int} {s : List Nat} (hL : LinksOf n E ls) (hl : f.length = E.length) (hD : Dep n ls f 1 s d) : ∀ (k a : Nat), dAt d a = k → Reach E f (nats s) a
  | 0, a, h => .start (List.mem_map.2 ⟨a, hD.zero a (by omega), rfl⟩)
  | k + 1, a, h => by
    obtain ⟨u, h1, h2⟩ := hD.pre a (by omega)
    exact .step (dep_reach hL hl hD k u (by omega)) (link_room hL hl h2)
/-- Where all was tried and none went, no end can be reached. -/
theorem stuck {n : Nat} {E : List Edg} {ls : List (List Lnk)} {f d nx : List Int} {s : List Nat} {dst : List Int} (hL : LinksOf n E ls) (hE : Ends n E) (hD : Dep n ls f 1 s d) (hdn : Done ls f d nx) (hs : ∀ v ∈ s, ∃ l, ls[v]? = some l ∧ nx[v]? = some (l.length : Int)) (hend : ∀ t : Nat, (t : Int) ∈ dst → nx[t]? = some 0) (hdis : ∀ v ∈ nats s, v ∉ dst) : ∀ v ∈ dst, ¬ Reach E f (nats s) v := by
  have all : ∀ (k a : Nat), dAt d a = k → ∃ l, ls[a]? = some l ∧ nx[a]? = some (l.length : Int) := by
    intro k
    induction k with
    | zero => intro a h; exact hs a (hD.zero a (by omega))
    | succ k ih =>
      intro a h
      obtain ⟨u, h1, q, hq, hqv, hr⟩ := hD.pre a (by omega)
      obtain ⟨l, hl, hx⟩ := ih u (by omega)
      rw [List.getD_eq_getElem?_getD, hl] at hq
      have hq : q ∈ l := hq
      obtain ⟨j, hj, e⟩ := List.getElem_of_mem hq
      have hq' : l[j]? = some q := by rw [List.getElem?_eq_getElem hj, e]
      have := hdn u j l l.length q hl hx hj hq' ⟨hr, by rw [hqv]; omega⟩
      rw [hqv] at this
      exact this
  intro v hv hr
  obtain ⟨a, rfl, ha⟩ := reach_dep hL hE hD hr
  obtain ⟨l, hl, hx⟩ := all (dAt d a).toNat a (by omega)
  rw [hend a hv] at hx
  have hl0 : l.length = 0 := by injection hx with hx; omega
  by_cases h0 : dAt d a = 0
  · exact hdis a (List.mem_map.2 ⟨a, hD.zero a h0, rfl⟩) hv
  · obtain ⟨u, h1, q, hq, hqv, hr'⟩ := hD.pre a (by omega)
    rw [List.getD_eq_getElem?_getD] at hq
    cases hls : ls[u]? with
    | none => rw [hls] at hq; cases hq
    | some lu =>
      rw [hls] at hq
      obtain ⟨hu, hvn, hne, he⟩ := hL.sound u lu q hls hq
      subst hqv
      subst hu
      have hun : q.u < n := by rw [← hL.len]; exact (List.getElem?_eq_some_iff.1 hls).1
      rcases he with ⟨_, he⟩ | ⟨_, he⟩
      · obtain ⟨_, l', h2, h3⟩ := hL.full q.e q.u q.v he hne hun hvn
        rw [hl] at h2
        cases h2
        rw [List.length_eq_zero_iff.1 hl0] at h3
        cases h3
      · obtain ⟨⟨l', h2, h3⟩, _⟩ := hL.full q.e q.v q.u he (Ne.symm hne) hvn hun
        rw [hl] at h2
        cases h2
        rw [List.length_eq_zero_iff.1 hl0] at h3
        cases h3
end Go.Proofs.YtjphjbchhhembaaDoor
