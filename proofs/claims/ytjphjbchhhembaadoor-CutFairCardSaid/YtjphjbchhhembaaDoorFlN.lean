/- Sides as rows of truths: the least and the greatest of all least ones; plain. -/
import Derived.Test.YtjphjbchhhembaaDoorFl7
namespace Go.Proofs.YtjphjbchhhembaaDoor
open Go.RowKit

theorem link_roomM {n : Nat} {E : List Edg} {ls : List (List Lnk)} {f : List Int} {a b : Nat} (hL : LinksOf n E ls) (hl : f.length = E.length) (h : Go1 ls f (-1) a b) : Room E f b a := by
  obtain ⟨k, hk, hkv, hr⟩ := h
  rw [List.getD_eq_getElem?_getD] at hk
  cases hls : ls[a]? with
  | none => rw [hls] at hk; cases hk
  | some l =>
    rw [hls] at hk
    obtain ⟨hu, _, hne, he⟩ := hL.sound a l k hls hk
    subst hkv
    subst hu
    have hlt : k.e < E.length := by rcases he with ⟨_, h⟩ | ⟨_, h⟩ <;> exact (List.getElem?_eq_some_iff.1 h).1
    have hx : f[k.e]? = some (f.getD k.e 0) := by rw [List.getD_eq_getElem?_getD, List.getElem?_eq_getElem (by omega)]; rfl
    unfold rm at hr
    refine ⟨k.e, _, hx, by omega, ?_⟩
    rcases he with ⟨hy, he⟩ | ⟨hy, he⟩
    · exact .inr ⟨he, by rw [hy] at hr; simpa using hr⟩
    · exact .inl ⟨he, by rw [hy] at hr; simpa using hr⟩
theorem room_linkM {n : Nat} {E : List Edg} {ls : List (List Lnk)} {f : List Int} {a b : Nat} (hL : LinksOf n E ls) (hE : Ends n E) (h : Room E f a b) : Go1 ls f (-1) b a := by
  obtain ⟨i, x, hx, hne, he⟩ := h
  have hfx : f.getD i 0 = x := by rw [List.getD_eq_getElem?_getD, hx]; rfl
  rcases he with ⟨he, hxe⟩ | ⟨he, hxe⟩
  · have hb := hE _ (List.mem_of_getElem? he)
    simp only at hb
    obtain ⟨_, l, h1, h2⟩ := hL.full i a b he (fun e => hne (by rw [e])) (by omega) (by omega)
    refine ⟨_, by rw [List.getD_eq_getElem?_getD, h1]; exact h2, rfl, ?_⟩
    unfold rm
    rw [hfx]
    simpa using hxe
  · have hb := hE _ (List.mem_of_getElem? he)
    simp only at hb
    obtain ⟨⟨l, h1, h2⟩, _⟩ := hL.full i b a he (fun e => hne (by rw [e])) (by omega) (by omega)
    refine ⟨_, by rw [List.getD_eq_getElem?_getD, h1]; exact h2, rfl, ?_⟩
    unfold rm
    rw [hfx]
    simpa using hxe
theorem leads_dep {n : Nat} {E : List Edg} {ls : List (List Lnk)} {f d : List Int} {s : List Nat} (hL : LinksOf n E ls) (hE : Ends n E) (hD : Dep n ls f (-1) s d) : ∀ {v : Int}, Leads E f (nats s) v → ∃ a : Nat, v = a ∧ 0 ≤ dAt d a := by
  intro v h
  induction h with
  | start hv =>
    unfold nats at hv
    obtain ⟨a, ha, e⟩ := List.mem_map.1 hv
    exact ⟨a, e.symm, hD.src a ha⟩
  | step _ hr ih =>
    obtain ⟨a, rfl, ha⟩ := ih
    obtain ⟨b, rfl⟩ : ∃ b : Nat, ‹Int› = b := by
      obtain ⟨i, x, _, _, he⟩ := hr
      rcases he with ⟨he, _⟩ | ⟨he, _⟩
      · have := hE _ (List.mem_of_getElem? he)
        exact ⟨_, (Int.toNat_of_nonneg this.1).symm⟩
      · have := hE _ (List.mem_of_getElem? he)
        exact ⟨_, (Int.toNat_of_nonneg this.2.2.1).symm⟩
    exact ⟨b, rfl, hD.closed a b ha (room_linkM hL hE hr)⟩
theorem dep_leads {n : Nat} {E : List Edg} {ls : List (List Lnk)} {f d : List Int} {s : List Nat} (hL : LinksOf n E ls) (hl : f.length = E.length) (hD : Dep n ls f (-1) s d) : ∀ (k a : Nat), dAt d a = k → Leads E f (nats s) a
  | 0, a, h => .start (List.mem_map.2 ⟨a, hD.zero a (by omega), rfl⟩)
  | k + 1, a, h => by
    obtain ⟨u, h1, h2⟩ := hD.pre a (by omega)
    exact .step (dep_leads hL hl hD k u (by omega)) (link_roomM hL hl h2)
theorem leads_reach {E : List Edg} {f src dst : List Int} : ∀ {v : Int}, Leads E f dst v → Reach E f src v → ∃ t ∈ dst, Reach E f src t := by
  intro v h
  induction h with
  | start hv => intro r; exact ⟨_, hv, r⟩
  | step _ hr ih => intro r; exact ih (.step r hr)
theorem crossN_congr {S T : Int → Bool} : ∀ {E : List Edg}, (∀ e ∈ E, S e.1 = T e.1 ∧ S e.2 = T e.2) → crossN S E = crossN T E
  | [], _ => rfl
  | e :: E, h => by
    unfold crossN
    rw [(h e (List.mem_cons_self ..)).1, (h e (List.mem_cons_self ..)).2, crossN_congr (fun e' h' => h e' (List.mem_cons_of_mem _ h'))]

/-- Whether a row marks a place. -/
def sideF (b : List Bool) (v : Int) : Bool := decide (0 ≤ v) && b.getD v.toNat false
theorem sideF_nat (b : List Bool) (v : Nat) : sideF b v = b.getD v false := by simp [sideF]
/-- How many edges a row of truths crosses. -/
def cr (b : List Bool) (E : List Edg) : Nat := crossN (sideF b) E
structure SepB (n : Nat) (s t : List Nat) (b : List Bool) : Prop where
  len : b.length = n
  inn : ∀ v ∈ s, b.getD v false = true
  out : ∀ v ∈ t, b.getD v false = false
structure NearB (n : Nat) (E : List Edg) (s t : List Nat) (b : List Bool) : Prop where
  sep : SepB n s t b
  least : ∀ c, SepB n s t c → cr b E ≤ cr c E
  first : ∀ c, SepB n s t c → cr c E = cr b E → ∀ v : Nat, b.getD v false = true → c.getD v false = true
structure FarB (n : Nat) (E : List Edg) (s t : List Nat) (b : List Bool) : Prop where
  sep : SepB n s t b
  least : ∀ c, SepB n s t c → cr b E ≤ cr c E
  last : ∀ c, SepB n s t c → cr c E = cr b E → ∀ v : Nat, c.getD v false = true → b.getD v false = true
theorem SepB.sep {n : Nat} {s t : List Nat} {b : List Bool} (h : SepB n s t b) : Sep (nats s) (nats t) (sideF b) :=
  ⟨fun v hv => by
    unfold nats at hv
    obtain ⟨a, ha, rfl⟩ := List.mem_map.1 hv
    rw [sideF_nat]; exact h.inn a ha, fun v hv => by
    unfold nats at hv
    obtain ⟨a, ha, rfl⟩ := List.mem_map.1 hv
    rw [sideF_nat]; exact h.out a ha⟩
theorem near_at (d : List Int) (a : Nat) : (d.map isNear).getD a false = true ↔ 0 ≤ dAt d a := by
  unfold dAt
  simp only [List.getD_eq_getElem?_getD, List.getElem?_map]
  cases d[a]? with
  | none => simp
  | some x => simp [isNear]
theorem far_at {d : List Int} {a : Nat} (h : a < d.length) : (d.map isFar).getD a false = true ↔ dAt d a < 0 := by
  unfold dAt
  simp only [List.getD_eq_getElem?_getD, List.getElem?_map, List.getElem?_eq_getElem h]
  simp [isFar]
theorem getD_lt {b : List Bool} {v : Nat} (h : b.getD v false = true) : v < b.length := by
  rcases Nat.lt_or_ge v b.length with g | g
  · exact g
  · rw [List.getD_eq_getElem?_getD, List.getElem?_eq_none g] at h; cases h
theorem near_dep {n : Nat} {E : List Edg} {ls : List (List Lnk)} {f d : List Int} {s t : List Nat} {V : Int} (hL : LinksOf n E ls) (hE : Ends n E) (hF : FlowI E (nats s) (nats t) V f) (hD : Dep n ls f 1 s d) (hno : ∀ v ∈ nats t, ¬ Reach E f (nats s) v) : NearB n E s t (d.map isNear) ∧ (cr (d.map isNear) E : Int) = V := by
  have hN : ∀ v : Int, sideF (d.map isNear) v = true ↔ Reach E f (nats s) v := by
    intro v
    constructor
    · intro h
      unfold sideF at h
      rw [Bool.and_eq_true, decide_eq_true_eq, near_at] at h
      have := dep_reach hL hF.len hD (dAt d v.toNat).toNat v.toNat (by omega)
      rw [Int.toNat_of_nonneg h.1] at this
      exact this
    · intro h
      obtain ⟨a, rfl, ha⟩ := reach_dep hL hE hD h
      rw [sideF_nat, near_at]; exact ha
  obtain ⟨h, hc⟩ := isNear_of hF hN hno
  refine ⟨⟨⟨by rw [List.length_map]; exact hD.len, fun v hv => ?_, fun v hv => ?_⟩, fun c hc => h.least _ hc.sep, fun c hc e v hv => ?_⟩, hc⟩
  · rw [← sideF_nat]; exact h.sep.1 v (nats_mem.2 hv)
  · rw [← sideF_nat]; exact h.sep.2 v (nats_mem.2 hv)
  · rw [← sideF_nat] at hv ⊢
    exact h.first _ hc.sep e v hv
theorem far_dep {n : Nat} {E : List Edg} {ls : List (List Lnk)} {f d : List Int} {s t : List Nat} {V : Int} (hL : LinksOf n E ls) (hE : Ends n E) (hF : FlowI E (nats s) (nats t) V f) (hD : Dep n ls f (-1) t d) (hno : ∀ v ∈ nats t, ¬ Reach E f (nats s) v) (hs : ∀ v ∈ s, v < n) (ht : ∀ v ∈ t, v < n) : FarB n E s t (d.map isFar) ∧ (cr (d.map isFar) E : Int) = V := by
  have hln := hD.len
  have hN : ∀ v : Int, (fun v => !sideF (d.map isNear) v) v = false ↔ Leads E f (nats t) v := by
    intro v
    simp only [Bool.not_eq_false']
    constructor
    · intro h
      unfold sideF at h
      rw [Bool.and_eq_true, decide_eq_true_eq, near_at] at h
      have := dep_leads hL hF.len hD (dAt d v.toNat).toNat v.toNat (by omega)
      rw [Int.toNat_of_nonneg h.1] at this
      exact this
    · intro h
      obtain ⟨a, rfl, ha⟩ := leads_dep hL hE hD h
      rw [sideF_nat, near_at]; exact ha
  obtain ⟨h, hc⟩ := isFar_of hF hN (fun v hv hl => by
    obtain ⟨u, hu, hr⟩ := leads_reach hl (.start hv)
    exact hno u hu hr)
  have hin : ∀ v : Nat, v < n → (fun v => !sideF (d.map isNear) v) (v : Int) = (d.map isFar).getD v false := by
    intro v hv
    have h1 := near_at d v
    have h2 := far_at (d := d) (a := v) (by omega)
    simp only [sideF_nat]
    cases e1 : (d.map isNear).getD v false <;> cases e2 : (d.map isFar).getD v false
    · have := (not_congr h1).1 (by rw [e1]; simp); have := (not_congr h2).1 (by rw [e2]; simp); omega
    · rfl
    · rfl
    · have := h1.1 e1; have := h2.1 e2; omega
  have hcr : crossN (fun v => !sideF (d.map isNear) v) E = cr (d.map isFar) E := by
    unfold cr
    refine crossN_congr (fun e he => ?_)
    obtain ⟨b1, b2, b3, b4⟩ := hE e he
    obtain ⟨p, hp⟩ : ∃ p : Nat, e.1 = p := ⟨e.1.toNat, by omega⟩
    obtain ⟨q, hq⟩ : ∃ q : Nat, e.2 = q := ⟨e.2.toNat, by omega⟩
    rw [hp, hq, sideF_nat, sideF_nat]
    exact ⟨hin p (by omega), hin q (by omega)⟩
  rw [hcr] at hc
  refine ⟨⟨⟨by rw [List.length_map]; exact hln, fun v hv => ?_, fun v hv => ?_⟩, fun c hc => ?_, fun c hc e v hv => ?_⟩, hc⟩
  · rw [← hin v (hs v hv)]; exact h.sep.1 v (nats_mem.2 hv)
  · rw [← hin v (ht v hv)]; exact h.sep.2 v (nats_mem.2 hv)
  · rw [← hcr]; exact h.least _ hc.sep
  · have hvn : v < n := by have := getD_lt hv; rw [hc.len] at this; exact this
    rw [← hin v hvn]
    rw [← sideF_nat] at hv
    exact h.last _ hc.sep (by rw [hcr]; exact e) v hv
end Go.Proofs.YtjphjbchhhembaaDoor
