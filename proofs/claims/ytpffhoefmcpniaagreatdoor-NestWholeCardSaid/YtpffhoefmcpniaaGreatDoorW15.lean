/- Parts of the proof: QFlN, QCuP, Pt. -/
import Derived.Test.YtpffhoefmcpniaaGreatDoorW1
import Derived.Test.YtpffhoefmcpniaaGreatDoorW4
import Derived.Test.YtpffhoefmcpniaaGreatDoorW5
import Derived.Test.YtpffhoefmcpniaaGreatDoorW14
/- Sides as rows of truths: the least and the greatest of all least ones; plain. -/
namespace Go.Proofs.YtpffhoefmcpniaaGreatDoor
open Go.RowKit

theorem link_roomM {n : Nat} {E : List Edg} {ls : List (List Lnk)} {f : List Int} {a b : Nat} (hL : LinksOf n E ls) (hl : f.length = E.length) (h : Go1 ls f (-1) a b) : Room E f b a := by
  obtain ⟨k, hk, hkv, hr⟩ := h
  rw [List.getD_eq_getElem?_getD] at hk
  cases hls : ls[a]? with
  | none => rw [hls] at hk; cases hk
  | some l =>
    rw [hls] at hk
    obtain ⟨hu, _, hne, he⟩ := hL.sound a l k hls hk
    subst hkv
    subst hu
    have hlt : k.e < E.length := by rcases he with ⟨_, h⟩ | ⟨_, h⟩ <;> exact (List.getElem?_eq_some_iff.1 h).1
    have hx : f[k.e]? = some (f.getD k.e 0) := by rw [List.getD_eq_getElem?_getD, List.getElem?_eq_getElem (by omega)]; rfl
    unfold rm at hr
    refine ⟨k.e, _, hx, by omega, ?_⟩
    rcases he with ⟨hy, he⟩ | ⟨hy, he⟩
    · exact .inr ⟨he, by rw [hy] at hr; simpa using hr⟩
    · exact .inl ⟨he, by rw [hy] at hr; simpa using hr⟩
theorem room_linkM {n : Nat} {E : List Edg} {ls : List (List Lnk)} {f : List Int} {a b : Nat} (hL : LinksOf n E ls) (hE : Ends n E) (h : Room E f a b) : Go1 ls f (-1) b a := by
  obtain ⟨i, x, hx, hne, he⟩ := h
  have hfx : f.getD i 0 = x := by rw [List.getD_eq_getElem?_getD, hx]; rfl
  rcases he with ⟨he, hxe⟩ | ⟨he, hxe⟩
  · have hb := hE _ (List.mem_of_getElem? he)
    simp only at hb
    obtain ⟨_, l, h1, h2⟩ := hL.full i a b he (fun e => hne (by rw [e])) (by omega) (by omega)
    refine ⟨_, by rw [List.getD_eq_getElem?_getD, h1]; exact h2, rfl, ?_⟩
    unfold rm
    rw [hfx]
    simpa using hxe
  · have hb := hE _ (List.mem_of_getElem? he)
    simp only at hb
    obtain ⟨⟨l, h1, h2⟩, _⟩ := hL.full i b a he (fun e => hne (by rw [e])) (by omega) (by omega)
    refine ⟨_, by rw [List.getD_eq_getElem?_getD, h1]; exact h2, rfl, ?_⟩
    unfold rm
    rw [hfx]
    simpa using hxe
theorem leads_dep {n : Nat} {E : List Edg} {ls : List (List Lnk)} {f d : List Int} {s : List Nat} (hL : LinksOf n E ls) (hE : Ends n E) (hD : Dep n ls f (-1) s d) : ∀ {v : Int}, Leads E f (nats s) v → ∃ a : Nat, v = a ∧ 0 ≤ dAt d a := by
  intro v h
  induction h with
  | start hv =>
    unfold nats at hv
    obtain ⟨a, ha, e⟩ := List.mem_map.1 hv
    exact ⟨a, e.symm, hD.src a ha⟩
  | step _ hr ih =>
    obtain ⟨a, rfl, ha⟩ := ih
    obtain ⟨b, rfl⟩ : ∃ b : Nat, ‹Int› = b := by
      obtain ⟨i, x, _, _, he⟩ := hr
      rcases he with ⟨he, _⟩ | ⟨he, _⟩
      · have := hE _ (List.mem_of_getElem? he)
        exact ⟨_, (Int.toNat_of_nonneg this.1).symm⟩
      · have := hE _ (List.mem_of_getElem? he)
        exact ⟨_, (Int.toNat_of_nonneg this.2.2.1).symm⟩
    exact ⟨b, rfl, hD.closed a b ha (room_linkM hL hE hr)⟩
theorem dep_leads {n : Nat} {E : List Edg} {ls : List (List Lnk)} {f d : List Int} {s : List Nat} (hL : LinksOf n E ls) (hl : f.length = E.length) (hD : Dep n ls f (-1) s d) : ∀ (k a : Nat), dAt d a = k → Leads E f (nats s) a
  | 0, a, h => .start (List.mem_map.2 ⟨a, hD.zero a (by omega), rfl⟩)
  | k + 1, a, h => by
    obtain ⟨u, h1, h2⟩ := hD.pre a (by omega)
    exact .step (dep_leads hL hl hD k u (by omega)) (link_roomM hL hl h2)
theorem leads_reach {E : List Edg} {f src dst : List Int} : ∀ {v : Int}, Leads E f dst v → Reach E f src v → ∃ t ∈ dst, Reach E f src t := by
  intro v h
  induction h with
  | start hv => intro r; exact ⟨_, hv, r⟩
  | step _ hr ih => intro r; exact ih (.step r hr)
theorem crossN_congr {S T : Int → Bool} : ∀ {E : List Edg}, (∀ e ∈ E, S e.1 = T e.1 ∧ S e.2 = T e.2) → crossN S E = crossN T E
  | [], _ => rfl
  | e :: E, h => by
    unfold crossN
    rw [(h e (List.mem_cons_self ..)).1, (h e (List.mem_cons_self ..)).2, crossN_congr (fun e' h' => h e' (List.mem_cons_of_mem _ h'))]

/-- Whether a row marks a place. -/
def sideF (b : List Bool) (v : Int) : Bool := decide (0 ≤ v) && b.getD v.toNat false
theorem sideF_nat (b : List Bool) (v : Nat) : sideF b v = b.getD v false := by simp [sideF]
/-- How many edges a row of truths crosses. -/
def cr (b : List Bool) (E : List Edg) : Nat := crossN (sideF b) E
structure SepB (n : Nat) (s t : List Nat) (b : List Bool) : Prop where
  len : b.length = n
  inn : ∀ v ∈ s, b.getD v false = true
  out : ∀ v ∈ t, b.getD v false = false
structure NearB (n : Nat) (E : List Edg) (s t : List Nat) (b : List Bool) : Prop where
  sep : SepB n s t b
  least : ∀ c, SepB n s t c → cr b E ≤ cr c E
  first : ∀ c, SepB n s t c → cr c E = cr b E → ∀ v : Nat, b.getD v false = true → c.getD v false = true
structure FarB (n : Nat) (E : List Edg) (s t : List Nat) (b : List Bool) : Prop where
  sep : SepB n s t b
  least : ∀ c, SepB n s t c → cr b E ≤ cr c E
  last : ∀ c, SepB n s t c → cr c E = cr b E → ∀ v : Nat, c.getD v false = true → b.getD v false = true
theorem SepB.sep {n : Nat} {s t : List Nat} {b : List Bool} (h : SepB n s t b) : Sep (nats s) (nats t) (sideF b) :=
  ⟨fun v hv => by
    unfold nats at hv
    obtain ⟨a, ha, rfl⟩ := List.mem_map.1 hv
    rw [sideF_nat]; exact h.inn a ha, fun v hv => by
    unfold nats at hv
    obtain ⟨a, ha, rfl⟩ := List.mem_map.1 hv
    rw [sideF_nat]; exact h.out a ha⟩
theorem near_at (d : List Int) (a : Nat) : (d.map isNear).getD a false = true ↔ 0 ≤ dAt d a := by
  unfold dAt
  simp only [List.getD_eq_getElem?_getD, List.getElem?_map]
  cases d[a]? with
  | none => simp
  | some x => simp [isNear]
theorem far_at {d : List Int} {a : Nat} (h : a < d.length) : (d.map isFar).getD a false = true ↔ dAt d a < 0 := by
  unfold dAt
  simp only [List.getD_eq_getElem?_getD, List.getElem?_map, List.getElem?_eq_getElem h]
  simp [isFar]
theorem getD_lt {b : List Bool} {v : Nat} (h : b.getD v false = true) : v < b.length := by
  rcases Nat.lt_or_ge v b.length with g | g
  · exact g
  · rw [List.getD_eq_getElem?_getD, List.getElem?_eq_none g] at h; cases h
theorem near_dep {n : Nat} {E : List Edg} {ls : List (List Lnk)} {f d : List Int} {s t : List Nat} {V : Int} (hL : LinksOf n E ls) (hE : Ends n E) (hF : FlowI E (nats s) (nats t) V f) (hD : Dep n ls f 1 s d) (hno : ∀ v ∈ nats t, ¬ Reach E f (nats s) v) : NearB n E s t (d.map isNear) ∧ (cr (d.map isNear) E : Int) = V := by
  have hN : ∀ v : Int, sideF (d.map isNear) v = true ↔ Reach E f (nats s) v := by
    intro v
    constructor
    · intro h
      unfold sideF at h
      rw [Bool.and_eq_true, decide_eq_true_eq, near_at] at h
      have := dep_reach hL hF.len hD (dAt d v.toNat).toNat v.toNat (by omega)
      rw [Int.toNat_of_nonneg h.1] at this
      exact this
    · intro h
      obtain ⟨a, rfl, ha⟩ := reach_dep hL hE hD h
      rw [sideF_nat, near_at]; exact ha
  obtain ⟨h, hc⟩ := isNear_of hF hN hno
  refine ⟨⟨⟨by rw [List.length_map]; exact hD.len, fun v hv => ?_, fun v hv => ?_⟩, fun c hc => h.least _ hc.sep, fun c hc e v hv => ?_⟩, hc⟩
  · rw [← sideF_nat]; exact h.sep.1 v (nats_mem.2 hv)
  · rw [← sideF_nat]; exact h.sep.2 v (nats_mem.2 hv)
  · rw [← sideF_nat] at hv ⊢
    exact h.first _ hc.sep e v hv
theorem far_dep {n : Nat} {E : List Edg} {ls : List (List Lnk)} {f d : List Int} {s t : List Nat} {V : Int} (hL : LinksOf n E ls) (hE : Ends n E) (hF : FlowI E (nats s) (nats t) V f) (hD : Dep n ls f (-1) t d) (hno : ∀ v ∈ nats t, ¬ Reach E f (nats s) v) (hs : ∀ v ∈ s, v < n) (ht : ∀ v ∈ t, v < n) : FarB n E s t (d.map isFar) ∧ (cr (d.map isFar) E : Int) = V := by
  have hln := hD.len
  have hN : ∀ v : Int, (fun v => !sideF (d.map isNear) v) v = false ↔ Leads E f (nats t) v := by
    intro v
    simp only [Bool.not_eq_false']
    constructor
    · intro h
      unfold sideF at h
      rw [Bool.and_eq_true, decide_eq_true_eq, near_at] at h
      have := dep_leads hL hF.len hD (dAt d v.toNat).toNat v.toNat (by omega)
      rw [Int.toNat_of_nonneg h.1] at this
      exact this
    · intro h
      obtain ⟨a, rfl, ha⟩ := leads_dep hL hE hD h
      rw [sideF_nat, near_at]; exact ha
  obtain ⟨h, hc⟩ := isFar_of hF hN (fun v hv hl => by
    obtain ⟨u, hu, hr⟩ := leads_reach hl (.start hv)
    exact hno u hu hr)
  have hin : ∀ v : Nat, v < n → (fun v => !sideF (d.map isNear) v) (v : Int) = (d.map isFar).getD v false := by
    intro v hv
    have h1 := near_at d v
    have h2 := far_at (d := d) (a := v) (by omega)
    simp only [sideF_nat]
    cases e1 : (d.map isNear).getD v false <;> cases e2 : (d.map isFar).getD v false
    · have := (not_congr h1).1 (by rw [e1]; simp); have := (not_congr h2).1 (by rw [e2]; simp); omega
    · rfl
    · rfl
    · have := h1.1 e1; have := h2.1 e2; omega
  have hcr : crossN (fun v => !sideF (d.map isNear) v) E = cr (d.map isFar) E := by
    unfold cr
    refine crossN_congr (fun e he => ?_)
    obtain ⟨b1, b2, b3, b4⟩ := hE e he
    obtain ⟨p, hp⟩ : ∃ p : Nat, e.1 = p := ⟨e.1.toNat, by omega⟩
    obtain ⟨q, hq⟩ : ∃ q : Nat, e.2 = q := ⟨e.2.toNat, by omega⟩
    rw [hp, hq, sideF_nat, sideF_nat]
    exact ⟨hin p (by omega), hin q (by omega)⟩
  rw [hcr] at hc
  refine ⟨⟨⟨by rw [List.length_map]; exact hln, fun v hv => ?_, fun v hv => ?_⟩, fun c hc => ?_, fun c hc e v hv => ?_⟩, hc⟩
  · rw [← hin v (hs v hv)]; exact h.sep.1 v (nats_mem.2 hv)
  · rw [← hin v (ht v hv)]; exact h.sep.2 v (nats_mem.2 hv)
  · rw [← hcr]; exact h.least _ hc.sep
  · have hvn : v < n := by have := getD_lt hv; rw [hc.len] at this; exact this
    rw [← hin v hvn]
    rw [← sideF_nat] at hv
    exact h.last _ hc.sep (by rw [hcr]; exact e) v hv
end Go.Proofs.YtpffhoefmcpniaaGreatDoor

/- Splits: plain. -/
namespace Go.Proofs.YtpffhoefmcpniaaGreatDoor
open Go.RowKit

structure Spl where
  side : List Bool
  cross : Int
  dir : Int
  kind : Int

def natsOf (l : List Int) : List Nat := l.map Int.toNat
theorem nats_of : ∀ {l : List Int}, (∀ x ∈ l, 0 ≤ x) → nats (natsOf l) = l
  | [], _ => rfl
  | x :: l, h => by
    have h0 := h x (List.mem_cons_self ..)
    have ih := nats_of (l := l) (fun y hy => h y (List.mem_cons_of_mem _ hy))
    unfold nats natsOf at *
    simp only [List.map_cons, ih]
    rw [Int.toNat_of_nonneg h0]
/-- The first quarter, the last one, the first half: of the places by the keys of a direction. -/
def srcN (l : List (Int × Int)) (d : Nat) : List Nat := natsOf ((order l d).take (endsN l.length))
def dstN (l : List (Int × Int)) (d : Nat) : List Nat := natsOf ((order l d).drop (l.length - endsN l.length))
def hlfN (l : List (Int × Int)) (d : Nat) : List Nat := natsOf ((order l d).take ((l.length + 1) / 2))
theorem ends_two {n : Nat} (h : 2 ≤ n) : 1 ≤ endsN n ∧ endsN n ≤ (n + 1) / 2 ∧ (n + 1) / 2 + endsN n ≤ n := by
  unfold endsN
  rw [if_neg (by omega)]
  omega
theorem mem_natsOf {l : List Int} {v : Nat} : v ∈ natsOf l ↔ ∃ x ∈ l, x.toNat = v := by simp [natsOf]
theorem natsOf_at {l : List Int} {i v : Nat} (h : (natsOf l)[i]? = some v) : ∃ x, l[i]? = some x ∧ x.toNat = v := by
  unfold natsOf at h
  rw [List.getElem?_map] at h
  cases e : l[i]? with
  | none => rw [e] at h; cases h
  | some x => rw [e] at h; exact ⟨x, rfl, Option.some.inj h⟩
theorem natsOf_nodup : ∀ {l : List Int}, (∀ x ∈ l, 0 ≤ x) → l.Nodup → (natsOf l).Nodup := by
  intro l h0 h
  unfold natsOf
  rw [List.Nodup, List.pairwise_map]
  exact List.Pairwise.imp_of_mem (fun {a b} ha hb hne e => hne (by have := h0 a ha; have := h0 b hb; omega)) h
theorem order_lt {l : List (Int × Int)} {d : Int} {x : Int} (h : x ∈ order l d) : x.toNat < l.length := by have := order_mem h; omega
theorem srcN_lt {l : List (Int × Int)} {d v : Nat} (h : v ∈ srcN l d) : v < l.length := by
  obtain ⟨x, hx, rfl⟩ := mem_natsOf.1 h
  exact order_lt (List.mem_of_mem_take hx)
theorem dstN_lt {l : List (Int × Int)} {d v : Nat} (h : v ∈ dstN l d) : v < l.length := by
  obtain ⟨x, hx, rfl⟩ := mem_natsOf.1 h
  exact order_lt (List.mem_of_mem_drop hx)
theorem hlfN_lt {l : List (Int × Int)} {d v : Nat} (h : v ∈ hlfN l d) : v < l.length := by
  obtain ⟨x, hx, rfl⟩ := mem_natsOf.1 h
  exact order_lt (List.mem_of_mem_take hx)
theorem parted {l : List (Int × Int)} {d : Int} {k j v : Nat} (hkj : k ≤ j) (h1 : v ∈ natsOf ((order l d).take k)) (h2 : v ∈ natsOf ((order l d).drop j)) : False := by
  obtain ⟨x, hx, e1⟩ := mem_natsOf.1 h1
  obtain ⟨y, hy, e2⟩ := mem_natsOf.1 h2
  have hx0 := order_mem (List.mem_of_mem_take hx)
  have hy0 := order_mem (List.mem_of_mem_drop hy)
  obtain rfl : x = y := by omega
  obtain ⟨i, hi, ei⟩ := List.getElem_of_mem hx
  obtain ⟨i', hi', ei'⟩ := List.getElem_of_mem hy
  rw [List.getElem_take] at ei
  rw [List.getElem_drop] at ei'
  rw [List.length_take] at hi
  rw [List.length_drop] at hi'
  exact nodup_at (order_nodup l d) (i := i) (j := j + i') (by omega) (by rw [List.getElem?_eq_getElem (by omega), ei]) (by rw [List.getElem?_eq_getElem (by omega), ei'])
theorem srcN_dst {l : List (Int × Int)} {d v : Nat} (h2 : 2 ≤ l.length) (h : v ∈ dstN l d) : v ∉ srcN l d := fun h1 => parted (by have := ends_two h2; omega) h1 h
theorem srcN_len (l : List (Int × Int)) (d : Nat) : (srcN l d).length = endsN l.length := by
  unfold srcN natsOf
  rw [List.length_map, List.length_take, order_len]
  unfold endsN; split <;> omega
theorem dstN_len (l : List (Int × Int)) (d : Nat) : (dstN l d).length = endsN l.length := by
  unfold dstN natsOf
  rw [List.length_map, List.length_drop, order_len]
  unfold endsN; split <;> omega
theorem srcN_nodup (l : List (Int × Int)) (d : Nat) : (srcN l d).Nodup := natsOf_nodup (fun _ hx => (order_mem (List.mem_of_mem_take hx)).1) ((order_nodup l d).sublist (List.take_sublist _ _))
theorem dstN_nodup (l : List (Int × Int)) (d : Nat) : (dstN l d).Nodup := natsOf_nodup (fun _ hx => (order_mem (List.mem_of_mem_drop hx)).1) ((order_nodup l d).sublist (List.drop_sublist _ _))

/-- The side of the first half. -/
def halfB (l : List (Int × Int)) (d : Nat) : List Bool := mkB l.length (hlfN l d)
theorem half_sep {l : List (Int × Int)} {d : Nat} (h2 : 2 ≤ l.length) : SepB l.length (srcN l d) (dstN l d) (halfB l d) := by
  have he := ends_two h2
  refine ⟨mkB_len _ _, fun v hv => (mkB_at _ _ _).2 ⟨?_, srcN_lt hv⟩, fun v hv => ?_⟩
  · obtain ⟨x, hx, rfl⟩ := mem_natsOf.1 hv
    exact mem_natsOf.2 ⟨x, (List.take_subset_take_left _ he.2.1) hx, rfl⟩
  · cases e : (halfB l d).getD v false
    · rfl
    · exact absurd ((mkB_at _ _ _).1 e).1 (fun h => parted (by omega) h hv)

/-! How many are marked. -/
theorem marks_len (b : List Bool) : ∀ k, k ≤ b.length → ((List.range k).filter (fun i => b.getD i false)).length = cnt (b.take k)
  | 0, _ => rfl
  | k + 1, h => by
    rw [List.range_succ, List.filter_append, List.length_append, marks_len b k (by omega), cnt_take (List.getElem?_eq_getElem (by omega : k < b.length))]
    have : b.getD k false = b[k] := by rw [List.getD_eq_getElem?_getD, List.getElem?_eq_getElem (by omega : k < b.length)]; rfl
    simp only [List.filter_cons, this, List.filter_nil]
    cases b[k] <;> rfl
theorem cnt_ge {b : List Bool} {s : List Nat} (hn : s.Nodup) (h : ∀ v ∈ s, b.getD v false = true) : s.length ≤ cnt b := by
  have h1 := marks_len b b.length (Nat.le_refl _)
  rw [List.take_length] at h1
  rw [← h1]
  exact hn.length_le_of_subset (fun v hv => List.mem_filter.2 ⟨List.mem_range.2 (getD_lt (h v hv)), h v hv⟩)
theorem cnt_not : ∀ b : List Bool, cnt (b.map not) + cnt b = b.length
  | [] => rfl
  | x :: b => by
    have := cnt_not b
    unfold cnt at *
    cases x <;> simp at * <;> omega
theorem cnt_out {b : List Bool} {t : List Nat} (hn : t.Nodup) (h : ∀ v ∈ t, b.getD v false = false) (hlt : ∀ v ∈ t, v < b.length) : t.length + cnt b ≤ b.length := by
  have h1 := cnt_ge (b := b.map not) hn (fun v hv => by
    have h2 := h v hv
    have h3 := hlt v hv
    rw [List.getD_eq_getElem?_getD, List.getElem?_eq_getElem h3] at h2
    rw [List.getD_eq_getElem?_getD, List.getElem?_map, List.getElem?_eq_getElem h3]
    simp at h2
    simp [h2])
  have h2 := cnt_not b
  omega
theorem sep_fair {l : List (Int × Int)} {d : Nat} {b : List Bool} (h2 : 2 ≤ l.length) (h : SepB l.length (srcN l d) (dstN l d) b) : fairB b = true := by
  have h3 := cnt_ge (srcN_nodup l d) h.inn
  have h4 := cnt_out (dstN_nodup l d) h.out (fun v hv => by rw [h.len]; exact dstN_lt hv)
  rw [srcN_len] at h3
  rw [dstN_len] at h4
  rw [h.len] at h4
  unfold fairB
  rw [h.len]
  simp only [Bool.and_eq_true, decide_eq_true_eq]
  exact ⟨h2, h3, by omega⟩

theorem getD_ext {b c : List Bool} (hl : b.length = c.length) (h : ∀ v : Nat, b.getD v false = c.getD v false) : b = c := by
  apply List.ext_getElem?
  intro i
  rcases Nat.lt_or_ge i b.length with h1 | h1
  · have := h i
    rw [List.getD_eq_getElem?_getD, List.getD_eq_getElem?_getD, List.getElem?_eq_getElem h1, List.getElem?_eq_getElem (by omega)] at this
    rw [List.getElem?_eq_getElem h1, List.getElem?_eq_getElem (by omega)]
    simp at this
    rw [this]
  · rw [List.getElem?_eq_none h1, List.getElem?_eq_none (by omega)]
theorem NearB.unique {n : Nat} {E : List Edg} {s t : List Nat} {b c : List Bool} (h : NearB n E s t b) (g : NearB n E s t c) : b = c := by
  have h1 := h.least c g.sep
  have h2 := g.least b h.sep
  refine getD_ext (by rw [h.sep.len, g.sep.len]) (fun v => ?_)
  have a := h.first c g.sep (by omega) v
  have b' := g.first b h.sep (by omega) v
  cases hb : b.getD v false <;> cases hc : c.getD v false
  · rfl
  · rw [b' hc] at hb; cases hb
  · rw [a hb] at hc; cases hc
  · rfl
theorem FarB.unique {n : Nat} {E : List Edg} {s t : List Nat} {b c : List Bool} (h : FarB n E s t b) (g : FarB n E s t c) : b = c := by
  have h1 := h.least c g.sep
  have h2 := g.least b h.sep
  refine getD_ext (by rw [h.sep.len, g.sep.len]) (fun v => ?_)
  have a := h.last c g.sep (by omega) v
  have b' := g.last b h.sep (by omega) v
  cases hb : b.getD v false <;> cases hc : c.getD v false
  · rfl
  · rw [a hc] at hb; cases hb
  · rw [b' hb] at hc; cases hc
  · rfl
theorem NearB.congr {n : Nat} {E E' : List Edg} {s t : List Nat} {b : List Bool} (he : ∀ c, cr c E' = cr c E) (h : NearB n E s t b) : NearB n E' s t b :=
  ⟨h.sep, fun c hc => by rw [he, he]; exact h.least c hc, fun c hc e => h.first c hc (by rw [← he, ← he]; exact e)⟩
theorem FarB.congr {n : Nat} {E E' : List Edg} {s t : List Nat} {b : List Bool} (he : ∀ c, cr c E' = cr c E) (h : FarB n E s t b) : FarB n E' s t b :=
  ⟨h.sep, fun c hc => by rw [he, he]; exact h.least c hc, fun c hc e => h.last c hc (by rw [← he, ← he]; exact e)⟩

/-- What the split at place i of the twelve is. -/
structure IsSpl (E : List Edg) (l : List (Int × Int)) (i : Nat) (s : Spl) : Prop where
  dir : s.dir = ((i / 3 : Nat) : Int)
  kind : s.kind = ((i % 3 : Nat) : Int)
  cross : s.cross = cr s.side E
  near : i % 3 = 0 → NearB l.length E (srcN l (i / 3)) (dstN l (i / 3)) s.side
  far : i % 3 = 1 → FarB l.length E (srcN l (i / 3)) (dstN l (i / 3)) s.side
  half : i % 3 = 2 → s.side = halfB l (i / 3)
def IsAll (E : List Edg) (l : List (Int × Int)) (m : Nat) (L : List Spl) : Prop := L.length = m ∧ ∀ i s, L[i]? = some s → IsSpl E l i s
theorem IsSpl.sep {E : List Edg} {l : List (Int × Int)} {i : Nat} {s : Spl} (h : IsSpl E l i s) (h2 : 2 ≤ l.length) : SepB l.length (srcN l (i / 3)) (dstN l (i / 3)) s.side := by
  rcases (show i % 3 = 0 ∨ i % 3 = 1 ∨ i % 3 = 2 by omega) with h3 | h3 | h3
  · exact (h.near h3).sep
  · exact (h.far h3).sep
  · rw [h.half h3]; exact half_sep h2
theorem IsSpl.unique {E : List Edg} {l : List (Int × Int)} {i : Nat} {s t : Spl} (h : IsSpl E l i s) (g : IsSpl E l i t) : s = t := by
  have hs : s.side = t.side := by
    rcases (show i % 3 = 0 ∨ i % 3 = 1 ∨ i % 3 = 2 by omega) with h3 | h3 | h3
    · exact (h.near h3).unique (g.near h3)
    · exact (h.far h3).unique (g.far h3)
    · rw [h.half h3, g.half h3]
  have h1 := h.cross
  have h2 := g.cross
  have h3 := h.dir.trans g.dir.symm
  have h4 := h.kind.trans g.kind.symm
  rw [← hs, ← h1] at h2
  cases s; cases t
  simp_all
theorem IsAll.unique {E : List Edg} {l : List (Int × Int)} {m : Nat} {L M : List Spl} (h : IsAll E l m L) (g : IsAll E l m M) : L = M := by
  apply List.ext_getElem?
  intro i
  rcases Nat.lt_or_ge i m with h1 | h1
  · have e1 := List.getElem?_eq_getElem (show i < L.length by rw [h.1]; exact h1)
    have e2 := List.getElem?_eq_getElem (show i < M.length by rw [g.1]; exact h1)
    rw [e1, e2, (h.2 i _ e1).unique (g.2 i _ e2)]
  · rw [List.getElem?_eq_none (by rw [h.1]; exact h1), List.getElem?_eq_none (by rw [g.1]; exact h1)]

/-- How far from half. -/
def offB (b : List Bool) : Int := max (2 * (cnt b : Int) - b.length) (-(2 * (cnt b : Int) - b.length))
/-- b is the first of the best of the first k. -/
def Opt (L : List Spl) (k : Nat) (b : Spl) : Prop := ∃ at_ : Nat, at_ < k ∧ L[at_]? = some b ∧ ∀ i s, i < k → L[i]? = some s → ¬ (s.cross < b.cross ∨ (s.cross = b.cross ∧ (offB s.side < offB b.side ∨ (offB s.side = offB b.side ∧ i < at_))))
theorem Opt.one {L : List Spl} {b : Spl} (h : L[0]? = some b) : Opt L 1 b := ⟨0, by omega, h, fun i s hi hs => by
  obtain rfl : i = 0 := by omega
  rw [h] at hs; cases hs; omega⟩
theorem Opt.keep {L : List Spl} {k : Nat} {b s : Spl} (h : Opt L k b) (hs : L[k]? = some s) (hb : s.cross > b.cross ∨ (s.cross = b.cross ∧ offB b.side ≤ offB s.side)) : Opt L (k + 1) b := by
  obtain ⟨a, ha, hL, hall⟩ := h
  refine ⟨a, by omega, hL, fun i t hi ht => ?_⟩
  rcases Nat.lt_or_ge i k with h1 | h1
  · exact hall i t h1 ht
  · obtain rfl : i = k := by omega
    rw [hs] at ht; cases ht; omega
theorem Opt.turn {L : List Spl} {k : Nat} {b s : Spl} (h : Opt L k b) (hs : L[k]? = some s) (hb : s.cross < b.cross ∨ (s.cross = b.cross ∧ offB s.side < offB b.side)) : Opt L (k + 1) s := by
  obtain ⟨a, ha, hL, hall⟩ := h
  refine ⟨k, by omega, hs, fun i t hi ht => ?_⟩
  rcases Nat.lt_or_ge i k with h1 | h1
  · have := hall i t h1 ht
    omega
  · obtain rfl : i = k := by omega
    rw [hs] at ht; cases ht; omega
theorem Opt.unique {L : List Spl} {k : Nat} {b c : Spl} (h : Opt L k b) (g : Opt L k c) : b = c := by
  obtain ⟨a, ha, hL, hall⟩ := h
  obtain ⟨a', ha', hL', hall'⟩ := g
  have h1 := hall a' c ha' hL'
  have h2 := hall' a b ha hL
  obtain rfl : a = a' := by omega
  rw [hL] at hL'
  exact Option.some.inj hL'
theorem offB_nonneg (b : List Bool) : 0 ≤ offB b := by unfold offB; omega
/-- Where the first one is even and none crosses fewer it is the best. -/
theorem Opt.first {L : List Spl} {k : Nat} {b s : Spl} (h : Opt L k b) (h0 : L[0]? = some s) (he : offB s.side = 0) (hm : ∀ (i : Nat) t, L[i]? = some t → s.cross ≤ t.cross) : b = s := by
  obtain ⟨a, ha, hL, hall⟩ := h
  have h1 := hall 0 s (by omega) h0
  have h2 := hm a b hL
  have h3 := offB_nonneg b.side
  obtain rfl : a = 0 := by omega
  rw [hL] at h0
  exact Option.some.inj h0

theorem crossN_cons (S : Int → Bool) (e : Edg) (E : List Edg) : crossN S (e :: E) = (if S e.1 = S e.2 then 0 else 1) + crossN S E := rfl
theorem crossN_app (S : Int → Bool) : ∀ A B : List Edg, crossN S (A ++ B) = crossN S A + crossN S B
  | [], B => by simp [crossN]
  | e :: A, B => by
    simp only [List.cons_append]
    rw [crossN_cons, crossN_cons, crossN_app S A B]; omega
end Go.Proofs.YtpffhoefmcpniaaGreatDoor

/- Parts: what cells that may be are; plain. -/
namespace Go.Proofs.YtpffhoefmcpniaaGreatDoor
open Go.RowKit

theorem snoc_ind {P : List Int → Prop} (h0 : P []) (hs : ∀ l x, P l → P (l ++ [x])) (l : List Int) : P l := by
  have h : ∀ l : List Int, P l.reverse := by
    intro l
    induction l with
    | nil => exact h0
    | cons x l ih => rw [List.reverse_cons]; exact hs _ _ ih
  have := h l.reverse
  rwa [List.reverse_reverse] at this
/-- One more than the greatest number of a row. -/
def mostN (l : List Int) : Int := l.foldl (fun n x => max n (x + 1)) 0
theorem mostN_app (l : List Int) (x : Int) : mostN (l ++ [x]) = max (mostN l) (x + 1) := by simp [mostN]
theorem mostN_nonneg : ∀ l : List Int, 0 ≤ mostN l := by
  refine snoc_ind (by simp [mostN]) (fun l x ih => by rw [mostN_app]; omega)
theorem lt_mostN {l : List Int} {x : Int} : x ∈ l → x < mostN l := by
  revert x
  refine snoc_ind (P := fun l => ∀ {x : Int}, x ∈ l → x < mostN l) (fun h => by cases h) (fun l y ih => ?_) l
  · intro x h
    rw [mostN_app]
    rcases List.mem_append.1 h with h | h
    · have := ih h; omega
    · rw [List.mem_singleton.1 h]; omega
theorem mostN_mem {l : List Int} : 0 < mostN l → ∃ x ∈ l, mostN l = x + 1 := by
  refine snoc_ind (P := fun l => 0 < mostN l → ∃ x ∈ l, mostN l = x + 1) (fun h => by simp [mostN] at h) (fun l y ih => ?_) l
  · intro h
    rw [mostN_app] at h ⊢
    by_cases h1 : mostN l ≤ y + 1
    · exact ⟨y, by simp, by omega⟩
    · have h0 := mostN_nonneg l
      obtain ⟨x, hx, e⟩ := ih (by omega)
      exact ⟨x, List.mem_append_left _ hx, by omega⟩
theorem mostN_le {l : List Int} {n : Int} (h : ∀ x ∈ l, x < n) (hn : 0 ≤ n) : mostN l ≤ n := by
  by_cases h0 : 0 < mostN l
  · obtain ⟨x, hx, e⟩ := mostN_mem h0
    have := h x hx
    omega
  · omega
/-- A level's numbers: of each vertex one, none is left out. -/
structure LvlOk (n : Nat) (l : List Int) : Prop where
  len : l.length = n
  lo : ∀ x ∈ l, 0 ≤ x
  hi : ∀ x ∈ l, x < n
  all : ∀ c : Nat, (c : Int) < mostN l → (c : Int) ∈ l
/-- The cells of a level stand in those of the next one, and in their order. -/
def NestOk (p l : List Int) : Prop := ∀ (a b : Nat) (x y u v : Int), p[a]? = some x → p[b]? = some y → l[a]? = some u → l[b]? = some v → x ≤ y → u ≤ v
/-- Cells that may be. -/
structure PartOk (n : Nat) (ls : List (List Int)) : Prop where
  l1 : 1 ≤ ls.length
  l6 : ls.length ≤ 6
  lvl : ∀ l ∈ ls, LvlOk n l
  nest : ∀ (i : Nat) p l, ls[i]? = some p → ls[i + 1]? = some l → NestOk p l
/-- What is wrong with a level, as an Errno: 0 none. -/
noncomputable def lvlCode (n : Nat) (p : Option (List Int)) (l : List Int) : Int := by
  classical exact if l.length ≠ n then 1 else if LvlOk n l ∧ ∀ q, p = some q → NestOk q l then 0 else 10
end Go.Proofs.YtpffhoefmcpniaaGreatDoor
