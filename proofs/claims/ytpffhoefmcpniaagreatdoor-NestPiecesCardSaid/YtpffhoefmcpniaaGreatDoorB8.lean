/- Parts of the proof: QFlR, QFl5, QFl6, QFlM. -/
import Derived.Test.YtpffhoefmcpniaaGreatDoorB1
import Derived.Test.YtpffhoefmcpniaaGreatDoorB7
namespace Go.Proofs.YtpffhoefmcpniaaGreatDoor
open Go.RowKit

def Chn : Nat → List Lnk → Nat → Prop
 | a, [], b => a = b
 | a, k :: p, b => k.u = a ∧ Chn k.v p b
theorem chn_of : ∀ (p : List Lnk) (a b : Nat), (p = [] → b = a) → (∀ k, p[0]? = some k → k.u = a) → (∀ k, p.getLast? = some k → k.v = b) → (∀ (i : Nat) (k k' : Lnk), p[i]? = some k → p[i + 1]? = some k' → k.v = k'.u) → Chn a p b
 | [], a, b, h, _, _, _ => (h rfl).symm
 | k :: p, a, b, _, h0, hl, hk => by
  refine ⟨h0 k rfl, chn_of p k.v b (fun e => ?_) (fun q hq => ?_) (fun q hq => ?_) (fun i q q' h1 h2 => hk (i + 1) q q' (by simpa using h1) (by simpa using h2))⟩
  · subst e
    exact (hl k rfl).symm
  · exact (hk 0 k q rfl (by simpa using hq)).symm
  · refine hl q ?_
    cases p with
    | nil => simp at hq
    | cons c t => rw [List.getLast?_cons_cons]; exact hq
def LkE (E : List Edg) (k : Lnk) : Prop := k.u ≠ k.v ∧ ((k.y = 1 ∧ E[k.e]? = some ((k.u : Int), (k.v : Int))) ∨ (k.y = -1 ∧ E[k.e]? = some ((k.v : Int), (k.u : Int))))
theorem LkE.lt {E : List Edg} {k : Lnk} (h : LkE E k) : k.e < E.length := by
 rcases h.2 with ⟨_, h⟩ | ⟨_, h⟩ <;> exact (List.getElem?_eq_some_iff.1 h).1
theorem LkE.sign {E : List Edg} {k : Lnk} (h : LkE E k) : k.y = 1 ∨ k.y = -1 := by
 rcases h.2 with ⟨h, _⟩ | ⟨h, _⟩
 · exact .inl h
 · exact .inr h
theorem app1_out {S : Int → Bool} {E : List Edg} {f : List Int} {k : Lnk} (hk : LkE E k) (hl : f.length = E.length) : outF S E (app1 f k) = outF S E f + iB (S k.u) - iB (S k.v) := by
 have hf : f[k.e]? = some (f.getD k.e 0) := by
  rw [List.getD_eq_getElem?_getD, List.getElem?_eq_getElem (by rw [hl]; exact hk.lt)]; rfl
 exact outF_link hf hk.2
theorem appAll_out {S : Int → Bool} {E : List Edg} : ∀ (p : List Lnk) (f : List Int) (a b : Nat), (∀ k ∈ p, LkE E k) → f.length = E.length → Chn a p b → outF S E (appAll f p) = outF S E f + iB (S a) - iB (S b)
 | [], f, a, b, _, _, hc => by
  have : a = b := hc
  subst this
  show outF S E f = _
  omega
 | k :: p, f, a, b, hk, hl, hc => by
  have h1 := app1_out (S := S) (hk k List.mem_cons_self) hl
  have h2 := appAll_out (S := S) p (app1 f k) k.v b (fun q hq => hk q (List.mem_cons_of_mem _ hq)) (by rw [app1_len]; exact hl) hc.2
  show outF S E (appAll (app1 f k) p) = _
  rw [h2, h1, hc.1]
  omega
theorem app1_getD {f : List Int} {k : Lnk} {i : Nat} (h : i ≠ k.e) : (app1 f k).getD i 0 = f.getD i 0 := by
 unfold app1
 rw [List.getD_eq_getElem?_getD, List.getElem?_set_ne (Ne.symm h), ← List.getD_eq_getElem?_getD]
theorem appAll_unit {E : List Edg} : ∀ (p : List Lnk) (f : List Int), (∀ k ∈ p, LkE E k) → f.length = E.length → (∀ x ∈ f, Unit3 x) → (∀ k ∈ p, rm f 1 k) → p.Pairwise (fun a b => a.e ≠ b.e) → ∀ x ∈ appAll f p, Unit3 x
 | [], f, _, _, hu, _, _ => hu
 | k :: p, f, hk, hl, hu, hr, hd => by
  have hd' := List.pairwise_cons.1 hd
  have hlt := (hk k List.mem_cons_self).lt
  refine appAll_unit p (app1 f k) (fun q hq => hk q (List.mem_cons_of_mem _ hq)) (by rw [app1_len]; exact hl) (fun x hx => ?_) (fun q hq => ?_) hd'.2
  · unfold app1 at hx
    rcases List.mem_or_eq_of_mem_set hx with h1 | h1
    · exact hu x h1
    · have h2 : Unit3 (f.getD k.e 0) := by
       rw [List.getD_eq_getElem?_getD, List.getElem?_eq_getElem (by omega)]
       exact hu _ (List.getElem_mem _)
      have h3 : f.getD k.e 0 ≠ 1 * k.y := hr k List.mem_cons_self
      have h4 := (hk k List.mem_cons_self).sign
      subst h1
      unfold Unit3 at *
      omega
  · have h3 := hr q (List.mem_cons_of_mem _ hq)
    unfold rm at *
    rw [app1_getD (Ne.symm (hd'.1 q hq))]
    exact h3
theorem LinksOf.lkE {n : Nat} {E : List Edg} {ls : List (List Lnk)} (h : LinksOf n E ls) {a x : Nat} {l : List Lnk} {k : Lnk} (hl : ls[a]? = some l) (hk : l[x]? = some k) : LkE E k :=
 ⟨(h.sound a l k hl (List.mem_of_getElem? hk)).2.2.1, (h.sound a l k hl (List.mem_of_getElem? hk)).2.2.2⟩
theorem flow_push {n : Nat} {E : List Edg} {ls : List (List Lnk)} {src dst : List Int} {V : Int} {f d nx : List Int} {s t : Nat} {p : List Lnk} (hL : LinksOf n E ls) (h : FlowI E src dst V f) (hw : Way ls f d nx s p t) (hs : (s : Int) ∈ src) (ht : (t : Int) ∈ dst) : FlowI E src dst (V + 1) (appAll f p) := by
 have hke : ∀ k ∈ p, LkE E k := fun k hk => by
  obtain ⟨l, x, h1, _, h3⟩ := hw.try_ k hk
  exact hL.lkE h1 h3
 refine ⟨by rw [appAll_len]; exact h.len, appAll_unit p f hke h.len h.unit (fun k hk => (hw.adm k hk).1) ?_, fun S hS => ?_⟩
 · rw [List.pairwise_iff_getElem]
   intro i j hi hj hij e
   have ei := hw.dep i p[i] (List.getElem?_eq_getElem hi)
   have ej := hw.dep j p[j] (List.getElem?_eq_getElem hj)
   have ai := (hw.adm _ (List.getElem_mem hi)).2
   have aj := (hw.adm _ (List.getElem_mem hj)).2
   have ki := (hke _ (List.getElem_mem hi)).2
   have kj := (hke _ (List.getElem_mem hj)).2
   rw [e] at ki
   rcases ki with ⟨_, ki⟩ | ⟨_, ki⟩ <;> rcases kj with ⟨_, kj⟩ | ⟨_, kj⟩ <;> rw [ki] at kj <;> simp only [Option.some.injEq, Prod.mk.injEq] at kj
   · have : p[i].u = p[j].u := by omega
     rw [this] at ei
     omega
   · have h1 : p[i].u = p[j].v := by omega
     rw [h1] at ei
     omega
   · have h1 : p[i].u = p[j].v := by omega
     rw [h1] at ei
     omega
   · have : p[i].u = p[j].u := by omega
     rw [this] at ei
     omega
 · rw [appAll_out p f s t hke h.len (chn_of p s t hw.head hw.first hw.last hw.link), h.out S hS, hS.1 _ hs, hS.2 _ ht]
   simp [iB]
theorem flow_bd {E : List Edg} {src dst : List Int} {V : Int} {f : List Int} (h : FlowI E src dst V f) (hd : ∀ v ∈ src, v ∉ dst) : V ≤ E.length := by
 have hS : Sep src dst (fun v => decide (v ∈ src)) := ⟨fun v hv => by simp [hv], fun v hv => by simp; exact fun e => hd v e hv⟩
 have h1 := outF_le (fun v => decide (v ∈ src)) E f h.unit
 have h2 := crossN_le (fun v => decide (v ∈ src)) E
 rw [h.out _ hS] at h1
 omega
theorem room_link {n : Nat} {E : List Edg} {ls : List (List Lnk)} {f : List Int} {a b : Nat} (hL : LinksOf n E ls) (hE : Ends n E) (h : Room E f a b) : Go1 ls f 1 a b := by
 obtain ⟨i, x, hx, hne, he⟩ := h
 have hfx : f.getD i 0 = x := by rw [List.getD_eq_getElem?_getD, hx]; rfl
 rcases he with ⟨he, hxe⟩ | ⟨he, hxe⟩
 · have hb := hE _ (List.mem_of_getElem? he)
   simp only at hb
   obtain ⟨⟨l, h1, h2⟩, _⟩ := hL.full i a b he (fun e => hne (by rw [e])) (by omega) (by omega)
   refine ⟨_, by rw [List.getD_eq_getElem?_getD, h1]; exact h2, rfl, ?_⟩
   unfold rm
   rw [hfx]
   simpa using hxe
 · have hb := hE _ (List.mem_of_getElem? he)
   simp only at hb
   obtain ⟨_, l, h1, h2⟩ := hL.full i b a he (fun e => hne (by rw [e])) (by omega) (by omega)
   refine ⟨_, by rw [List.getD_eq_getElem?_getD, h1]; exact h2, rfl, ?_⟩
   unfold rm
   rw [hfx]
   simpa using hxe
theorem link_room {n : Nat} {E : List Edg} {ls : List (List Lnk)} {f : List Int} {a b : Nat} (hL : LinksOf n E ls) (hl : f.length = E.length) (h : Go1 ls f 1 a b) : Room E f a b := by
 obtain ⟨k, hk, hkv, hr⟩ := h
 rw [List.getD_eq_getElem?_getD] at hk
 cases hls : ls[a]? with
 | none => rw [hls] at hk; cases hk
 | some l =>
  rw [hls] at hk
  obtain ⟨hu, _, hne, he⟩ := hL.sound a l k hls hk
  subst hkv
  subst hu
  have hlt : k.e < E.length := by rcases he with ⟨_, h⟩ | ⟨_, h⟩ <;> exact (List.getElem?_eq_some_iff.1 h).1
  have hx : f[k.e]? = some (f.getD k.e 0) := by rw [List.getD_eq_getElem?_getD, List.getElem?_eq_getElem (by omega)]; rfl
  unfold rm at hr
  refine ⟨k.e, _, hx, by omega, ?_⟩
  rcases he with ⟨hy, he⟩ | ⟨hy, he⟩
  · exact .inl ⟨he, by rw [hy] at hr; simpa using hr⟩
  · exact .inr ⟨he, by rw [hy] at hr; simpa using hr⟩
theorem reach_dep {n : Nat} {E : List Edg} {ls : List (List Lnk)} {f d : List Int} {s : List Nat} (hL : LinksOf n E ls) (hE : Ends n E) (hD : Dep n ls f 1 s d) : ∀ {v : Int}, Reach E f (nats s) v → ∃ a : Nat, v = a ∧ 0 ≤ dAt d a := by
 intro v h
 induction h with
 | start hv =>
  unfold nats at hv
  obtain ⟨a, ha, e⟩ := List.mem_map.1 hv
  exact ⟨a, e.symm, hD.src a ha⟩
 | step _ hr ih =>
  obtain ⟨a, rfl, ha⟩ := ih
  obtain ⟨b, rfl⟩ : ∃ b : Nat, ‹Int› = b := by
   obtain ⟨i, x, _, _, he⟩ := hr
   rcases he with ⟨he, _⟩ | ⟨he, _⟩
   · have := hE _ (List.mem_of_getElem? he)
     exact ⟨_, (Int.toNat_of_nonneg this.2.2.1).symm⟩
   · have := hE _ (List.mem_of_getElem? he)
     exact ⟨_, (Int.toNat_of_nonneg this.1).symm⟩
  exact ⟨b, rfl, hD.closed a b ha (room_link hL hE hr)⟩
theorem dep_reach {n : Nat} {E : List Edg} {ls : List (List Lnk)} {f d : List Int} {s : List Nat} (hL : LinksOf n E ls) (hl : f.length = E.length) (hD : Dep n ls f 1 s d) : ∀ (k a : Nat), dAt d a = k → Reach E f (nats s) a
 | 0, a, h => .start (List.mem_map.2 ⟨a, hD.zero a (by omega), rfl⟩)
 | k + 1, a, h => by
  obtain ⟨u, h1, h2⟩ := hD.pre a (by omega)
  exact .step (dep_reach hL hl hD k u (by omega)) (link_room hL hl h2)
theorem stuck {n : Nat} {E : List Edg} {ls : List (List Lnk)} {f d nx : List Int} {s : List Nat} {dst : List Int} (hL : LinksOf n E ls) (hE : Ends n E) (hD : Dep n ls f 1 s d) (hdn : Done ls f d nx) (hs : ∀ v ∈ s, ∃ l, ls[v]? = some l ∧ nx[v]? = some (l.length : Int)) (hend : ∀ t : Nat, (t : Int) ∈ dst → nx[t]? = some 0) (hdis : ∀ v ∈ nats s, v ∉ dst) : ∀ v ∈ dst, ¬ Reach E f (nats s) v := by
 have all : ∀ (k a : Nat), dAt d a = k → ∃ l, ls[a]? = some l ∧ nx[a]? = some (l.length : Int) := by
  intro k
  induction k with
  | zero => intro a h; exact hs a (hD.zero a (by omega))
  | succ k ih =>
   intro a h
   obtain ⟨u, h1, q, hq, hqv, hr⟩ := hD.pre a (by omega)
   obtain ⟨l, hl, hx⟩ := ih u (by omega)
   rw [List.getD_eq_getElem?_getD, hl] at hq
   have hq : q ∈ l := hq
   obtain ⟨j, hj, e⟩ := List.getElem_of_mem hq
   have hq' : l[j]? = some q := by rw [List.getElem?_eq_getElem hj, e]
   have := hdn u j l l.length q hl hx hj hq' ⟨hr, by rw [hqv]; omega⟩
   rw [hqv] at this
   exact this
 intro v hv hr
 obtain ⟨a, rfl, ha⟩ := reach_dep hL hE hD hr
 obtain ⟨l, hl, hx⟩ := all (dAt d a).toNat a (by omega)
 rw [hend a hv] at hx
 have hl0 : l.length = 0 := by injection hx with hx; omega
 by_cases h0 : dAt d a = 0
 · exact hdis a (List.mem_map.2 ⟨a, hD.zero a h0, rfl⟩) hv
 · obtain ⟨u, h1, q, hq, hqv, hr'⟩ := hD.pre a (by omega)
   rw [List.getD_eq_getElem?_getD] at hq
   cases hls : ls[u]? with
   | none => rw [hls] at hq; cases hq
   | some lu =>
    rw [hls] at hq
    obtain ⟨hu, hvn, hne, he⟩ := hL.sound u lu q hls hq
    subst hqv
    subst hu
    have hun : q.u < n := by rw [← hL.len]; exact (List.getElem?_eq_some_iff.1 hls).1
    rcases he with ⟨_, he⟩ | ⟨_, he⟩
    · obtain ⟨_, l', h2, h3⟩ := hL.full q.e q.u q.v he hne hun hvn
      rw [hl] at h2
      cases h2
      rw [List.length_eq_zero_iff.1 hl0] at h3
      cases h3
    · obtain ⟨⟨l', h2, h3⟩, _⟩ := hL.full q.e q.v q.u he (Ne.symm hne) hvn hun
      rw [hl] at h2
      cases h2
      rw [List.length_eq_zero_iff.1 hl0] at h3
      cases h3
end Go.Proofs.YtpffhoefmcpniaaGreatDoor

namespace Go.Proofs.YtpffhoefmcpniaaGreatDoor
open Go.RowKit

attribute [local go_sem ↓] Go.wp_at_zero Go.wp_at_succ

structure Wp (w0 W : World) (n m gw gf ge ct : Nat) (AT : Option Addr) (ls : List (List Lnk)) (f : List Int) (en : List Bool) (X3 X4 : Value) : Prop where
 at0 : RdN w0 AT n ls
 bel : Subw w0 W
 z : Freew w0 gw ∧ Freew w0 gf ∧ Freew w0 ge
 ne : gw ≠ gf ∧ gw ≠ ge ∧ gf ≠ ge
 bw : Blk W gw 219 #[.slice AT n ct, .slice (some ⟨gf, 0, none⟩) m m, .slice (some ⟨ge, 0, none⟩) n n, X3, X4]
 bf : Blk W gf 3 (ints f)
 be : Blk W ge 4 (bools en)
 lf : f.length = m
 le : en.length = n
theorem Wk.wp {w0 W : World} {n m gw gf ge gd gx ct : Nat} {AT : Option Addr} {ls : List (List Lnk)} {f : List Int} {en : List Bool} {d nx : List Int} (h : Wk w0 W n m gw gf ge gd gx ct AT ls f en d nx) : Wp w0 W n m gw gf ge ct AT ls f en (.slice (some ⟨gd, 0, none⟩) n n) (.slice (some ⟨gx, 0, none⟩) n n) :=
 ⟨h.at0, h.bel, ⟨h.z.1, h.z.2.1, h.z.2.2.1⟩, ⟨h.ne.1, h.ne.2.1, h.ne.2.2.2.2.1⟩, h.bw, h.bf, h.be, h.lf, h.le⟩
theorem near_of {E : List Edg} {src dst : List Int} {V : Int} {f : List Int} (h : FlowI E src dst V f) : Near1 f 1 := fun x hx => by have := h.unit x hx; unfold Unit3 at this; omega

theorem KeepX.push {gf gw gx : Nat} {a b c : World} (h : KeepX (fun k => k = gf ∨ k = gw) a b) (g : KeepX (fun k => k = gf ∨ k = gx) b c) (hx : a.heap.size ≤ gx) : KeepX (fun k => k = gf ∨ k = gw) a c :=
 ⟨g.os.trans h.os, g.tape.trans h.tape, g.output.trans h.output, Nat.le_trans h.size g.size, fun k hk hs => (g.block k (Nat.lt_of_lt_of_le hk h.size) (fun e => by
  rcases e with e | e
  · exact hs (.inl e)
  · omega)).trans (h.block k hk hs)⟩

set_option maxHeartbeats 8000000 in
theorem grow_any (w0 W0 : World) (n m gw gf ge ct : Nat) (AT : Option Addr) (ls : List (List Lnk)) (f : List Int) (en : List Bool) (X3 X4 : Value) (h : Wp w0 W0 n m gw gf ge ct AT ls f en X3 X4) (AS : Option Addr) (ks cs V : Nat) (s : List Nat) (E : List Edg) (dst : List Int) (hk : LkIn n m ls) (hS : RdI w0 AS ks (nats s)) (hsn : ∀ v ∈ s, v < n) (hL : LinksOf n E ls) (hE : Ends n E) (hEm : E.length = m) (hF : FlowI E (nats s) dst V f) (hen : ∀ t : Nat, en.getD t false = true ↔ (t : Int) ∈ dst) (hdis : ∀ v ∈ nats s, v ∉ dst) (hn : n ≤ 1000000) (hm : m ≤ 1000000) (hks : ks ≤ 1000000) :
 Calls Tryz.prog 123 #[.pointer (some ⟨gw, 0, none⟩), .slice AS ks cs] W0 fun e W' => ∃ (c gd gx : Nat) (d nx f' : List Int), e = .returned (.int .i64 c) ∧ Wk w0 W' n m gw gf ge gd gx ct AT ls f' en d nx ∧ KeepX (fun k => k = gf ∨ k = gw) W0 W' ∧ FlowI E (nats s) dst ((V : Int) + c) f' ∧ (c = 0 → f' = f ∧ ∀ v ∈ dst, ¬ Reach E f (nats s) v) := by
 have hmk := run_makeI n (by omega)
 have HK := Lib.hid hk
 have HF := Lib.hid hF
 have HSN := Lib.hid hsn
 have HL := Lib.hid hL
 have HE := Lib.hid hE
 have HEN := Lib.hid hen
 have HDI := Lib.hid hdis
 have HSL := Lib.hid hS.1
 have hS0 := hS.sub h.bel
 have HDP := Lib.hid (show ∀ V1, Below W0.heap.size W0 V1 → Calls Tryz.prog 131 #[.slice AT n ct, .slice (some ⟨gf, 0, none⟩) m m, .slice AS ks cs, .int .i64 1] V1 fun e w' => ∃ d, e = .returned (.slice (some ⟨V1.heap.size, 0, none⟩) n n) ∧ RdI w' (some ⟨V1.heap.size, 0, none⟩) n d ∧ Blk w' V1.heap.size 3 (ints d) ∧ Dep n ls f 1 s d ∧ Below V1.heap.size V1 w' from
  fun V1 hb => depths_any AT (some ⟨gf, 0, none⟩) AS n ct m m ks cs 1 ls f s V1 ((h.at0.sub h.bel).below hb) ((h.bf.below hb h.bf.lt).rdI h.lf) (hS0.below hb) hsn (.inl rfl) (fun a l k h1 h2 => ⟨((hk a l h1).2 k h2).2.1, ((hk a l h1).2 k h2).2.2.1, ((hk a l h1).2 k h2).2.2.2⟩) hn (fun a l h1 => (hk a l h1).1) hks)
 clear hk hF hsn hL hE hen hdis hS0
 obtain ⟨y0, y1, y2, y3, y4⟩ := h.bw.five
 have HSX := Lib.hid (show ∀ V : World, (V.cell? ⟨gw, 0, none⟩ = some (.slice AT n ct) ∧ V.cell? ⟨gw, 1, none⟩ = some (.slice (some ⟨gf, 0, none⟩) m m)) → V.cell? ⟨gw, 0, none⟩ = some (.slice AT n ct) ∧ V.cell? ⟨gw, 1, none⟩ = some (.slice (some ⟨gf, 0, none⟩) m m) from fun V h => h)
 go_enter Tryz.func123, Tryz.ntmps123
 go_wp2_with fail
 refine wp_region_held_drew (S := fun V => V.cell? ⟨gw, 0, none⟩ = some (.slice AT n ct) ∧ V.cell? ⟨gw, 1, none⟩ = some (.slice (some ⟨gf, 0, none⟩) m m)) (by kernel_rfl) ⟨y0, y1⟩ (fun _ => ?_)
 refine tk 0 8 (h := ⟨_, tv, ?_⟩)
 simp only [pE, List.set]
 refine tk 1 9 (h := ⟨_, tv, ?_⟩)
 simp only [pE, List.set]
 refine tk 2 10 (h := ⟨_, tv, ?_⟩)
 simp only [pE, List.set]
 refine tk 3 11 (h := ⟨_, tv, ?_⟩)
 simp only [pE, List.set]
 refine tk 4 12 (h := ⟨_, tv, ?_⟩)
 simp only [pE, List.set]
 refine tk 5 13 (h := ⟨_, tv, ?_⟩)
 simp only [pE, List.set]
 refine tk 6 14 (h := ⟨_, tv, ?_⟩)
 simp only [pE, List.set]
 refine tk 7 15 (h := ⟨_, tv, ?_⟩)
 simp only [pE, List.set]
 refine tk 8 16 (h := ⟨_, tv, ?_⟩)
 simp only [pE, List.set]
 refine tk 9 17 (h := ⟨_, tv, ?_⟩)
 simp only [pE, List.set]
 refine wpAnyH_ready (rs := [10]) (by kernel_rfl) (by simp) ?_
 refine AllReadyH.cons (o := _) rfl (fun K hK => ?_) AllReadyH.nil
 go_simp
 with_reducible refine (HDP.out _ (Below.refl _ _).drew).mono ?_
 rintro e w5 ⟨d, rfl, hrd, hbd, hdep, hb5⟩
 have hb05 : Below W0.heap.size W0 w5 := (Below.refl _ _).drew.trans hb5
 have hbd' : Blk w5 W0.heap.size 3 (ints d) := hbd
 have z0 := Below.cellOf hb05 (Nat.le_refl _) y0
 have z1 := Below.cellOf hb05 (Nat.le_refl _) y1
 have hbw5 := h.bw.below hb05 h.bw.lt
 have z3 := hbw5.five.2.2.2.1
 have z3f := hbw5.frozen 3
 have HFR := Lib.hid (show ∀ k, W0.heap.size ≤ k → Freew w0 k from fun k hk => h.bel.free hk)
 have hlt : gw < W0.heap.size ∧ gf < W0.heap.size ∧ ge < W0.heap.size := ⟨h.bw.lt, h.bf.lt, h.be.lt⟩
 have HP5 := Lib.hid (show RdN w0 AT n ls ∧ Subw w0 w5 ∧ Blk w5 gf 3 (ints f) ∧ Blk w5 ge 4 (bools en) from ⟨h.at0, h.bel.below hb05, h.bf.below hb05 h.bf.lt, h.be.below hb05 h.be.lt⟩)
 have HDEP := Lib.hid hdep
 have HH := Lib.hid h
 have u0 : (w5.setCell ⟨gw, 3, none⟩ (.slice (some ⟨W0.heap.size, 0, none⟩) n n)).cell? ⟨gw, 0, none⟩ = some (.slice AT n ct) := by
  rw [World.cell?_setCell_other _ _ _ _ (fun e => by injection e with _ e1; omega)]; exact z0
 have u1 : (w5.setCell ⟨gw, 3, none⟩ (.slice (some ⟨W0.heap.size, 0, none⟩) n n)).cell? ⟨gw, 1, none⟩ = some (.slice (some ⟨gf, 0, none⟩) m m) := by
  rw [World.cell?_setCell_other _ _ _ _ (fun e => by injection e with _ e1; omega)]; exact z1
 clear y0 y1 y2 y3 y4 h hrd hbd hb5 hdep
 go_wp2_with fail
 refine hK.out _ _ ⟨z0, z1⟩ (fun _ => ?_)
 clear hK K
 refine tk 11 19 (h := ⟨_, tv, ?_⟩)
 simp only [pE, List.set]
 refine tk 12 20 (h := ⟨_, tv, ?_⟩)
 simp only [pE, List.set]
 refine wpAnyH_ready (rs := [13]) (by kernel_rfl) (by simp) ?_
 refine AllReadyH.cons (o := _) rfl (fun K hK => ?_) AllReadyH.nil
 go_simp
 refine hK.out _ _ ⟨u0, u1⟩ (fun _ => ?_)
 clear hK K
 refine wpAnyH_done (by kernel_rfl) ?_ _
 obtain ⟨W6, hW6⟩ : ∃ W6, W6 = w5.setCell ⟨gw, 3, none⟩ (.slice (some ⟨W0.heap.size, 0, none⟩) n n) := ⟨_, rfl⟩
 rw [← hW6]
 have bw6 : Blk W6 gw 219 #[.slice AT n ct, .slice (some ⟨gf, 0, none⟩) m m, .slice (some ⟨ge, 0, none⟩) n n, .slice (some ⟨W0.heap.size, 0, none⟩) n n, X4] := by rw [hW6]; exact hbw5.set_ 3 _
 have bf6 : Blk W6 gf 3 (ints f) := by rw [hW6]; exact HP5.out.2.2.1.far_ (Ne.symm HH.out.ne.1) _
 have be6 : Blk W6 ge 4 (bools en) := by rw [hW6]; exact HP5.out.2.2.2.far_ (Ne.symm HH.out.ne.2.1) _
 have bd6 : Blk W6 W0.heap.size 3 (ints d) := by rw [hW6]; exact hbd'.far_ (by omega) _
 have bel6 : Subw w0 W6 := by rw [hW6]; exact HP5.out.2.1.setCell HH.out.z.1 _
 have hkp6 : KeepX (fun k => k = gf ∨ k = gw) W0 W6 := by rw [hW6]; exact ((KeepX.refl _ W0).grown (grownBy_below hb05 none) (fun k e => by cases e)).grown (grownBy_set _ _ _ _) (fun k e => .inl (.inr (by injection e with e; exact e.symm)))
 have hsz6 : W0.heap.size < W6.heap.size := bd6.lt
 have v0 := bw6.five.1
 have v4 := fun o => (bw6.alloc o).five.2.2.2.2
 have v4f := fun o => (bw6.alloc o).frozen 4
 clear hW6 hbd' z0 z1 z3 z3f hbw5 u0 u1 HSX hb05 HP5
 go_wp2_with fail
 have hkn : ∀ o, Blk ((W6.alloc o).setCell ⟨gw, 4, none⟩ (.slice (some ⟨W6.heap.size, 0, none⟩) n n)) gw 219 #[.slice AT n ct, .slice (some ⟨gf, 0, none⟩) m m, .slice (some ⟨ge, 0, none⟩) n n, .slice (some ⟨W0.heap.size, 0, none⟩) n n, .slice (some ⟨W6.heap.size, 0, none⟩) n n] := fun o => (bw6.alloc o).set_ 4 _
 have HWK := Lib.hid (show Wk w0 ((W6.alloc (.cells (zeros (.int .i64 0) n) 3)).setCell ⟨gw, 4, none⟩ (.slice (some ⟨W6.heap.size, 0, none⟩) n n)) n m gw gf ge W0.heap.size W6.heap.size ct AT ls f en d (List.replicate n 0) from
  ⟨HH.out.at0, (bel6.below ((Below.refl _ _).alloc (Nat.le_refl _) _)).setCell HH.out.z.1 _, ⟨HH.out.z.1, HH.out.z.2.1, HH.out.z.2.2, HFR.out _ (Nat.le_refl _), HFR.out _ (Nat.le_of_lt hsz6)⟩, ⟨HH.out.ne.1, HH.out.ne.2.1, by omega, by omega, HH.out.ne.2.2, by omega, by omega, by omega, by omega, by omega⟩,
   hkn _, (bf6.alloc _).far_ (Ne.symm HH.out.ne.1) _, (be6.alloc _).far_ (Ne.symm HH.out.ne.2.1) _, (bd6.alloc _).far_ (by omega) _, by rw [← zeros_int]; exact (Blk.new W6 _ _).far_ (by omega) _, HH.out.lf, HH.out.le, HDEP.out.len, by simp⟩)
 have hkp7 : KeepX (fun k => k = gf ∨ k = gw) W0 ((W6.alloc (.cells (zeros (.int .i64 0) n) 3)).setCell ⟨gw, 4, none⟩ (.slice (some ⟨W6.heap.size, 0, none⟩) n n)) := (hkp6.grown (grownBy_below ((Below.refl _ _).alloc (Nat.le_refl _) _) none) (fun k e => by cases e)).grown (grownBy_set _ _ _ _) (fun k e => .inl (.inr (by injection e with e; exact e.symm)))
 have HN0 := Lib.hid (show NxOk ls (List.replicate n 0) from fun a l hl => ⟨0, by
  have : a < n := by rw [← HH.out.at0.1]; exact (List.getElem?_eq_some_iff.1 hl).1
  rw [List.getElem?_replicate, if_pos this]; rfl, Nat.zero_le _⟩)
 have HE0 := Lib.hid (show ∀ t : Nat, en.getD t false = true → (List.replicate n (0 : Int))[t]? = some 0 from fun t ht => by
  have : t < n := by
   rcases Nat.lt_or_ge t en.length with g | g
   · rw [← HH.out.le]; exact g
   · rw [List.getD_eq_getElem?_getD, List.getElem?_eq_none g] at ht; cases ht
  rw [List.getElem?_replicate, if_pos this])
 have HD0 := Lib.hid (show Done ls f d (List.replicate n 0) from fun a j l x k _ hx hj => by
  have := (List.mem_replicate.1 (List.mem_of_getElem? hx)).2
  omega)
 have HDA := Lib.hid (show ∀ a, -1 ≤ dAt d a ∧ dAt d a < n from fun a => ⟨HDEP.out.lo a, HDEP.out.hi a⟩)
 have hz2 := hkp7.size
 clear bw6 bf6 be6 bd6 bel6 hkp6 v0 v4 v4f hkn hmk
 go_loopw [5, 32] (fun cnt idx W => KeepX (fun k => k = gf ∨ k = gw) W0 W ∧ ∃ (c i : Nat) (f' nx : List Int), i ≤ ks ∧ cnt = .int .i64 c ∧ idx = .int .i64 i ∧ Wk w0 W n m gw gf ge W0.heap.size W6.heap.size ct AT ls f' en d nx ∧ NxOk ls nx ∧ (∀ t : Nat, en.getD t false = true → nx[t]? = some 0) ∧ FlowI E (nats s) dst ((V : Int) + c) f' ∧ (c = 0 → f' = f ∧ Done ls f d nx ∧ ∀ v ∈ s.take i, ∃ l, ls[v]? = some l ∧ nx[v]? = some (l.length : Int))) (fun _ idx _ => ks - (intOf idx).toNat)
 case atStart => exact ⟨hkp7, 0, 0, f, _, Nat.zero_le _, rfl, rfl, HWK.out, HN0.out, HE0.out, by simpa using HF.out, fun _ => ⟨rfl, HD0.out, fun v hv => by simp at hv⟩⟩
 case round =>
  clear hkp7 HWK HN0 HE0 HD0
  obtain ⟨hkp, c, i, f', nx, hi, rfl, rfl, hw, hnx, hend, hfl, hc0⟩ := hrel
  by_cases hlt2 : i < ks
  · obtain ⟨b, o, x, rfl, hx, hcx⟩ := hS.at_ hlt2
    obtain ⟨a, hsa, rfl⟩ := nats_inv hx
    have han := HSN.out a (List.mem_of_getElem? hsa)
    have j1 := hw.bel _ _ hcx
    have HMS := Lib.hid (show (a : Int) ∈ nats s from List.mem_of_getElem? hx)
    have HTK := Lib.hid (show s.take (i + 1) = s.take i ++ [a] by
     have hlt := (List.getElem?_eq_some_iff.1 hsa).1
     rw [List.take_succ_eq_append_getElem hlt, (List.getElem?_eq_some_iff.1 hsa).2])
    have i1 : (0 : Int) ≤ (i : Int) := by omega
    have i2 : (i : Int) < (ks : Int) := by omega
    clear hx hcx hsa
    go_wp2_with fail
    go_loopw [5] (fun cnt W => KeepX (fun k => k = gf ∨ k = gw) W0 W ∧ ∃ (c : Nat) (f' nx : List Int), cnt = .int .i64 c ∧ Wk w0 W n m gw gf ge W0.heap.size W6.heap.size ct AT ls f' en d nx ∧ NxOk ls nx ∧ (∀ t : Nat, en.getD t false = true → nx[t]? = some 0) ∧ FlowI E (nats s) dst ((V : Int) + c) f' ∧ (c = 0 → f' = f ∧ Done ls f d nx ∧ ∀ v ∈ s.take i, ∃ l, ls[v]? = some l ∧ nx[v]? = some (l.length : Int))) (fun cnt _ => m + 1 - (V + (intOf cnt).toNat))
    case atStart => exact ⟨hkp, c, f', nx, rfl, hw, hnx, hend, hfl, hc0⟩
    case round =>
     clear hkp hw hnx hend hfl hc0 j1
     obtain ⟨hkp, c, f', nx, rfl, hw, hnx, hend, hfl, hc0⟩ := hrel
     have hbd := flow_bd hfl HDI.out
     have HFL := Lib.hid hfl
     have HC0 := Lib.hid hc0
     have HEND := Lib.hid hend
     clear hfl hc0 hend
     go_wp2_with fail
     with_reducible refine (push_any w0 wr n m gw gf ge W0.heap.size W6.heap.size ct a AT ls f' en d nx hw HK.out han hnx hn hm HDA.out (near_of HFL.out)).mono ?_
     rintro e w7 ⟨nx', hnx', hexh, hen', hkp', hres⟩
     have hkpn := hkp.push hkp' (by omega)
     have HEND2 := Lib.hid (show ∀ t : Nat, en.getD t false = true → nx'[t]? = some 0 from fun t ht => by rw [hen' t ht]; exact HEND.out t ht)
     have HNX := Lib.hid hnx'
     clear hkp hkp' hen' hnx' hw
     rcases hres with ⟨p, t, hway, hte, rfl, hw'⟩ | ⟨rfl, hw', hdn, hex⟩
     · have hfl2 := flow_push HL.out HFL.out hway HMS.out ((HEN.out t).1 hte)
       have HFL2 := Lib.hid (show FlowI E (nats s) dst ((V : Int) + ((c + 1 : Nat) : Int)) (appAll f' p) by
        rw [show (V : Int) + ((c + 1 : Nat) : Int) = (V : Int) + c + 1 by omega]; exact hfl2)
       have hb2 := flow_bd HFL2.out HDI.out
       have HW := Lib.hid hw'
       have e5 : IntKind.i64.wrap ((c : Int) + 1) = (c : Int) + 1 := IntWalk.i64_in _ (by omega)
       clear hw' hfl2 hway hte hexh
       go_wp2_with fail
       go_roundw
       case rel => exact ⟨hkpn, c + 1, appAll f' p, nx', by go_num, HW.out, HNX.out, HEND2.out, HFL2.out, fun h => absurd h (by omega)⟩
       case measure => simp [intOf]; omega
     · have HW := Lib.hid hw'
       have HCC := Lib.hid (show c = 0 → f' = f ∧ Done ls f d nx' ∧ ∀ v ∈ s.take (i + 1), ∃ l, ls[v]? = some l ∧ nx'[v]? = some (l.length : Int) from fun h0 => by
        obtain ⟨h1, h2, h3⟩ := HC0.out h0
        subst h1
        refine ⟨rfl, hdn h2, fun v hv => ?_⟩
        rw [HTK.out, List.mem_append, List.mem_singleton] at hv
        rcases hv with hv | rfl
        · obtain ⟨l, k1, k2⟩ := h3 v hv
          exact ⟨l, k1, hexh v l k1 k2⟩
        · exact hex)
       clear hw' hdn hex hexh
       go_wp2_with fail
       go_roundw
       case rel => exact ⟨hkpn, c, i + 1, f', nx', by omega, rfl, by go_num, HW.out, HNX.out, HEND2.out, HFL.out, HCC.out⟩
       case measure => simp [intOf]; omega
  · obtain rfl : i = ks := by omega
    have HW := Lib.hid hw
    have HFL := Lib.hid hfl
    have HCC := Lib.hid (show c = 0 → f' = f ∧ ∀ v ∈ dst, ¬ Reach E f (nats s) v from fun h0 => by
     obtain ⟨h1, h2, h3⟩ := hc0 h0
     rw [List.take_of_length_le (by have := HSL.out; rw [nats_len] at this; omega)] at h3
     exact ⟨h1, stuck HL.out HE.out HDEP.out h2 h3 (fun t ht => hend t ((HEN.out t).2 ht)) HDI.out⟩)
    clear hw hfl hc0 hend hnx
    go_wp2_with fail
    go_ret
    exact ⟨c, _, _, d, nx, f', rfl, HW.out, hkp, HFL.out, HCC.out⟩
end Go.Proofs.YtpffhoefmcpniaaGreatDoor

namespace Go.Proofs.YtpffhoefmcpniaaGreatDoor
open Go.RowKit

attribute [local go_sem ↓] Go.wp_at_zero Go.wp_at_succ

theorem infoBool : (Tryz.prog.info? 4).map (fun i => (i.zero, i.size, i.bytes)) = some (some (.bool false), 1, 1) := by kernel_rfl
theorem run_makeB (n : Nat) (hn : n ≤ 1000000000) (W : World) : (Instr.makeSlice 160 (.int .i64 (n : Int)) (.int .i64 (n : Int))).run Tryz.prog W = .ok (.slice (some ⟨W.heap.size, 0, none⟩) n n) (W.alloc (.cells (zeros (.bool false) n) 4)) :=
 run_make1 (P := Tryz.prog) 160 4 (.bool false) 1 infoBool Tryz.underlying160 rfl n (by omega) (by omega) .i64 .i64 W
def fillP (p : Int → Bool) (d : List Int) (n k : Nat) : List Bool := (d.take k).map p ++ List.replicate (n - k) false
theorem fillP_zero (p : Int → Bool) (d : List Int) (n : Nat) : bools (fillP p d n 0) = zeros (.bool false) n := by simp [fillP, bools, zeros]
theorem fillP_next {p : Int → Bool} {d : List Int} {n k : Nat} {x : Int} (h : d[k]? = some x) (hk : k < n) : (fillP p d n k).set k (p x) = fillP p d n (k + 1) := by
 have hlt := (List.getElem?_eq_some_iff.1 h).1
 have e := (List.getElem?_eq_some_iff.1 h).2
 have hl : ((d.take k).map p).length = k := by simp; omega
 unfold fillP
 rw [List.set_append_right _ _ (by omega), hl, Nat.sub_self]
 obtain ⟨m, hm⟩ : ∃ m, n - k = m + 1 := ⟨n - k - 1, by omega⟩
 rw [hm, show n - (k + 1) = m by omega, List.replicate_succ, List.set_cons_zero, List.take_succ_eq_append_getElem hlt, e, List.map_append]
 simp
theorem fillP_all {p : Int → Bool} {d : List Int} {n : Nat} (h : d.length = n) : fillP p d n n = d.map p := by
 unfold fillP
 rw [List.take_of_length_le (by omega)]
 simp
theorem fillP_len {p : Int → Bool} {d : List Int} {n k : Nat} (h : d.length = n) (hk : k ≤ n) : (fillP p d n k).length = n := by
 unfold fillP
 simp
 omega
def isNear (x : Int) : Bool := decide (0 ≤ x)
def isFar (x : Int) : Bool := decide (x < 0)

set_option maxHeartbeats 4000000 in
theorem sides_any (AT AF AS AD : Option Addr) (n ct m cf ks cs kd cd : Nat) (ls : List (List Lnk)) (f : List Int) (s t : List Nat) (w : World) (h : RdN w AT n ls) (hf : RdI w AF m f) (hs : RdI w AS ks (nats s)) (ht : RdI w AD kd (nats t)) (hsn : ∀ v ∈ s, v < n) (htn : ∀ v ∈ t, v < n) (hk : LkIn n m ls) (hn : n ≤ 1000000) (hks : ks ≤ 1000000) (hkd : kd ≤ 1000000) :
 Calls Tryz.prog 124 #[.slice AT n ct, .slice AF m cf, .slice AS ks cs, .slice AD kd cd] w fun e w' => ∃ (g1 g2 : Nat) (d1 d2 : List Int), e = .returned (.tuple #[.slice (some ⟨g1, 0, none⟩) n n, .slice (some ⟨g2, 0, none⟩) n n]) ∧ RdB w' (some ⟨g1, 0, none⟩) n (d1.map isNear) ∧ RdB w' (some ⟨g2, 0, none⟩) n (d2.map isFar) ∧ Dep n ls f 1 s d1 ∧ Dep n ls f (-1) t d2 ∧ Below w.heap.size w w' ∧ w.heap.size ≤ g1 ∧ w.heap.size ≤ g2 := by
 have hmk := run_makeB n (by omega)
 have HD1 := Lib.hid (show ∀ V, Below w.heap.size w V → Calls Tryz.prog 131 #[.slice AT n ct, .slice AF m cf, .slice AS ks cs, .int .i64 1] V fun e w' => ∃ d, e = .returned (.slice (some ⟨V.heap.size, 0, none⟩) n n) ∧ RdI w' (some ⟨V.heap.size, 0, none⟩) n d ∧ Blk w' V.heap.size 3 (ints d) ∧ Dep n ls f 1 s d ∧ Below V.heap.size V w' from
  fun V hb => depths_any AT AF AS n ct m cf ks cs 1 ls f s V (h.below hb) (hf.below hb) (hs.below hb) hsn (.inl rfl) (fun a l k h1 h2 => ⟨((hk a l h1).2 k h2).2.1, ((hk a l h1).2 k h2).2.2.1, ((hk a l h1).2 k h2).2.2.2⟩) hn (fun a l h1 => (hk a l h1).1) hks)
 have HD2 := Lib.hid (show ∀ V, Below w.heap.size w V → Calls Tryz.prog 131 #[.slice AT n ct, .slice AF m cf, .slice AD kd cd, .int .i64 (-1)] V fun e w' => ∃ d, e = .returned (.slice (some ⟨V.heap.size, 0, none⟩) n n) ∧ RdI w' (some ⟨V.heap.size, 0, none⟩) n d ∧ Blk w' V.heap.size 3 (ints d) ∧ Dep n ls f (-1) t d ∧ Below V.heap.size V w' from
  fun V hb => depths_any AT AF AD n ct m cf kd cd (-1) ls f t V (h.below hb) (hf.below hb) (ht.below hb) htn (.inr rfl) (fun a l k h1 h2 => ⟨((hk a l h1).2 k h2).2.1, ((hk a l h1).2 k h2).2.2.1, ((hk a l h1).2 k h2).2.2.2⟩) hn (fun a l h1 => (hk a l h1).1) hkd)
 clear h hf hs ht hsn htn hk
 go_enter Tryz.func124, Tryz.ntmps124
 go_wp2_with fail
 (refine calls_named ?_; intro w1 hw1)
 have hb1 : Below w.heap.size w w1 := by rw [hw1]; exact bELt
 have hB1 : Blk w1 w.heap.size 4 (zeros (.bool false) n) := by rw [hw1]; exact Blk.new _ _ _
 clear hw1
 with_reducible refine (HD1.out _ hb1).mono ?_
 rintro e w2 ⟨d1, rfl, hrd1, _, hdep1, hb2⟩
 have hbw2 : Below w.heap.size w w2 := Bel.step hb1 hb2
 have hB2 := hB1.below hb2 hB1.lt
 rw [← fillP_zero isNear d1 n] at hB2
 have HDEP1 := Lib.hid hdep1
 have hl1 := hdep1.len
 have hlt1 := hB1.lt
 clear hB1 hb1 hb2 hdep1 HD1
 go_wp2_with fail
 go_loopw [22] (fun i W => Below w.heap.size w W ∧ ∃ k : Nat, k ≤ n ∧ i = .int .i64 k ∧ Blk W w.heap.size 4 (bools (fillP isNear d1 n k)) ∧ RdI W (some ⟨w1.heap.size, 0, none⟩) n d1) (fun i _ => n - (intOf i).toNat)
 case atStart => exact ⟨hbw2, 0, Nat.zero_le _, rfl, hB2, hrd1⟩
 case round =>
  clear hbw2 hB2 hrd1
  obtain ⟨hbl, k, hk, rfl, hB, hrd⟩ := hrel
  by_cases hlt : k < n
  · obtain ⟨b, o, x, e, hx, hc⟩ := hrd.at_ hlt
    cases e
    rw [Nat.zero_add] at hc
    obtain ⟨z, hz⟩ : ∃ z, (fillP isNear d1 n k)[k]? = some z := ⟨_, List.getElem?_eq_getElem (by rw [fillP_len hl1 hk]; exact hlt)⟩
    have c1 := hB.cellB hz
    have c1f := hB.frozen k
    have HN := Lib.hid (hB.setB (fillP_next (p := isNear) hx hlt))
    have HRD := Lib.hid (hrd.grown (grownBy_set wr w.heap.size k (.bool (isNear x))) (fun e => by injection e with e; simp only at e; omega))
    have hbn : Below w.heap.size w (wr.setCell ⟨w.heap.size, k, none⟩ (.bool (isNear x))) := hbl.setCell (Nat.le_refl _) _
    have i1 : (0 : Int) ≤ (k : Int) := by omega
    have i2 : (k : Int) < (n : Int) := by omega
    clear hB hrd hbl hx hz
    go_wp2_with fail
    go_roundw
    case rel => exact ⟨hbn, k + 1, by omega, by go_num, HN.out, HRD.out⟩
    case measure => simp [intOf]; omega
  · obtain ⟨w9, hw9⟩ : ∃ w9, w9 = wr := ⟨_, rfl⟩
    subst hw9
    obtain rfl : n = k := by omega
    rw [fillP_all hl1] at hB
    have HRB := Lib.hid (hB.rdB (n := n) (by simp [hl1]))
    have hwsz := hB.lt
    have hw9s := hbl.size
    clear hB hrd
    go_wp2_with fail
    (refine calls_named ?_; intro w3 hw3)
    have hb3 : Below w9.heap.size w9 w3 := by rw [hw3]; exact bELt
    have hB3 : Blk w3 w9.heap.size 4 (zeros (.bool false) n) := by rw [hw3]; exact Blk.new _ _ _
    clear hw3
    have hbw3 : Below w.heap.size w w3 := Bel.step hbl hb3
    with_reducible refine (HD2.out _ hbw3).mono ?_
    rintro e w4 ⟨d2, rfl, hrd2, _, hdep2, hb4⟩
    have hb34 : Below w9.heap.size w9 w4 := Bel.step hb3 hb4
    have hB4 := hB3.below hb4 hB3.lt
    rw [← fillP_zero isFar d2 n] at hB4
    have HDEP2 := Lib.hid hdep2
    have hl2 := hdep2.len
    have hlt3 := hB3.lt
    clear hB3 hb3 hb4 hdep2 HD2 hbw3
    go_wp2_with fail
    go_loopw [41] (fun i W => Below w9.heap.size w9 W ∧ ∃ k : Nat, k ≤ n ∧ i = .int .i64 k ∧ Blk W w9.heap.size 4 (bools (fillP isFar d2 n k)) ∧ RdI W (some ⟨w3.heap.size, 0, none⟩) n d2) (fun i _ => n - (intOf i).toNat)
    case atStart => exact ⟨hb34, 0, Nat.zero_le _, rfl, hB4, hrd2⟩
    case round =>
     clear hb34 hB4 hrd2
     obtain ⟨hbl2, k, hk, rfl, hB, hrd⟩ := hrel
     by_cases hlt : k < n
     · obtain ⟨b, o, x, e, hx, hc⟩ := hrd.at_ hlt
       cases e
       rw [Nat.zero_add] at hc
       obtain ⟨z, hz⟩ : ∃ z, (fillP isFar d2 n k)[k]? = some z := ⟨_, List.getElem?_eq_getElem (by rw [fillP_len hl2 hk]; exact hlt)⟩
       have c1 := hB.cellB hz
       have c1f := hB.frozen k
       have HN := Lib.hid (hB.setB (fillP_next (p := isFar) hx hlt))
       have HRD := Lib.hid (hrd.grown (grownBy_set wr w9.heap.size k (.bool (isFar x))) (fun e => by injection e with e; simp only at e; omega))
       have hbn : Below w9.heap.size w9 (wr.setCell ⟨w9.heap.size, k, none⟩ (.bool (isFar x))) := hbl2.setCell (Nat.le_refl _) _
       have i1 : (0 : Int) ≤ (k : Int) := by omega
       have i2 : (k : Int) < (n : Int) := by omega
       clear hB hrd hbl2 hx hz
       go_wp2_with fail
       go_roundw
       case rel => exact ⟨hbn, k + 1, by omega, by go_num, HN.out, HRD.out⟩
       case measure => simp [intOf]; omega
     · obtain rfl : n = k := by omega
       rw [fillP_all hl2] at hB
       have hB' := hB.rdB (n := n) (by simp [hl2])
       have HRB1 := Lib.hid (HRB.out.below hbl2)
       have HBB := Lib.hid (Bel.step hbl hbl2)
       have HRB2 := Lib.hid hB'
       clear hB hB' hrd hbl2
       go_wp2_with fail
       go_ret2
       exact ⟨w.heap.size, w9.heap.size, d1, d2, rfl, HRB1.out, HRB2.out, HDEP1.out, HDEP2.out, HBB.out, Nat.le_refl _, hw9s⟩
end Go.Proofs.YtpffhoefmcpniaaGreatDoor

namespace Go.Proofs.YtpffhoefmcpniaaGreatDoor
open Go.RowKit

def setBs (b : List Bool) (l : List Nat) : List Bool := l.foldl (fun b v => b.set v true) b
theorem setBs_len : ∀ (l : List Nat) (b : List Bool), (setBs b l).length = b.length
 | [], _ => rfl
 | v :: l, b => by
  show (setBs (b.set v true) l).length = _
  rw [setBs_len l, List.length_set]
theorem getD_setT (b : List Bool) (v t : Nat) : (b.set v true).getD t false = true ↔ b.getD t false = true ∨ (t = v ∧ t < b.length) := by
 simp only [List.getD_eq_getElem?_getD]
 by_cases h : v = t
 · subst h
   by_cases g : v < b.length
   · rw [List.getElem?_set_self g]; simp [g]
   · rw [List.getElem?_eq_none (by rw [List.length_set]; omega)]
     rw [List.getElem?_eq_none (by omega)]
     simp [g]
 · rw [List.getElem?_set_ne h]
   constructor
   · intro e; exact .inl e
   · rintro (e | ⟨e, _⟩)
     · exact e
     · exact absurd e.symm h
theorem setBs_at : ∀ (l : List Nat) (b : List Bool) (t : Nat), (setBs b l).getD t false = true ↔ b.getD t false = true ∨ (t ∈ l ∧ t < b.length)
 | [], b, t => by simp [setBs]
 | v :: l, b, t => by
  show (setBs (b.set v true) l).getD t false = true ↔ _
  rw [setBs_at l, getD_setT, List.length_set, List.mem_cons]
  constructor
  · rintro ((h | h) | h)
    · exact .inl h
    · exact .inr ⟨.inl h.1, h.2⟩
    · exact .inr ⟨.inr h.1, h.2⟩
  · rintro (h | ⟨h | h, g⟩)
    · exact .inl (.inl h)
    · exact .inl (.inr ⟨h, g⟩)
    · exact .inr ⟨h, g⟩
def mkB (n : Nat) (l : List Nat) : List Bool := setBs (List.replicate n false) l
theorem mkB_len (n : Nat) (l : List Nat) : (mkB n l).length = n := by unfold mkB; rw [setBs_len, List.length_replicate]
theorem mkB_at (n : Nat) (l : List Nat) (t : Nat) : (mkB n l).getD t false = true ↔ t ∈ l ∧ t < n := by
 unfold mkB
 rw [setBs_at, List.length_replicate]
 have : (List.replicate n false).getD t false = false := by
  rw [List.getD_eq_getElem?_getD, List.getElem?_replicate]; split <;> rfl
 rw [this]
 simp
theorem mkB_nil (n : Nat) (l : List Nat) : bools (mkB n (l.take 0)) = zeros (.bool false) n := by simp [mkB, setBs, bools, zeros]
theorem mkB_next {n k v : Nat} {l : List Nat} (h : l[k]? = some v) : (mkB n (l.take k)).set v true = mkB n (l.take (k + 1)) := by
 have hlt := (List.getElem?_eq_some_iff.1 h).1
 have e := (List.getElem?_eq_some_iff.1 h).2
 rw [List.take_succ_eq_append_getElem hlt, e]
 unfold mkB setBs
 rw [List.foldl_append]
 rfl
theorem nats_getE {s : List Nat} {k : Nat} {x : Int} (h : (nats s)[k]? = some x) : ∃ v : Nat, x = v ∧ s[k]? = some v := by
 unfold nats at h
 rw [List.getElem?_map] at h
 cases e : s[k]? with
 | none => rw [e] at h; cases h
 | some v => rw [e] at h; cases h; exact ⟨v, rfl, rfl⟩
theorem nats_mem {s : List Nat} {v : Nat} : (v : Int) ∈ nats s ↔ v ∈ s := by
 unfold nats
 rw [List.mem_map]
 constructor
 · rintro ⟨a, ha, e⟩
   obtain rfl : a = v := by exact Int.ofNat.inj e
   exact ha
 · intro h; exact ⟨v, h, rfl⟩
end Go.Proofs.YtpffhoefmcpniaaGreatDoor
