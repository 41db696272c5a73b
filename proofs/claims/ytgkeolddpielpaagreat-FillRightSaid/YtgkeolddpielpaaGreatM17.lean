/- Parts of the proof: BkP, Le1, Ma, In3. -/
import Derived.Test.YtgkeolddpielpaaGreatM16
import Derived.Laws.EntriesVeiled
namespace Go.Proofs.YtgkeolddpielpaaGreat
open Go.RowKit

def KidOut (N : NetD) (lb : List Int) (a m : Nat) (v : Int) : Prop := ∃ y z, N.ar[a]? = some y ∧ N.ar[m]? = some z ∧ cellOf lb y.1 ≠ cellOf lb y.2.1 ∧ cellOf lb z.1 = cellOf lb y.2.1 ∧ cellOf lb z.2.1 ≠ cellOf lb y.2.1 ∧ EntC N (mkOf lb (cellOf lb y.2.1)) a m v
structure FldB (N : NetD) (l lb : List Int) (c : Nat) (x : GateD) (pl : List Nat) (L : Nat → List Stp) : Prop where
 at_ : ∀ a ∈ pl, InKid N l lb c a
 all : ∀ a, InKid N l lb c a → ∃ p : Nat, pl[p]? = some a
 nd : pl.Nodup
 snd : ∀ (p a : Nat), pl[p]? = some a → ∀ s ∈ L p, ∃ m v, KidOut N lb a m v ∧ v ≠ 1152921504606846976 ∧ ((∃ k : Nat, x.2[k]? = some (m : Int) ∧ s.2.1 = (k : Int) ∧ s.2.2 = v) ∨ ((m : Int) ∉ x.2 ∧ wV N m ≠ 1152921504606846976 ∧ s.2.1 < 0 ∧ pl[s.1]? = some m ∧ s.2.2 = v + wV N m))
 outC : ∀ (p a m : Nat) (v : Int) (k : Nat), pl[p]? = some a → KidOut N lb a m v → v ≠ 1152921504606846976 → x.2[k]? = some (m : Int) → ∃ s ∈ L p, s.2.1 = (k : Int) ∧ s.2.2 = v
 toC : ∀ (p a m : Nat) (v : Int), pl[p]? = some a → KidOut N lb a m v → v ≠ 1152921504606846976 → (m : Int) ∉ x.2 → wV N m ≠ 1152921504606846976 → ∃ s ∈ L p, s.2.1 < 0 ∧ pl[s.1]? = some m ∧ s.2.2 = v + wV N m
section
variable {N : NetD} {l lb : List Int} {c : Nat} {x : GateD} {pl : List Nat} {L : Nat → List Stp}
theorem FldB.fwd (h : FldB N l lb c x pl L) {i s : Nat} (hi : pl[i]? = some s) {p : Nat} {d : Int} (hr : Rch (StF L) i p d) :
 ∃ a, pl[p]? = some a ∧ Rch (fun a m d => StC N lb x a m d ∧ InKid N l lb c a ∧ InKid N l lb c m) s a d := by
 induction hr with
 | start => exact ⟨s, hi, .start⟩
 | @step p q d e _ h2 ih =>
  obtain ⟨a, ha, hr⟩ := ih
  obtain ⟨t, ht, h3, rfl, rfl⟩ := h2
  obtain ⟨m, v, ⟨y, z, hy, hz, k1, k2, k3, k4⟩, h5, h6⟩ := h.snd p a ha t ht
  rcases h6 with ⟨k, _, h6, _⟩ | ⟨h6, h7, _, h8, h9⟩
  · omega
  · rw [(toV_at hz).2.2] at h7 h9
    exact ⟨m, h8, hr.step ⟨⟨v, ⟨y, z, hy, hz, k1, k2, k3, h7, h9, k4⟩, h5, h6⟩, h.at_ a (List.mem_of_getElem? ha), h.at_ m (List.mem_of_getElem? h8)⟩⟩
theorem FldB.bwd (h : FldB N l lb c x pl L) {i s : Nat} (hi : pl[i]? = some s) {a : Nat} {d : Int} (hr : Rch (fun a m d => StC N lb x a m d ∧ InKid N l lb c a ∧ InKid N l lb c m) s a d) :
 ∃ p : Nat, pl[p]? = some a ∧ Rch (StF L) i p d := by
 induction hr with
 | start => exact ⟨i, hi, .start⟩
 | @step a m d e _ h2 ih =>
  obtain ⟨p, ha, hr⟩ := ih
  obtain ⟨⟨v, ⟨y, z, hy, hz, k1, k2, k3, k4, rfl, k5⟩, h5, h6⟩, _, _⟩ := h2
  have hw := (toV_at hz).2.2
  obtain ⟨t, ht, h10, h11, h12⟩ := h.toC p a m v ha ⟨y, z, hy, hz, k1, k2, k3, k5⟩ h5 h6 (by rw [hw]; exact k4)
  exact ⟨t.1, h11, hr.step ⟨t, ht, h10, rfl, by rw [h12, hw]⟩⟩
theorem rchK_end {N : NetD} {l lb : List Int} {c a b : Nat} {d : Int} (hb : InKid N l lb c b) (hr : Rch (StK N l lb c) a b d) : a = b ∧ d = 0 := by
 cases hr with
 | start => exact ⟨rfl, rfl⟩
 | step _ h2 =>
  obtain ⟨y, hy, h3, _⟩ := hb
  obtain ⟨t1, t2, _⟩ := toV_at hy
  have := h2.2
  rw [t1, t2] at this
  exact absurd this h3
theorem FldB.entry (h : FldB N l lb c x pl L) (hok : NetOk N) (hl : l.length = N.vs.length) (hb : lb.length = N.vs.length) (hn : NestOk lb l) (hx : (gateRow N.ar l)[c]? = some x)
 (hE : ∀ a m y z, InKid N l lb c a → N.ar[a]? = some y → N.ar[m]? = some z → cellOf lb z.1 = cellOf lb y.2.1 → cellOf lb z.2.1 ≠ cellOf lb y.2.1 → ∃ v, EntC N (mkOf lb (cellOf lb y.2.1)) a m v)
 {i s k t : Nat} (hi : pl[i]? = some s) (hk : x.2[k]? = some (t : Int)) {v : Int} (hv : Lst (OutC (StF L) (OuF L) i k) v) : EntC N (mkOf l c) s t v := by
 have hs := h.at_ s (List.mem_of_getElem? hi)
 have hinj : ∀ (b k' : Nat), x.2[k']? = some (b : Int) → k' = k → b = t := fun b k' h1 e => by
  subst e
  rw [hk] at h1
  have := Option.some.inj h1
  omega
 have hN := nested hok hl hb hn hx hE (List.mem_of_getElem? hk)
 have h1 : Lst (OutC (fun a m d => StC N lb x a m d ∧ InKid N l lb c a ∧ InKid N l lb c m) (fun a t' d => OuC N lb x a t' d ∧ InKid N l lb c a ∧ t' = t) s t) v := by
  refine hv.conv (fun d hd => ?_) (fun d hd => ?_)
  · obtain ⟨p, d1, d2, h1, ⟨u, hu, h2, h3⟩, rfl⟩ := hd
    obtain ⟨a, ha, hr⟩ := h.fwd hi h1
    obtain ⟨m, v, ⟨y, z, hy, hz, k1, k2, k3, k4⟩, h5, h6⟩ := h.snd p a ha u hu
    rcases h6 with ⟨k', h6, h7, h8⟩ | ⟨_, _, h6, _⟩
    · have hb := hinj m k' h6 (by omega)
      subst hb
      refine ⟨_, ⟨a, d1, v, hr, ⟨⟨⟨y, z, hy, hz, k1, k2, k3, k4⟩, h5, List.mem_of_getElem? hk⟩, h.at_ a (List.mem_of_getElem? ha), rfl⟩, rfl⟩, by omega⟩
    · omega
  · obtain ⟨a, d1, d2, h1, ⟨⟨⟨y, z, hy, hz, k1, k2, k3, k4⟩, h5, h6⟩, _, _⟩, rfl⟩ := hd
    obtain ⟨p, ha, hr⟩ := h.bwd hi h1
    obtain ⟨u, hu, h7, h8⟩ := h.outC p a t d2 k ha ⟨y, z, hy, hz, k1, k2, k3, k4⟩ h5 hk
    exact ⟨_, ⟨p, d1, _, hr, ⟨u, hu, h7, rfl⟩, rfl⟩, by omega⟩
 have h2 := hN.same (fun p q d _ => Classical.em _) hs h1
 refine h2.conv (fun d hd => ?_) (fun d hd => ?_)
 · obtain ⟨p, d1, d2, g1, g2, rfl⟩ := hd
   exact ⟨_, ⟨p, d1, d2, g1, g2.1, rfl⟩, Int.le_refl _⟩
 · obtain ⟨p, d1, d2, g1, g2, rfl⟩ := hd
   exact ⟨_, ⟨p, d1, d2, g1, ⟨g2, rfl⟩, rfl⟩, Int.le_refl _⟩
theorem FldB.bound (h : FldB N l lb c x pl L) (hok : NetOk N) (hl : l.length = N.vs.length) (hb : lb.length = N.vs.length) (hn : NestOk lb l) (hx : (gateRow N.ar l)[c]? = some x)
 (hE : ∀ a m y z, InKid N l lb c a → N.ar[a]? = some y → N.ar[m]? = some z → cellOf lb z.1 = cellOf lb y.2.1 → cellOf lb z.2.1 ≠ cellOf lb y.2.1 → ∃ v, EntC N (mkOf lb (cellOf lb y.2.1)) a m v) (t : Nat) (ht : (t : Int) ∈ x.2)
 {i s : Nat} (hi : pl[i]? = some s) (p : Nat) (d : Int) (hr : Rch (StF L) i p d) : ∃ e, Rch (StF L) i p e ∧ e ≤ MB := by
 have hN := nested hok hl hb hn hx hE ht
 obtain ⟨a, ha, h1⟩ := h.fwd hi hr
 obtain ⟨e, h2, h3⟩ := rchA_bd hok a d (hN.up h1)
 obtain ⟨a', c1, c2, _, g1, g2, g3⟩ := hN.down (fun p q d _ => Classical.em _) (h.at_ s (List.mem_of_getElem? hi)) h2
 obtain ⟨rfl, rfl⟩ := rchK_end (h.at_ a (List.mem_of_getElem? ha)) g2
 obtain ⟨q, hq, h4⟩ := h.bwd hi g1
 have : q = p := (List.getElem?_inj (List.getElem?_eq_some_iff.1 hq).1 h.nd).1 (hq.trans ha.symm)
 subst this
 exact ⟨c1, h4, by omega⟩
theorem FldB.fld (h : FldB N l lb c x pl L) (hok : NetOk N) : FldOk L pl.length x.2.length 70377334112256 := by
 have key : ∀ p, p < pl.length → ∀ s ∈ L p, (s.2.1 < 0 → s.1 < pl.length) ∧ s.2.1 < x.2.length ∧ 0 ≤ s.2.2 ∧ s.2.2 ≤ 70377334112256 := fun p hp s hs => by
  obtain ⟨m, v, ⟨y, z, hy, hz, k1, k2, k3, k4⟩, h5, h6⟩ := h.snd p _ (List.getElem?_eq_getElem hp) s hs
  have hv := (k4.bd hok).resolve_left h5
  rcases h6 with ⟨k, h3, h4, h5⟩ | ⟨h3, h4, h5, h6, h7⟩
  · have hk := (List.getElem?_eq_some_iff.1 h3).1
    exact ⟨fun e => by omega, by omega, by omega, by omega⟩
  · rw [(toV_at hz).2.2] at h4 h7
    have hw := (wOk_bd (hok.arcs z (List.mem_of_getElem? hz)).w).resolve_left h4
    exact ⟨fun _ => (List.getElem?_eq_some_iff.1 h6).1, by omega, by omega, by omega⟩
 exact ⟨fun p hp s hs => (key p hp s hs).1, fun p hp s hs => (key p hp s hs).2.1, fun p hp s hs => (key p hp s hs).2.2⟩
end
end Go.Proofs.YtgkeolddpielpaaGreat

namespace Go.Proofs.YtgkeolddpielpaaGreat
open Go.RowKit

attribute [local go_sem ↓] Go.wp_at_zero Go.wp_at_succ

structure LeW (W0 W : World) (K : Nat → Prop) (cb db gh n : Nat) (cl : List Int) (dn : List Bool) (hp : Nat → Option Int) : Prop where
 kept : Kept K W0 W
 size : W0.heap.size ≤ W.heap.size
 b0 : Blk W cb 2 (ints cl)
 dd : Blk W db 4 (bools dn)
 hh : HeapO W (fun b => K b ∨ b = cb ∨ b = db) gh n hp
 ld : dn.length = n
 kl : ∀ b, K b → b < W0.heap.size
 kb : ¬ K cb ∧ ¬ K db ∧ cb ≠ db
section
variable {W0 W W' : World} {K : Nat → Prop} {cb db gh n : Nat} {cl : List Int} {dn : List Bool} {hp hp' : Nat → Option Int}
theorem LeW.below (h : LeW W0 W K cb db gh n cl dn hp) (hb : Below W.heap.size W W') : LeW W0 W' K cb db gh n cl dn hp :=
 ⟨h.kept.trans (Kept.below hb) h.size, Nat.le_trans h.size hb.size, h.b0.below hb h.b0.lt, h.dd.below hb h.dd.lt, h.hh.more hb (fun b hb' => ⟨Nat.lt_of_lt_of_le (h.hh.lt b hb') hb.size, .inl hb'⟩), h.ld, h.kl, h.kb⟩
theorem LeW.row (h : LeW W0 W K cb db gh n cl dn hp) {i : Nat} {x : Int} {cl' : List Int} (e : cl.set i x = cl') : LeW W0 (W.setCell ⟨cb, i, none⟩ (.int .i64 x)) K cb db gh n cl' dn hp :=
 ⟨h.kept.trans (Kept.set _ _ _ _ h.kb.1) h.size, by simpa [World.setCell] using h.size, h.b0.setI e, h.dd.far_ (fun e => h.kb.2.2 e.symm) _, h.hh.set (.inr (.inl rfl)) _, h.ld, h.kl, h.kb⟩
theorem LeW.mark (h : LeW W0 W K cb db gh n cl dn hp) {p : Nat} : LeW W0 (W.setCell ⟨db, p, none⟩ (.bool true)) K cb db gh n cl (dn.set p true) hp :=
 ⟨h.kept.trans (Kept.set _ _ _ _ h.kb.2.1) h.size, by simpa [World.setCell] using h.size, h.b0.far_ h.kb.2.2 _, h.dd.setB rfl, h.hh.set (.inr (.inr rfl)) _, by rw [List.length_set]; exact h.ld, h.kl, h.kb⟩
theorem LeW.put (h : LeW W0 W K cb db gh n cl dn hp) (hh : HeapO W' (fun b => K b ∨ b = cb ∨ b = db) gh n hp') (ha : Aft (fun b => K b ∨ b = cb ∨ b = db) W W') : LeW W0 W' K cb db gh n cl dn hp' :=
 ⟨h.kept.trans (ha.kept.mono (fun _ hb => .inl hb)) h.size, Nat.le_trans h.size ha.size, (ha.kept cb (.inr (.inl rfl)) h.b0.lt).trans h.b0, (ha.kept db (.inr (.inr rfl)) h.dd.lt).trans h.dd, hh, h.ld, h.kl, h.kb⟩
end
structure LeR (V : World) (c1 c2 c3 c4 cb db gh n off outs cap : Nat) (sum : Int) : Prop where
 r0 : V.cell? ⟨c1, 0, none⟩ = some (.slice (some ⟨cb, off, none⟩) outs cap)
 s0 : V.cell? ⟨c2, 0, none⟩ = some (.int .i64 sum)
 d0 : V.cell? ⟨c3, 0, none⟩ = some (.slice (some ⟨db, 0, none⟩) n n)
 h0 : V.cell? ⟨c4, 0, none⟩ = some (.pointer (some ⟨gh, 0, none⟩))
theorem LeR.le {V W : World} {c1 c2 c3 c4 cb db gh n off outs cap : Nat} {sum : Int} (h : LeR V c1 c2 c3 c4 cb db gh n off outs cap sum) (hl : Le V W) : LeR W c1 c2 c3 c4 cb db gh n off outs cap sum := ⟨hl _ _ h.r0, hl _ _ h.s0, hl _ _ h.d0, hl _ _ h.h0⟩
def mid (pre row post : List Int) : List Int := pre ++ row ++ post
theorem mid_get {pre row post : List Int} {k : Nat} {z : Int} (h : row[k]? = some z) : (mid pre row post)[pre.length + k]? = some z := by
 unfold mid
 have hk := (List.getElem?_eq_some_iff.1 h).1
 rw [List.append_assoc, List.getElem?_append_right (by omega), List.getElem?_append_left (by omega), show pre.length + k - pre.length = k by omega, h]
theorem mid_set {pre row post : List Int} {k : Nat} (z : Int) (h : k < row.length) : (mid pre row post).set (pre.length + k) z = mid pre (row.set k z) post := by
 unfold mid
 rw [List.append_assoc, List.set_append_right _ _ (by omega), List.set_append_left _ _ (by omega), show pre.length + k - pre.length = k by omega, List.append_assoc]
set_option maxHeartbeats 1000000 in
theorem least1_ok (W0 w : World) (K : Nat → Prop) (c1 c2 c3 c4 cb db gh n off outs cap : Nat) (pre row post : List Int) (dn : List Bool) (hp : Nat → Option Int) (sum : Int) (s : Stp)
 (hR : LeR (msk W0 K) c1 c2 c3 c4 cb db gh n off outs cap sum) (hW : LeW W0 w K cb db gh n (mid pre row post) dn hp) (hpre : pre.length = off) (hrow : row.length = outs)
 (ho : s.2.1 < outs) (ht : s.2.1 < 0 → s.1 < n) (h0 : 0 ≤ sum) (h1 : 0 ≤ s.2.2) (h2 : sum + s.2.2 ≤ 1000000000000000000) :
 Calls Tryz.prog 113 #[.agg #[.int .i64 s.1, .int .i64 s.2.1, .int .i64 s.2.2], .pointer (some ⟨c1, 0, none⟩), .pointer (some ⟨c2, 0, none⟩), .pointer (some ⟨c3, 0, none⟩), .pointer (some ⟨c4, 0, none⟩)] w
  fun e w' => e = .returned (.tuple #[]) ∧ LeW W0 w' K cb db gh n (mid pre (stepL dn sum (row, hp) s).1 post) dn (stepL dn sum (row, hp) s).2 ∧ Aft K w w' := by
 obtain ⟨to, out, d⟩ := s
 simp only at ho ht h1 h2 ⊢
 have hRw := hR.le (Le.kept hW.kept)
 have e1 : IntKind.i64.wrap (sum + d) = sum + d := IntWalk.i64_in _ (by omega)
 have HKL := Lib.hid (show ∀ b, K b → b < w.heap.size from fun b hb => by have := hW.kl b hb; have := hW.size; omega)
 by_cases hout : 0 ≤ out
 · obtain ⟨k, rfl⟩ : ∃ k : Nat, out = (k : Int) := ⟨out.toNat, by omega⟩
   have hk : k < row.length := by omega
   obtain ⟨z, hz⟩ : ∃ z, row[k]? = some z := ⟨_, List.getElem?_eq_getElem hk⟩
   have hst : stepL dn sum (row, hp) (to, (k : Int), d) = (row.set k (min z (sum + d)), hp) := by
    unfold stepL
    simp [List.getD_eq_getElem?_getD, hz]
   rw [hst]
   have HST := Lib.hid (mid_set (pre := pre) (post := post) (min z (sum + d)) hk)
   have HMG := Lib.hid (mid_get (pre := pre) (post := post) hz)
   have HW := Lib.hid hW
   have HR := Lib.hid hRw
   rw [hpre] at HST HMG
   clear hst hz hR hW hRw hpre hrow
   go_enter Tryz.func113, Tryz.ntmps113
   go_wp2_with fail
   (refine wp_named ?_; intro w1 hw1)
   have hb1 : Below w.heap.size w w1 := by rw [hw1]; exact bELt
   have hX : Blk w1 w.heap.size 178 #[.int .i64 to, .int .i64 k, .int .i64 d] := by rw [hw1]; exact Blk.new _ _ _
   have HW1 := Lib.hid (HW.out.below hb1)
   have HR1 := Lib.hid (HR.out.le (Le.below hb1))
   have HA1 := Lib.hid (show Aft K w w1 from Aft.below hb1 HKL.out)
   have x1 : w1.cell? ⟨w.heap.size, 1, none⟩ = some (.int .i64 k) := by rw [hX.cell]; rfl
   have x2 : w1.cell? ⟨w.heap.size, 2, none⟩ = some (.int .i64 d) := by rw [hX.cell]; rfl
   have r0 := HR1.out.r0
   have s0 := HR1.out.s0
   have cz := HW1.out.b0.cellI HMG.out
   have cf := HW1.out.b0.frozen (off + k)
   have i1 : (0 : Int) ≤ (k : Int) := by omega
   have i2 : (k : Int) < (outs : Int) := by omega
   clear hw1 hX hb1
   refine wp_region_K 14 (S := fun V => V = w1.drew) (by kernel_rfl) rfl (fun _ => ?_)
   refine tkK 0 9 (h := ⟨_, tv, ?_⟩)
   simp only [pE, List.set]
   refine tkF 1 10 (h := ⟨_, tv, ?_⟩)
   simp only [pE, List.set]
   refine tkK 2 11 (h := ⟨_, tv, ?_⟩)
   simp only [pE, List.set]
   refine tkK 3 12 (h := ⟨_, tv, ?_⟩)
   simp only [pE, List.set]
   refine tkF 4 13 (h := ⟨_, tv, ?_⟩)
   simp only [pE, List.set]
   refine tkK 5 14 (h := ⟨_, tv, ?_⟩)
   simp only [pE, List.set]
   refine tkF 6 15 (h := ⟨_, tv, ?_⟩)
   simp only [pE, List.set]
   refine tkK 7 16 (h := ⟨_, tv, ?_⟩)
   simp only [pE, List.set]
   refine tkK 8 17 (h := ⟨_, tv, ?_⟩)
   simp only [pE, List.set]
   refine tkF 9 18 (h := ⟨_, tv, ?_⟩)
   simp only [pE, List.set]
   refine tkK 10 19 (h := ⟨_, tv, ?_⟩)
   simp only [pE, List.set]
   refine tkF 11 20 (h := ⟨_, tv, ?_⟩)
   simp only [pE, List.set]
   refine tkF 12 21 (h := ⟨_, tv, ?_⟩)
   simp only [pE, List.set]
   refine tkF 13 22 (h := ⟨_, tv, ?_⟩)
   simp only [pE, List.set]
   refine wpAnyK_at (k := 14) (by kernel_rfl) rfl (fun K hK => ?_)
   go_simp
   refine hK.out _ _ ?_
   clear hK K
   refine wpAny_over (by kernel_rfl) ?_ _
   try rw [show (if sum + d < z then sum + d else z) = min z (sum + d) by split <;> omega]
   go_wp2_with fail
   go_end0
   exact ⟨rfl, (HW1.out.row HST.out).below (Below.refl _ _).drew, (HA1.out.set HW1.out.kb.1 _).drew⟩
 · have hst : stepL dn sum (row, hp) (to, out, d) = (row, if dn.getD to false = false then putH hp to (sum + d) else hp) := by
    unfold stepL
    simp only [if_neg hout]
   rw [hst]
   have htn : to < n := ht (by omega)
   have HW := Lib.hid hW
   have HR := Lib.hid hRw
   have htl : to < dn.length := by rw [hW.ld]; exact htn
   have HPU := Lib.hid (fun V (hV : LeW W0 V K cb db gh n (mid pre row post) dn hp) => hpPut_ok V hp hV.hh to htn (sum + d) (by omega) (by omega))
   obtain ⟨m, hm⟩ : ∃ m, dn.getD to false = m := ⟨_, rfl⟩
   have HM := Lib.hid (show dn[to]? = some m from hm ▸ getD_lt false htl)
   rw [hm]
   have c2f := fun ob => Below.cellOf (((Below.refl w.heap.size w)).alloc (Nat.le_refl _) ob) (Nat.le_refl _) hRw.s0
   have c3f := fun ob => Below.cellOf (((Below.refl w.heap.size w)).alloc (Nat.le_refl _) ob) (Nat.le_refl _) hRw.d0
   have c4f := fun ob => Below.cellOf (((Below.refl w.heap.size w)).alloc (Nat.le_refl _) ob) (Nat.le_refl _) hRw.h0
   have cdf := fun ob => Below.cellOf (((Below.refl w.heap.size w)).alloc (Nat.le_refl _) ob) (Nat.le_refl _) (hW.dd.cellB (i := to) HM.out)
   have i1 : (0 : Int) ≤ (to : Int) := by omega
   have i2 : (to : Int) < (n : Int) := by omega
   clear hst hR hW hRw hpre hrow hm ho htl
   cases m with
   | true =>
    go_enter Tryz.func113, Tryz.ntmps113
    go_wp2_with fail
    go_end0
    exact ⟨rfl, HW.out.below bELt, Aft.below bELt HKL.out⟩
   | false =>
    go_enter Tryz.func113, Tryz.ntmps113
    go_wp2_with fail
    (refine calls_named ?_; intro w1 hw1)
    have hb1 : Below w.heap.size w w1 := by rw [hw1]; exact bELt
    clear hw1
    with_reducible refine (HPU.out w1 (HW.out.below hb1)).mono ?_
    rintro e w2 ⟨rfl, hh, ha⟩
    have HW2 := Lib.hid ((HW.out.below hb1).put hh ha)
    have HA2 := Lib.hid ((Aft.below hb1 HKL.out).trans (ha.mono (fun _ hb => .inl hb)))
    clear hh ha hb1
    go_wp2_with fail
    go_end0
    exact ⟨rfl, by simpa using HW2.out, HA2.out⟩
end Go.Proofs.YtgkeolddpielpaaGreat

namespace Go.Proofs.YtgkeolddpielpaaGreat
open Go.RowKit

attribute [local go_sem ↓] Go.wp_at_zero Go.wp_at_succ

theorem run_makeB (n : Nat) (hn : n ≤ 1000000000) (W : World) : (Instr.makeSlice 142 (.int .i64 (n : Int)) (.int .i64 (n : Int))).run Tryz.prog W = .ok (.slice (some ⟨W.heap.size, 0, none⟩) n n) (W.alloc (.cells (zeros (.bool false) n) 4)) :=
 run_make1 (P := Tryz.prog) 142 4 (.bool false) 1 (by kernel_rfl) Tryz.underlying142 rfl n (by omega) (by omega) .i64 .i64 W
set_option maxHeartbeats 1000000 in
theorem rimMarks_ok (Q : Option Addr) (L cq i n : Nat) (c : Int) (ls : List (List Int)) (l l0 : List Int) (w : World) (h : RdT w Q L ls) (hl : ls[i]? = some l) (hL : L ≤ 1000000) (h0 : ls[0]? = some l0) (hn : l.length = n) (hn0 : l0.length = n) (hn4 : n ≤ 1000000) :
 Calls Tryz.prog 79 #[.agg #[.slice Q L cq], .int .i64 ((i : Int) + 1), .int .i64 c] w fun e w' => ∃ b, e = .returned (.slice (some ⟨b, 0, none⟩) n n) ∧ Blk w' b 4 (bools (mkOf l c)) ∧ w.heap.size ≤ b ∧ Below w.heap.size w w' := by
 have hL0 : 0 < L := by rw [← h.1]; exact (List.getElem?_eq_some_iff.1 h0).1
 obtain ⟨qb, qo, A0, n0, c0, l0', hQ, hl0, g0, g1, g2, g3⟩ := h.at_ hL0
 rw [h0] at hl0
 cases hl0
 obtain rfl : n = n0 := by rw [← hn0]; exact g1.1
 have HR := Lib.hid (show ∀ V, Below w.heap.size w V → Calls Tryz.prog 115 #[.agg #[.slice Q L cq], .int .i64 ((i : Int) + 1)] V fun e w' => ∃ A n c, e = .returned (.slice A n c) ∧ RdI V A n l ∧ n ≤ c ∧ c ≤ 9223372036854775807 ∧ Below V.heap.size V w' from fun V hV => row_ok Q L cq i ls l V (h.below hV) hl hL)
 have HG0 := Lib.hid (show ∀ V, Below w.heap.size w V → V.cell? ⟨qb, qo, none⟩ = some (.slice A0 n c0) from fun V hV => Below.cellOf hV (Nat.le_refl _) g0)
 have HN := Lib.hid hn
 have hmk := run_makeB n (by omega)
 subst hQ
 clear h hl h0 hn hn0 g0 g1 g2 g3
 go_enter Tryz.func79, Tryz.ntmps79
 go_wp2_with fail
 (refine calls_named ?_; intro w1 hw1)
 have hb1 : Below w.heap.size w w1 := by rw [hw1]; exact bELt
 have hX1 : Blk w1 w.heap.size 79 #[.slice (some ⟨qb, qo, none⟩) L cq] := by rw [hw1]; exact Blk.new _ _ _
 clear hw1
 with_reducible refine (HR.out w1 hb1).mono ?_
 rintro e w2 ⟨A, n', c', rfl, hr, q1, q2, hb2⟩
 obtain rfl : n = n' := by rw [← hr.1]; exact HN.out.symm
 have hr2 := hr.below hb2
 have hX2 := hX1.below hb2 hX1.lt
 have hbw2 := Bel.step hb1 hb2
 have x0 : w2.cell? ⟨w.heap.size, 0, none⟩ = some (.slice (some ⟨qb, qo, none⟩) L cq) := by rw [hX2.cell]; rfl
 have z0 := HG0.out w2 hbw2
 have i1 : (0 : Int) < (L : Int) := by omega
 have hz2 := hbw2.size
 clear hr hb2 hb1 hX1
 go_wp2_with fail
 (refine wp_named ?_; intro w3 hw3)
 have hb3 : Below w2.heap.size w2 w3 := by rw [hw3]; exact (Below.refl _ _).alloc (Nat.le_refl _) _
 have hd3 : Blk w3 w2.heap.size 4 (bools ((mkOf l c).take 0 ++ List.replicate (n - 0) false)) := by rw [hw3, Nat.sub_zero, List.take_zero, List.nil_append, ← zeros_bool]; exact Blk.new _ _ _
 have HR2 := Lib.hid hr2
 have HB2 := Lib.hid hbw2
 clear hw3 hr2 hbw2 hX2 x0 z0
 go_loopw [28] (fun q W => ∃ i : Nat, q = .int .i64 i ∧ i ≤ n ∧ Below w2.heap.size w2 W ∧ Blk W w2.heap.size 4 (bools ((mkOf l c).take i ++ List.replicate (n - i) false))) (fun q _ => n - (intOf q).toNat)
 case atStart => exact ⟨0, by go_num, Nat.zero_le _, hb3, hd3⟩
 case round =>
  clear hb3 hd3
  obtain ⟨i, rfl, hin, hb, hd⟩ := hrel
  by_cases hlt : i < n
  · obtain ⟨b, o, z, rfl, hz, hc⟩ := (HR2.out.below hb).at_ hlt
    have f0 := hd.frozen i
    have hd' := hd.setB (i := i) (x := z == c) (mkOf_next hz HN.out)
    have hb' : Below w2.heap.size w2 (wr.setCell ⟨w2.heap.size, i, none⟩ (.bool (z == c))) := Bel.setCell_ hb (Nat.le_refl _)
    have hi1 : (0 : Int) ≤ (i : Int) := by omega
    have hi2 : (i : Int) < (n : Int) := by omega
    have HD := Lib.hid hd'
    have HB := Lib.hid hb'
    obtain ⟨v0, hv0⟩ : ∃ v0, ((mkOf l c).take i ++ List.replicate (n - i) false)[i]? = some v0 := ⟨_, List.getElem?_eq_getElem (by rw [List.length_append, List.length_take, mkOf_len, HN.out, List.length_replicate]; omega)⟩
    have c0 := hd.cellB hv0
    clear hv0
    clear hd hb hd' hb' hz
    go_wp2_with fail
    go_roundw
    case rel => exact ⟨i + 1, by go_num, by omega, HB.out, HD.out⟩
    case measure => simp [intOf]; omega
  · obtain rfl : i = n := by omega
    rw [Nat.sub_self, List.take_of_length_le (by rw [mkOf_len, HN.out]; exact Nat.le_refl _), List.replicate_zero, List.append_nil] at hd
    go_wp2_with fail
    go_ret
    exact ⟨_, rfl, hd, hz2, Bel.step HB2.out hb⟩
end Go.Proofs.YtgkeolddpielpaaGreat

namespace Go.Proofs.YtgkeolddpielpaaGreat
open Go.RowKit

attribute [local go_sem ↓] Go.wp_at_zero Go.wp_at_succ

theorem Le.mskBelow {w W : World} {K : Nat → Prop} (h : Below w.heap.size w W) (hK : ∀ b, b < w.heap.size → K b) : Le w (msk W K) := fun _ _ hc => msk_cell.2 ⟨hK _ (lt_of_cell hc), Below.cellOf h (Nat.le_refl _) hc⟩
theorem mskCell {W : World} {K : Nat → Prop} {b o : Nat} {v : Value} (h : W.cell? ⟨b, o, none⟩ = some v) (hK : K b) : (msk W K).cell? ⟨b, o, none⟩ = some v := msk_cell.2 ⟨hK, h⟩
def doneW (db : Nat) (W : World) : Nat := match W.heap[db]? with | some (.cells cs _ _) => cs.toList.countP (fun v => match v with | .bool true => true | _ => false) | _ => 0
theorem doneW_eq {db : Nat} {W : World} {t : TypeId} {dn : List Bool} (h : Blk W db t (bools dn)) : doneW db W = dn.countP (fun b => b) := by
 unfold doneW
 rw [show W.heap[db]? = some (.cells (bools dn) t (0, 0)) from h]
 simp only [bools, List.toList_toArray, List.countP_map]
 congr 1
 funext b
 cases b <;> rfl
theorem count_set : ∀ {l : List Bool} {p : Nat}, p < l.length → l.getD p false = false → (l.set p true).countP (fun b => b) = l.countP (fun b => b) + 1
 | [], p, h, _ => by simp at h
 | b :: l, 0, _, h => by
  have : b = false := by simpa using h
  subst this
  simp
 | b :: l, p + 1, h, h2 => by
  have := count_set (l := l) (p := p) (by simpa using h) (by simpa using h2)
  rw [List.set_cons_succ, List.countP_cons, List.countP_cons, this]
  omega
theorem count_le (l : List Bool) : l.countP (fun b => b) ≤ l.length := List.countP_le_length
theorem InW.mark {W0 W : World} {K : Nat → Prop} {cb db gh na p : Nat} {best : Int} {dn : List Bool} {hp : Nat → Option Int} (h : InW W0 W K cb db gh na best dn hp) : InW W0 (W.setCell ⟨db, p, none⟩ (.bool true)) K cb db gh na best (dn.set p true) hp :=
 ⟨h.kept.trans (Kept.set _ _ _ _ h.kb.2.1) h.size, by simpa [World.setCell] using h.size, h.b0.far_ h.kb.2.2 _, h.dd.setB rfl, h.hh.set (.inr (.inr rfl)) _, by rw [List.length_set]; exact h.ld, h.kl, h.kb⟩
set_option maxHeartbeats 2000000 in
theorem walkInside_ok (w : World) (g s t : Nat) (N : NetD) (A : Option Addr) (n c : Nat) (mk : List Bool) (hg : RdGr w g N) (hok : NetOk N) (hs : s < N.ar.length) (ht : t < N.ar.length) (hm : RdB w A n mk) (hn : n = N.vs.length) :
 Calls Tryz.prog 80 #[.pointer (some ⟨g, 0, none⟩), .int .i64 s, .int .i64 t, .slice A n c] w fun e w' => (∃ v, e = .returned (.int .i64 v) ∧ EntC N mk s t v) ∧ Below w.heap.size w w' := by
 obtain ⟨x, hx⟩ : ∃ x, N.ar[s]? = some x := ⟨_, List.getElem?_eq_getElem hs⟩
 obtain ⟨y, hy⟩ : ∃ y, N.ar[t]? = some y := ⟨_, List.getElem?_eq_getElem ht⟩
 have hx0 := (hok.arcs x (List.mem_of_getElem? hx)).g0
 have hy0 := (hok.arcs y (List.mem_of_getElem? hy)).g0
 have hla := hok.la
 obtain ⟨na, hna⟩ : ∃ na, na = N.ar.length := ⟨_, rfl⟩
 have HNV := Lib.hid hn
 have HNA := Lib.hid hna
 have hmk := run_makeB na (by omega)
 have hna4 : na ≤ 16384 := by omega
 have HGA := Lib.hid (show ∀ V, RdGr V g N → Calls Tryz.prog 68 #[.pointer (some ⟨g, 0, none⟩)] V fun e w' => e = .returned (.int .i64 na) ∧ V = w' from fun V h => by rw [hna]; exact gArcs_any g N V h)
 have HS := Lib.hid hs
 have HT := Lib.hid ht
 have HG := Lib.hid (show RdGr w g N from hg)
 have HM := Lib.hid hm
 have HX := Lib.hid hx
 have HY := Lib.hid hy
 clear hg hm hx hy hn hna hs ht
 go_enter Tryz.func80, Tryz.ntmps80
 go_wp2_with fail
 (refine calls_named ?_; intro w1 hw1)
 have hb1 : Below w.heap.size w w1 := by rw [hw1]; exact bELt
 have hz1 : w1.heap.size = w.heap.size + 3 := by rw [hw1]; simp
 have B4 : Blk w1 w.heap.size 46 #[.pointer (some ⟨g, 0, none⟩)] := by rw [hw1]; exact bLNt
 have B6 : Blk w1 (w.heap.size + 1) 3 #[.int .i64 t] := by rw [hw1]; exact bLNt
 have B7 : Blk w1 (w.heap.size + 1 + 1) 142 #[.slice A n c] := by rw [hw1]; exact bLNt
 have x4 : w1.cell? ⟨w.heap.size, 0, none⟩ = some (.pointer (some ⟨g, 0, none⟩)) := by rw [B4.cell]; rfl
 have x6 : w1.cell? ⟨w.heap.size + 1, 0, none⟩ = some (.int .i64 t) := by rw [B6.cell]; rfl
 clear hw1
 with_reducible refine (gTo_ok g s N x w1 (HG.out.below hb1) HX.out).mono ?_
 rintro e w' ⟨rfl, rfl⟩
 go_wp2_with fail
 with_reducible refine (gTo_ok g t N y w1 (HG.out.below hb1) HY.out).mono ?_
 rintro e w' ⟨rfl, rfl⟩
 have HZ1 := Lib.hid hz1
 clear hz1
 have lt4 := B4.lt
 go_wp2_with fail
 (refine calls_named ?_; intro w2 hw2)
 have hb2 : Below w1.heap.size w1 w2 := by rw [hw2]; exact (((Below.refl _ _).alloc (Nat.le_refl _) _).alloc (by simp) _)
 have B9 : Blk w2 w1.heap.size 108 #[.func (.func 116) #[] #[.pointer (some ⟨w.heap.size + 1 + 1, 0, none⟩)]] := by rw [hw2]; exact bLNt
 have B10 : Blk w2 (w1.heap.size + 1) 2 #[.int .i64 1152921504606846976] := by rw [hw2]; exact bLNt
 have HZ2 := Lib.hid (show w2.heap.size = w1.heap.size + 2 by rw [hw2]; simp)
 have x4' := Below.cellOf hb2 (Nat.le_refl _) x4
 clear hw2
 with_reducible refine (HGA.out w2 (HG.out.below (Bel.step hb1 hb2))).mono ?_
 rintro e w' ⟨rfl, rfl⟩
 go_wp2_with fail
 with_reducible refine (hpNew_ok w2 na hna4).mono ?_
 rintro e w3 ⟨gh, rfl, hh, hb3⟩
 have x4'' := Below.cellOf hb3 (Nat.le_refl _) x4'
 have HH := Lib.hid hh
 have lt43 : w.heap.size < w3.heap.size := by have := hb2.size; have := hb3.size; omega
 clear hh
 go_wp2_with fail
 (refine calls_named ?_; intro w4 hw4)
 have hb4 : Below w3.heap.size w3 w4 := by rw [hw4]; exact (Below.refl _ _).alloc (Nat.le_refl _) _
 have B11 : Blk w4 w3.heap.size 180 #[.pointer (some ⟨gh, 0, none⟩)] := by rw [hw4]; exact bLNt
 have HZ4 := Lib.hid (show w4.heap.size = w3.heap.size + 1 by rw [hw4]; simp)
 have lt44 : w.heap.size < w4.heap.size := by have := HZ4.out; have := hb2.size; have := hb3.size; omega
 have x5 := Below.cellOf hb4 (Nat.le_refl _) x4''
 clear hw4
 with_reducible refine (HGA.out w4 (HG.out.below (Bel.step (Bel.step (Bel.step hb1 hb2) hb3) hb4))).mono ?_
 rintro e w' ⟨rfl, rfl⟩
 go_wp2_with fail
 (refine calls_named ?_; intro w5 hw5)
 have hb5 : Below w4.heap.size w4 w5 := by rw [hw5]; exact (((Below.refl _ _).alloc (Nat.le_refl _) _).alloc (by simp) _)
 have D5 : Blk w5 w4.heap.size 4 (bools (List.replicate na false)) := by rw [hw5, ← zeros_bool]; exact bLNt
 have B12 : Blk w5 (w4.heap.size + 1) 142 #[.slice (some ⟨w4.heap.size, 0, none⟩) na na] := by rw [hw5]; exact bLNt
 have HZ5 := Lib.hid (show w5.heap.size = w4.heap.size + 2 by rw [hw5]; simp)
 clear hw5
 have HB5 := Lib.hid (show Below w.heap.size w w5 from Bel.step (Bel.step (Bel.step (Bel.step hb1 hb2) hb3) hb4) hb5)
 have HSZ := Lib.hid (show w1.heap.size = w.heap.size + 3 ∧ w2.heap.size ≤ w3.heap.size ∧ w2.heap.size = w1.heap.size + 2 ∧ w4.heap.size = w3.heap.size + 1 ∧ w5.heap.size = w4.heap.size + 2 from ⟨HZ1.out, hb3.size, HZ2.out, HZ4.out, HZ5.out⟩)
 have HBB := Lib.hid (show Below w3.heap.size w3 w5 from Bel.step hb4 hb5)
 have HV := Lib.hid (show w5.cell? ⟨w.heap.size, 0, none⟩ = some (.pointer (some ⟨g, 0, none⟩)) ∧ w5.cell? ⟨w.heap.size + 1, 0, none⟩ = some (.int .i64 t) ∧ w5.cell? ⟨w.heap.size + 1 + 1, 0, none⟩ = some (.slice A n c) ∧
  w5.cell? ⟨w1.heap.size, 0, none⟩ = some (.func (.func 116) #[] #[.pointer (some ⟨w.heap.size + 1 + 1, 0, none⟩)]) ∧ Blk w5 (w1.heap.size + 1) 2 #[.int .i64 1152921504606846976] ∧
  w5.cell? ⟨w3.heap.size, 0, none⟩ = some (.pointer (some ⟨gh, 0, none⟩)) ∧ Blk w5 w4.heap.size 4 (bools (List.replicate na false)) ∧ w5.cell? ⟨w4.heap.size + 1, 0, none⟩ = some (.slice (some ⟨w4.heap.size, 0, none⟩) na na) from by
  have b35 := Bel.step hb4 hb5
  have b25 := Bel.step hb3 b35
  have b15 := Bel.step hb2 b25
  refine ⟨Below.cellOf b15 (Nat.le_refl _) x4, Below.cellOf b15 (Nat.le_refl _) x6, Below.cellOf b15 (Nat.le_refl _) (by rw [B7.cell]; rfl), Below.cellOf b25 (Nat.le_refl _) (by rw [B9.cell]; rfl), B10.below b25 B10.lt, Below.cellOf hb5 (Nat.le_refl _) (by rw [B11.cell]; rfl), D5, by rw [B12.cell]; rfl⟩)
 clear hb1 hb2 hb3 hb4 hb5 B4 B6 B7 B9 B10 B11 B12 D5 x4 x6 x4' x4'' x5 lt4 lt43 lt44 hmk
 obtain ⟨K, hKd⟩ : ∃ K : Nat → Prop, K = fun b => (b < w2.heap.size ∨ w3.heap.size ≤ b) ∧ b ≠ w1.heap.size + 1 ∧ b ≠ w4.heap.size ∧ b < w5.heap.size := ⟨_, rfl⟩
 have HK := Lib.hid (show (∀ b, b < w.heap.size + 3 → K b) ∧ K w1.heap.size ∧ K w3.heap.size ∧ K (w4.heap.size + 1) ∧ (∀ b, K b → b < w5.heap.size) ∧ (∀ b, (K b ∨ b = w1.heap.size + 1 ∨ b = w4.heap.size) → b < w5.heap.size ∧ (b < w2.heap.size ∨ w3.heap.size ≤ b)) ∧ ¬ K (w1.heap.size + 1) ∧ ¬ K w4.heap.size ∧ w1.heap.size + 1 ≠ w4.heap.size from by
  have := HSZ.out
  subst hKd
  refine ⟨fun b hb => ?_, ?_, ?_, ?_, fun b hb => ?_, fun b hb => ?_, ?_, ?_, ?_⟩ <;> first | omega | (simp only at *; omega))
 clear hKd
 have HR := Lib.hid (show InR (msk w5 K) g N w.heap.size (w.heap.size + 1) (w4.heap.size + 1) w1.heap.size (w.heap.size + 1 + 1) w3.heap.size gh w4.heap.size t na A n c mk from
  have hk := HK.out
  have hv := HV.out
  have hle : Le w (msk w5 K) := Le.mskBelow HB5.out (fun b hb => hk.1 b (by omega))
  ⟨HG.out.le hle, mskCell hv.1 (hk.1 _ (by omega)), mskCell hv.2.1 (hk.1 _ (by omega)), mskCell hv.2.2.2.2.2.2.2 hk.2.2.2.1, mskCell hv.2.2.2.1 hk.2.1, mskCell hv.2.2.1 (hk.1 _ (by omega)), mskCell hv.2.2.2.2.2.1 hk.2.2.1, HM.out.le hle, HNV.out, HNA.out⟩)
 have HW := Lib.hid (show InW w5 w5 K (w1.heap.size + 1) w4.heap.size gh na 1152921504606846976 (List.replicate na false) (fun _ => none) from
  have hk := HK.out
  have hv := HV.out
  ⟨Kept.refl _ _, Nat.le_refl _, hv.2.2.2.2.1, hv.2.2.2.2.2.2.1, HH.out.more HBB.out hk.2.2.2.2.2.1, by simp, hk.2.2.2.2.1, hk.2.2.2.2.2.2⟩)
 have HST := Lib.hid (fun (W : World) (dn : List Bool) (best : Int) (hp : Nat → Option Int) (hW : InW w5 W K (w1.heap.size + 1) w4.heap.size gh na best dn hp) (a : Nat) (x : Tri) (hx : N.ar[a]? = some x) (z : Int) (hz0 : 0 ≤ z) (hz : z ≤ 500000000000000000) =>
  (show Calls Tryz.prog 117 #[.int .i64 a, .int .i64 z, .pointer (some ⟨w.heap.size, 0, none⟩), .pointer (some ⟨w.heap.size + 1, 0, none⟩), .pointer (some ⟨w1.heap.size + 1, 0, none⟩), .pointer (some ⟨w4.heap.size + 1, 0, none⟩), .pointer (some ⟨w1.heap.size, 0, none⟩), .pointer (some ⟨w3.heap.size, 0, none⟩)] W _
   from inStep_ok w5 W K g N w.heap.size (w.heap.size + 1) (w4.heap.size + 1) w1.heap.size (w.heap.size + 1 + 1) w3.heap.size (w1.heap.size + 1) gh w4.heap.size t na A n c mk dn best hp HR.out hW a x hx z hz0 hz hok))
 with_reducible refine (HST.out w5 _ _ _ HW.out s x HX.out 0 (by omega) (by omega)).mono ?_
 rintro e w6 ⟨rfl, ⟨bs, hbs, hw6⟩, ha6⟩
 have HI6 := Lib.hid (InsI.init (mk := mk) (t := t) hok HNA.out (hp := fun _ => none) (fun _ => rfl) HX.out hbs)
 have HW6 := Lib.hid hw6
 have HA6 := Lib.hid ha6
 clear hw6 ha6 hbs
 go_wp2_with fail
 go_loopw [] (fun W => ∃ (dnf hp : Nat → Option Int) (dn : List Bool) (best : Int), InW w5 W K (w1.heap.size + 1) w4.heap.size gh na best dn hp ∧ InsI N mk s na t dnf hp dn best ∧ Aft K w5 W) (fun W => na - doneW w4.heap.size W)
 case atStart => exact ⟨_, _, _, _, HW6.out, HI6.out, HA6.out⟩
 case round =>
  clear HI6 HW6 HA6
  obtain ⟨dnf, hp, dn, best, hw, hi, ha⟩ := hrel
  have HWr := Lib.hid hw
  have HIr := Lib.hid hi
  have HAr := Lib.hid ha
  have h0 := (HR.out.le (Le.kept hw.kept)).h0
  have HPO := Lib.hid (hpPop_ok wr hp hw.hh)
  clear hw hi ha
  go_wp2_with fail
  with_reducible refine HPO.out.mono ?_
  rintro e w7 ⟨h7, ha7⟩
  have HA7 := Lib.hid (HAr.out.trans (ha7.mono (fun _ hb => .inl hb)))
  have HK7 := Lib.hid ha7
  clear ha7
  rcases h7 with ⟨hno, rfl, hh⟩ | ⟨k, z, hkn, hkz, hmin, rfl, hh⟩
  · have HW7 := Lib.hid (HWr.out.put hh HK7.out)
    have HD := Lib.hid (HIr.out.done hok HNA.out (fun q e he => by rw [hno q] at he; cases he))
    have b0 : w7.cell? ⟨w1.heap.size + 1, 0, none⟩ = some (.int .i64 best) := by rw [HW7.out.b0.cell]; rfl
    clear hno hh
    go_wp2_with fail
    go_ret
    exact ⟨⟨best, rfl, HD.out⟩, HB5.out.trans (HA7.out.bel _ (fun b hb => HK.out.1 b (by omega)))⟩
  · have HW7 := Lib.hid (HWr.out.put hh HK7.out)
    have b0 : w7.cell? ⟨w1.heap.size + 1, 0, none⟩ = some (.int .i64 best) := by rw [HW7.out.b0.cell]; rfl
    have HMI := Lib.hid hmin
    have HKZ := Lib.hid hkz
    clear hh hmin hkz
    by_cases hbz : best ≤ z
    · have HD := Lib.hid (HIr.out.done hok HNA.out (fun q e he => Int.le_trans hbz (HMI.out q e he)))
      go_wp2_with fail
      go_ret
      exact ⟨⟨best, rfl, HD.out⟩, HB5.out.trans (HA7.out.bel _ (fun b hb => HK.out.1 b (by omega)))⟩
    · have hz0 : 0 ≤ z := (HIr.out.dij.hr k z HKZ.out).pos (fun p q d h => ((StN.stA h).bd hok).1)
      have hz1 : z ≤ 500000000000000000 := by have := HIr.out.bd k z HKZ.out; unfold MB at this; omega
      obtain ⟨xk, hxk⟩ : ∃ xk, N.ar[k]? = some xk := ⟨_, List.getElem?_eq_getElem (by rw [← HNA.out]; exact hkn)⟩
      have HXK := Lib.hid hxk
      have hdk : dn.getD k false = false := by
       cases hd : dn.getD k false with
       | false => rfl
       | true =>
        have h1 := (HIr.out.fl k hkn).1 hd
        cases h2 : dnf k with
        | none => exact absurd h2 h1
        | some e => have := HIr.out.dij.off k e h2; rw [HKZ.out] at this; cases this
      have d0 := (HR.out.le (Le.kept HW7.out.kept)).d0
      have hkl : k < dn.length := by rw [HW7.out.ld]; exact hkn
      have dk := HW7.out.dd.cellB (i := k) (getD_lt false hkl)
      have df := HW7.out.dd.frozen k
      have HW8 := Lib.hid (HW7.out.mark (p := k))
      have HA8 := Lib.hid (HA7.out.set (i := k) HK.out.2.2.2.2.2.2.2.1 (.bool true))
      have hkn' : (k : Int) < (na : Int) := by omega
      have hk0 : (0 : Int) ≤ (k : Int) := by omega
      have HDK := Lib.hid hdk
      have HKL := Lib.hid hkl
      have hcmp : decide (best ≤ z) = false := by simp; omega
      clear hxk hdk hkl
      go_wp2_with fail
      (refine calls_named ?_; intro w8 hw8)
      rw [← hw8] at HW8 HA8
      clear hw8
      with_reducible refine (HST.out w8 _ _ _ HW8.out k xk HXK.out z hz0 hz1).mono ?_
      rintro e w9 ⟨rfl, ⟨bs, hbs, hw9⟩, ha9⟩
      have HI9 := Lib.hid (HIr.out.next hok HNA.out hkn HKZ.out HMI.out HXK.out hbs)
      have HW9 := Lib.hid hw9
      have HA9 := Lib.hid (HA8.out.trans ha9)
      clear hw9 ha9 hbs
      go_wp2_with fail
      go_roundw
      case rel => exact ⟨_, _, _, _, HW9.out, HI9.out, HA9.out⟩
      case measure =>
       rw [doneW_eq HW9.out.dd, doneW_eq HWr.out.dd, count_set HKL.out HDK.out]
       have h1 := count_le (dn.set k true)
       rw [count_set HKL.out HDK.out, List.length_set, HWr.out.ld] at h1
       omega
end Go.Proofs.YtgkeolddpielpaaGreat
