/- Parts of the proof: LsP, RfT, Se, Fs. -/
import Derived.Test.YtgkeolddpielpaaGreatM27
/- The document's Place. -/
namespace Go.Proofs.YtgkeolddpielpaaGreat
open Go.RowKit

attribute [local go_sem ↓] Go.wp_at_zero Go.wp_at_succ

set_option maxHeartbeats 400000 in
theorem place_any (A : Option Addr) (n c : Nat) (l : List Int) (v : Int) (w : World) (h : RdI w A n l) (hn : n ≤ 1000000000) :
    Calls Tryz.prog 15 #[.slice A n c, .int .i64 v] w fun e w' => e = .returned (.int .i64 (plI l v)) ∧ w = w' := by
  have HR := Lib.hid h
  have HL := Lib.hid h.1
  clear h
  go_enter Tryz.func15, Tryz.ntmps15
  go_wp2_with fail
  go_loop [5] (fun q => ∃ k : Nat, k ≤ n ∧ q = .int .i64 k ∧ ∀ j x, j < k → l[j]? = some x → x ≠ v) (fun q => n - (intOf q).toNat)
  case atStart => exact ⟨0, Nat.zero_le _, rfl, fun _ _ h => absurd h (Nat.not_lt_zero _)⟩
  case round =>
    obtain ⟨k, hk, rfl, hj⟩ := hrel
    have HJ := Lib.hid hj
    clear hj
    by_cases hlt : k < n
    · obtain ⟨b, o, x, rfl, hx, hc⟩ := HR.out.at_ hlt
      have i1 : (0 : Int) ≤ (k : Int) := by omega
      have i2 : (k : Int) < (n : Int) := by omega
      by_cases e : x = v
      · have HP := Lib.hid (plI_hit (e ▸ hx) HJ.out)
        have e1 : (x == v) = true := by simpa using e
        have e2 : (v == x) = true := by simpa using e.symm
        clear e hx
        go_wp2_with fail
        go_ret
        exact ⟨ret_int HP.out.symm, rfl⟩
      · have e1 : (x == v) = false := by simpa using e
        have e2 : (v == x) = false := by simpa using (fun h : v = x => e h.symm)
        have HX := Lib.hid hx
        have HE := Lib.hid e
        clear e hx
        go_wp2_with fail
        go_round
        case rel => exact ⟨k + 1, by omega, by go_num, fun j y hj hy => by
          by_cases ej : j = k
          · subst ej
            rw [HX.out] at hy
            cases hy
            exact HE.out
          · exact HJ.out j y (by omega) hy⟩
        case measure => simp [intOf]; omega
    · obtain rfl : n = k := by omega
      have HP := Lib.hid (plI_miss (l := l) (v := v) (fun hm => by
        obtain ⟨j, hj⟩ := List.getElem?_of_mem hm
        exact HJ.out j v (by rw [← HL.out]; exact (List.getElem?_eq_some_iff.1 hj).1) hj rfl))
      go_wp2_with fail
      go_ret
      exact ⟨ret_int HP.out.symm, rfl⟩
end Go.Proofs.YtgkeolddpielpaaGreat

/- The document's There, TurnAt, Turn. -/
namespace Go.Proofs.YtgkeolddpielpaaGreat
open Go.RowKit

attribute [local go_sem ↓] Go.wp_at_zero Go.wp_at_succ

theorem refThere_ok (A B C : Option Addr) (n m k c d e : Nat) (a : Int) (w : World) (h0 : 0 ≤ a) (h1 : a < m) :
    Calls Tryz.prog 57 #[.agg #[.slice A n c, .slice B m d, .slice C k e], .int .i64 a] w fun r w' => r = .returned (.bool true) ∧ Below w.heap.size w w' := by
  go_enter Tryz.func57, Tryz.ntmps57
  go_wp2
  go_ret
  exact ⟨ret_bool (by first | (simp; done) | (simp; omega)), bELt⟩
theorem idx_at {f : Tri → Int} {l : List Tri} {k : Nat} {y : Tri} (h : l[k]? = some y) : ∀ j, k < j → j ≤ l.length → (idx f (l.take j) (f y))[(idx f (l.take k) (f y)).length]? = some (k : Int) := by
  intro j
  induction j with
  | zero => intro h1; omega
  | succ j ih =>
    intro h1 h2
    obtain ⟨z, hz⟩ : ∃ z, l[j]? = some z := ⟨_, List.getElem?_eq_getElem (by omega)⟩
    rw [idx_take hz]
    by_cases e : k = j
    · subst e
      rw [h] at hz
      cases hz
      rw [List.getElem?_append_right (Nat.le_refl _), Nat.sub_self]
      simp
    · have := ih (by omega) (by omega)
      rw [List.getElem?_append_left (List.getElem?_eq_some_iff.1 this).1]
      exact this
theorem plI_idx {f : Tri → Int} {l : List Tri} {k : Nat} {y : Tri} (h : l[k]? = some y) : plI (idx f l (f y)) (k : Int) = ((idx f (l.take k) (f y)).length : Nat) := by
  have hk := (List.getElem?_eq_some_iff.1 h).1
  have h1 := idx_at (f := f) h l.length hk (Nat.le_refl _)
  rw [List.take_length] at h1
  refine plI_hit h1 (fun j x hj hx => ?_)
  have hs := idx_sorted f (f y) l
  rw [List.pairwise_iff_getElem] at hs
  obtain ⟨p1, e1⟩ := List.getElem?_eq_some_iff.1 hx
  obtain ⟨p2, e2⟩ := List.getElem?_eq_some_iff.1 h1
  have := hs j _ p1 p2 hj
  omega
set_option maxHeartbeats 1000000 in
theorem refTurnAt_ok (A : Option Addr) (n c : Nat) (t : TabD) (i o : Nat) (w : World) (h : RdI w A n t.costs) (ht : TabOk t) (hi : (i : Int) < t.ins) (ho : (o : Int) < t.outs) :
    Calls Tryz.prog 58 #[.agg #[.int .i64 t.ins, .int .i64 t.outs, .slice A n c], .int .i64 i, .int .i64 o] w fun e w' => ∃ x, t.costs[i * t.outs.toNat + o]? = some x ∧ e = .returned (.int .i64 x) ∧ Below w.heap.size w w' := by
  obtain ⟨p, q, cs⟩ := t
  simp only at h hi ho ⊢
  have i0 : 0 ≤ p := ht.i0
  have i16 : p ≤ 16 := ht.i16
  have o0 : 0 ≤ q := ht.o0
  have o16 : q ≤ 16 := ht.o16
  have hm := mul_bd i0 i16 o0 o16
  have hl : (cs.length : Int) = p * q := ht.len
  have hk : (i : Int) * q + o < p * q := by
    have h1 : ((i : Int) + 1) * q ≤ p * q := Int.mul_le_mul_of_nonneg_right (by omega) o0
    rw [Int.add_mul, Int.one_mul] at h1
    omega
  have hk0 : 0 ≤ (i : Int) * q := Int.mul_nonneg (by omega) o0
  obtain ⟨k, hkk⟩ : ∃ k : Nat, (k : Int) = (i : Int) * q + o := ⟨((i : Int) * q + o).toNat, by omega⟩
  have hke : i * q.toNat + o = k := by
    have : ((i * q.toNat + o : Nat) : Int) = (k : Int) := by
      rw [hkk]
      push_cast
      rw [Int.toNat_of_nonneg o0]
    exact_mod_cast this
  rw [hke]
  have hkl : k < n := by rw [← h.1]; omega
  obtain ⟨b, oo, x, hA, hx, hc⟩ := h.at_ hkl
  subst hA
  have e1 : IntKind.i64.wrap ((i : Int) * q) = (i : Int) * q := IntWalk.i64_in _ (by omega)
  have e2 : IntKind.i64.wrap ((i : Int) * q + o) = (k : Int) := by rw [← hkk]; exact IntWalk.i64_in _ (by omega)
  have i1 : ((k : Int)) < (n : Int) := by omega
  have i2 : ¬ (p ≤ (i : Int)) := by omega
  have i3 : ¬ (q ≤ (o : Int)) := by omega
  have i4 : ¬ ((i : Int) < 0) := by omega
  have i5 : ¬ ((o : Int) < 0) := by omega
  have HX := Lib.hid hx
  have hb := lt_of_cell hc
  simp only at hb
  clear hx hk hm hl hkk hke h ht
  go_enter Tryz.func58, Tryz.ntmps58
  go_wp2_with fail
  go_ret
  exact ⟨x, HX.out, rfl, bELt⟩
set_option maxHeartbeats 2000000 in
theorem refTurn_ok (A B C : Option Addr) (n m k c d e : Nat) (N : NetD) (a b : Nat) (x y : Tri) (w : World) (h : RdNet w A B C n m k N) (hok : NetOk N) (hx : N.ar[a]? = some x) (hy : N.ar[b]? = some y) :
    Calls Tryz.prog 29 #[.agg #[.slice A n c, .slice B m d, .slice C k e], .int .i64 a, .int .i64 b] w fun r w' => r = .returned (.int .i64 (turnN N a b)) ∧ Below w.heap.size w w' := by
  have HH := Lib.hid h
  have hm : m ≤ 16384 := by rw [← h.2.1.1]; exact hok.la
  have hlm : N.ar.length = m := h.2.1.1
  have hln : N.vs.length = n := h.1.1
  have hn4 := hok.lv
  have hla := (List.getElem?_eq_some_iff.1 hx).1
  have hlb := (List.getElem?_eq_some_iff.1 hy).1
  have hax := hok.arcs x (List.mem_of_getElem? hx)
  obtain ⟨bb, o, x1, x2, x3, rfl, hx', ax, ay, az⟩ := h.2.1.at_ (i := a) (by omega)
  rw [hx] at hx'
  cases hx'
  obtain ⟨bb', o', y1, y2, y3, e', hy', bx, by_, bz⟩ := h.2.1.at_ (i := b) (by omega)
  cases e'
  rw [hy] at hy'
  cases hy'
  have i1 : (0 : Int) ≤ (a : Int) := by omega
  have i2 : (a : Int) < (m : Int) := by omega
  have i3 : (0 : Int) ≤ (b : Int) := by omega
  have i4 : (b : Int) < (m : Int) := by omega
  obtain ⟨v, rfl⟩ : ∃ v : Nat, x2 = (v : Int) := ⟨x2.toNat, by have := hax.g0; simp only at this; omega⟩
  have hvn : v < n := by have := hax.g1; simp only at this; omega
  obtain ⟨b2, o2, v1, v2, v3, hA2, hv, vx, vy, vz⟩ := h.1.at_ (i := v) hvn
  subst hA2
  have hvo := hok.verts _ (List.mem_of_getElem? hv)
  obtain ⟨t, rfl⟩ : ∃ t : Nat, v3 = (t : Int) := ⟨v3.toNat, by have := hvo.t0; simp only at this; omega⟩
  have htl : N.ts.length = k := h.2.2.1
  have htk : t < k := by have := hvo.t1; simp only at this; omega
  obtain ⟨b3, o3, tb, hA3, htb, t0, t1, AT, nT, cT, t2, hrd, hnT, hcT⟩ := h.2.2.at_ htk
  subst hA3
  have hto := hok.tabs tb (List.mem_of_getElem? htb)
  have hk := hok.lt
  have hmt := hok.meet v _ tb hv (by simpa using htb)
  obtain ⟨i, hi⟩ : ∃ i : Nat, i = (idx (·.2.1) (N.ar.take a) (v : Int)).length := ⟨_, rfl⟩
  have hip : (i : Int) < tb.ins := by rw [← hmt.1, hi]; exact_mod_cast place_lt (f := (·.2.1)) hx rfl
  obtain ⟨q, hq⟩ : ∃ q : Nat, q = (idx (·.1) (N.ar.take b) y1).length := ⟨_, rfl⟩
  have hqp : y1 = (v : Int) → (q : Int) < tb.outs := fun e => by rw [← hmt.2, hq, e]; exact_mod_cast place_lt (f := (·.1)) hy e
  have hpi : plI (idx (·.2.1) N.ar (v : Int)) (a : Int) = (i : Int) := by rw [hi]; exact plI_idx (f := (·.2.1)) hx
  have hpq : y1 = (v : Int) → plI (idx (·.1) N.ar (v : Int)) (b : Int) = (q : Int) := fun e => by rw [hq, ← e]; exact plI_idx (f := (·.1)) hy
  have HTN := Lib.hid (show ∀ z, y1 = (v : Int) → tb.costs[i * tb.outs.toNat + q]? = some z → turnN N a b = z from fun z e hz => by
    unfold turnN
    rw [hx, hy]
    simp only [if_pos e.symm, Int.toNat_natCast, hv, htb, plcOf, ← hi, ← hq]
    rw [List.getD_eq_getElem?_getD, hz]
    rfl)
  have i5 : (0 : Int) ≤ (v : Int) := by omega
  have i6 : (v : Int) < (n : Int) := by omega
  have i7 : (0 : Int) ≤ (t : Int) := by omega
  have i8 : (t : Int) < (k : Int) := by omega
  have hil : (idx (·.2.1) N.ar (v : Int)).length ≤ 16384 := by have := idx_bd (·.2.1) N.ar N.ar.length (v : Int); rw [List.take_length] at this; omega
  have hol : (idx (·.1) N.ar (v : Int)).length ≤ 16384 := by have := idx_bd (·.1) N.ar N.ar.length (v : Int); rw [List.take_length] at this; omega
  have HTA := Lib.hid (fun V (hV : Below w.heap.size w V) (e : y1 = (v : Int)) => refTurnAt_ok AT nT cT tb i q V (hrd.below hV) hto hip (hqp e))
  have HIN := Lib.hid (fun V (hV : Below w.heap.size w V) => refIns_any _ _ _ n m k c d e N (v : Int) V (HH.out.below hV) hm)
  have HOU := Lib.hid (fun V (hV : Below w.heap.size w V) => refOuts_any _ _ _ n m k c d e N (v : Int) V (HH.out.below hV) hm)
  have HPI := Lib.hid hpi
  have HPQ := Lib.hid hpq
  have HIL := Lib.hid hil
  have HOL := Lib.hid hol
  have HMM := Lib.hid (show (v : Int) ≠ y1 → turnN N a b = 1152921504606846976 from fun hne => by
    unfold turnN
    rw [hx, hy]
    simp only [if_neg hne])
  have HY := Lib.hid (show ∀ V, Below w.heap.size w V → V.cell? ⟨bb, o + a * 3 + 1, none⟩ = some (.int .i64 (v : Int)) ∧ V.cell? ⟨bb, o + b * 3, none⟩ = some (.int .i64 y1) ∧
      V.cell? ⟨b2, o2 + v * 3 + 2, none⟩ = some (.int .i64 t) ∧
      V.cell? ⟨b3, o3 + t * 3, none⟩ = some (.int .i64 tb.ins) ∧ V.cell? ⟨b3, o3 + t * 3 + 1, none⟩ = some (.int .i64 tb.outs) ∧ V.cell? ⟨b3, o3 + t * 3 + 2, none⟩ = some (.slice AT nT cT) from
    fun V hV => ⟨Below.cellOf hV (Nat.le_refl _) ay, Below.cellOf hV (Nat.le_refl _) bx, Below.cellOf hV (Nat.le_refl _) vz, Below.cellOf hV (Nat.le_refl _) t0, Below.cellOf hV (Nat.le_refl _) t1, Below.cellOf hV (Nat.le_refl _) t2⟩)
  clear vx vy vz t0 t1 t2 hrd hip hqp hmt hv htb hi hq hpi hpq hil hol hto hvo hax hok hnT hcT
  clear h ax ay az bx by_ bz hx hy
  go_enter Tryz.func29, Tryz.ntmps29
  go_wp2_with fail
  (refine wp_named ?_; intro w1 hw1)
  have hb1 : Below w.heap.size w w1 := by rw [hw1]; exact bELt
  have hX : Blk w1 w.heap.size 26 #[.slice (some ⟨b2, o2, none⟩) n c, .slice (some ⟨bb, o, none⟩) m d, .slice (some ⟨b3, o3, none⟩) k e] := by rw [hw1]; exact Blk.new _ _ _
  clear hw1
  have HSX := Lib.hid (show ∀ V, Below w1.heap.size w1 V → V.cell? ⟨w.heap.size, 0, none⟩ = some (.slice (some ⟨b2, o2, none⟩) n c) ∧ V.cell? ⟨w.heap.size, 1, none⟩ = some (.slice (some ⟨bb, o, none⟩) m d) ∧ V.cell? ⟨w.heap.size, 2, none⟩ = some (.slice (some ⟨b3, o3, none⟩) k e) ∧ _ from
    fun V hV => ⟨by rw [(hX.below hV hX.lt).cell]; rfl, by rw [(hX.below hV hX.lt).cell]; rfl, by rw [(hX.below hV hX.lt).cell]; rfl, HY.out V (Bel.step hb1 hV)⟩)
  clear HY hX
  refine wp_region_held_drew (S := fun V => Below w1.heap.size w1 V) (by kernel_rfl) (Below.refl _ _).drew (fun _ => ?_)
  refine tk 0 8 (h := ⟨_, tv, ?_⟩)
  simp only [pE, List.set]
  refine tk 1 9 (h := ⟨_, tv, ?_⟩)
  simp only [pE, List.set]
  refine wpAnyH_ready (rs := [2]) (by kernel_rfl) (by simp) ?_
  refine AllReadyH.cons (o := _) rfl (fun K hK => ?_) AllReadyH.nil
  go_simp
  with_reducible refine (refThere_ok _ _ _ n m k c d e (a : Int) _ i1 i2).mono ?_
  rintro r w2 ⟨rfl, hb2⟩
  have hb2' : Below w1.heap.size w1 w2 := (Below.refl _ _).drew.trans hb2
  clear hb2
  go_simp
  refine hK.out _ _ hb2' (fun _ => ?_)
  clear hK K
  refine tk 3 11 (h := ⟨_, tv, ?_⟩)
  simp only [pE, List.set]
  refine tk 4 12 (h := ⟨_, tv, ?_⟩)
  simp only [pE, List.set]
  refine tk 5 13 (h := ⟨_, tv, ?_⟩)
  simp only [pE, List.set]
  refine tk 6 14 (h := ⟨_, tv, ?_⟩)
  simp only [pE, List.set]
  refine wpAnyH_ready (rs := [7]) (by kernel_rfl) (by simp) ?_
  refine AllReadyH.cons (o := _) rfl (fun K hK => ?_) AllReadyH.nil
  go_simp
  with_reducible refine (refThere_ok _ _ _ n m k c d e (b : Int) _ i3 i4).mono ?_
  rintro r w3 ⟨rfl, hb3⟩
  have hb3' := Bel.step hb2' hb3
  clear hb2' hb3
  go_simp
  refine hK.out _ _ hb3' (fun _ => ?_)
  clear hK K
  refine tk 8 16 (h := ⟨_, tv, ?_⟩)
  simp only [pE, List.set]
  refine tk 9 17 (h := ⟨_, tv, ?_⟩)
  simp only [pE, List.set]
  refine tk 10 18 (h := ⟨_, tv, ?_⟩)
  simp only [pE, List.set]
  refine tk 11 19 (h := ⟨_, tv, ?_⟩)
  simp only [pE, List.set]
  refine tk 12 20 (h := ⟨_, tv, ?_⟩)
  simp only [pE, List.set]
  refine tk 13 21 (h := ⟨_, tv, ?_⟩)
  simp only [pE, List.set]
  refine tk 14 22 (h := ⟨_, tv, ?_⟩)
  simp only [pE, List.set]
  refine tk 15 23 (h := ⟨_, tv, ?_⟩)
  simp only [pE, List.set]
  refine tk 16 24 (h := ⟨_, tv, ?_⟩)
  simp only [pE, List.set]
  refine tk 17 25 (h := ⟨_, tv, ?_⟩)
  simp only [pE, List.set]
  refine tk 18 26 (h := ⟨_, tv, ?_⟩)
  simp only [pE, List.set]
  refine tk 19 27 (h := ⟨_, tv, ?_⟩)
  simp only [pE, List.set]
  refine tk 20 28 (h := ⟨_, tv, ?_⟩)
  simp only [pE, List.set]
  refine tk 21 29 (h := ⟨_, tv, ?_⟩)
  simp only [pE, List.set]
  refine tk 22 30 (h := ⟨_, tv, ?_⟩)
  simp only [pE, List.set]
  refine tk 23 31 (h := ⟨_, tv, ?_⟩)
  simp only [pE, List.set]
  refine tk 24 32 (h := ⟨_, tv, ?_⟩)
  simp only [pE, List.set]
  refine wpAnyH_done (by kernel_rfl) ?_ _
  by_cases hxy : (v : Int) = y1
  rotate_left
  · have e1 : ((v : Int) != y1) = true := by simp [hxy]
    have HE := Lib.hid (HMM.out hxy)
    clear hxy
    go_wp2_with fail
    go_ret
    rw [HE.out]
    exact ⟨rfl, Bel.step hb1 hb3'⟩
  have e1 : ((v : Int) != y1) = false := by simp [hxy]
  subst hxy
  have HSXO := HSX
  have hc := HSX.out w3 hb3'
  go_split_ands
  clear HSX
  have HSX := HSXO
  clear HSXO
  go_wp2_with fail
  refine wp_region_held_drew (S := fun V => Below w1.heap.size w1 V) (by kernel_rfl) hb3'.drew (fun _ => ?_)
  refine tk 0 39 (h := ⟨_, tv, ?_⟩)
  simp only [pE, List.set]
  refine tk 1 40 (h := ⟨_, tv, ?_⟩)
  simp only [pE, List.set]
  refine tk 2 41 (h := ⟨_, tv, ?_⟩)
  simp only [pE, List.set]
  refine tk 3 42 (h := ⟨_, tv, ?_⟩)
  simp only [pE, List.set]
  refine tk 4 43 (h := ⟨_, tv, ?_⟩)
  simp only [pE, List.set]
  refine tk 5 44 (h := ⟨_, tv, ?_⟩)
  simp only [pE, List.set]
  refine tk 6 45 (h := ⟨_, tv, ?_⟩)
  simp only [pE, List.set]
  refine tk 7 46 (h := ⟨_, tv, ?_⟩)
  simp only [pE, List.set]
  refine tk 8 47 (h := ⟨_, tv, ?_⟩)
  simp only [pE, List.set]
  refine tk 9 48 (h := ⟨_, tv, ?_⟩)
  simp only [pE, List.set]
  refine tk 10 49 (h := ⟨_, tv, ?_⟩)
  simp only [pE, List.set]
  refine tk 11 50 (h := ⟨_, tv, ?_⟩)
  simp only [pE, List.set]
  refine tk 13 52 (h := ⟨_, tv, ?_⟩)
  simp only [pE, List.set]
  refine tk 15 54 (h := ⟨_, tv, ?_⟩)
  simp only [pE, List.set]
  refine tk 16 55 (h := ⟨_, tv, ?_⟩)
  simp only [pE, List.set]
  refine tk 18 57 (h := ⟨_, tv, ?_⟩)
  simp only [pE, List.set]
  refine wpAnyH_ready (rs := [12]) (by kernel_rfl) (by simp) ?_
  refine AllReadyH.cons (o := _) rfl (fun K hK => ?_) AllReadyH.nil
  go_simp
  with_reducible refine (HIN.out _ (Bel.step hb1 hb3'.drew)).mono ?_
  rintro r w4 ⟨A4, n4, c4, rfl, h4, hb4⟩
  have hb4' : Below w1.heap.size w1 w4 := Bel.step hb3'.drew hb4
  have H4 := Lib.hid h4
  have hn4l : n4 ≤ 1000000000 := by have := HIL.out; have := h4.1; omega
  clear h4 hb4
  go_simp
  refine hK.out _ _ hb4' (fun _ => ?_)
  clear hK K
  refine wpAnyH_ready (rs := [14]) (by kernel_rfl) (by simp) ?_
  refine AllReadyH.cons (o := _) rfl (fun K hK => ?_) AllReadyH.nil
  go_simp
  with_reducible refine (place_any A4 n4 c4 _ (a : Int) w4 H4.out hn4l).mono ?_
  rintro r w' ⟨rfl, rfl⟩
  rw [HPI.out]
  go_simp
  refine hK.out _ _ hb4' (fun _ => ?_)
  clear hK K
  refine wpAnyH_ready (rs := [17]) (by kernel_rfl) (by simp) ?_
  refine AllReadyH.cons (o := _) rfl (fun K hK => ?_) AllReadyH.nil
  go_simp
  with_reducible refine (HOU.out _ (Bel.step hb1 hb4')).mono ?_
  rintro r w5 ⟨A5, n5, c5, rfl, h5, hb5⟩
  have hb5' : Below w1.heap.size w1 w5 := Bel.step hb4' hb5
  have H5 := Lib.hid h5
  have hn5l : n5 ≤ 1000000000 := by have := HOL.out; have := h5.1; omega
  clear h5 hb5
  go_simp
  refine hK.out _ _ hb5' (fun _ => ?_)
  clear hK K
  refine wpAnyH_ready (rs := [19]) (by kernel_rfl) (by simp) ?_
  refine AllReadyH.cons (o := _) rfl (fun K hK => ?_) AllReadyH.nil
  go_simp
  with_reducible refine (place_any A5 n5 c5 _ (b : Int) w5 H5.out hn5l).mono ?_
  rintro r w' ⟨rfl, rfl⟩
  rw [HPQ.out trivial]
  go_simp
  refine hK.out _ _ hb5' (fun _ => ?_)
  clear hK K
  refine wpAnyH_ready (rs := [20]) (by kernel_rfl) (by simp) ?_
  refine AllReadyH.cons (o := _) rfl (fun K hK => ?_) AllReadyH.nil
  go_simp
  with_reducible refine (HTA.out _ (Bel.step hb1 hb5') trivial).mono ?_
  rintro r w6 ⟨z, hz, rfl, hb6⟩
  have hb6' : Below w1.heap.size w1 w6 := Bel.step hb5' hb6
  have HZ := Lib.hid (HTN.out z trivial hz)
  clear hz hb6
  go_simp
  refine hK.out _ _ hb6' (fun _ => ?_)
  clear hK K
  refine tk 21 6 (h := ⟨_, tv, ?_⟩)
  simp only [pE, List.set]
  refine wpAnyH_done (by kernel_rfl) ?_ _
  go_wp2_with fail
  go_ret
  rw [HZ.out]
  exact ⟨rfl, Bel.step hb1 hb6'⟩
end Go.Proofs.YtgkeolddpielpaaGreat

/- graph.Set: a weight that is set. -/
namespace Go.Proofs.YtgkeolddpielpaaGreat
open Go.RowKit

attribute [local go_sem ↓] Go.wp_at_zero Go.wp_at_succ

/-! a weight that is set -/
theorem Rd3.setW {W : World} {b o m a : Nat} {x y z u : Int} {l : List Tri} (h : Rd3 W (some ⟨b, o, none⟩) m l) (ha : l[a]? = some (x, y, z)) :
    Rd3 (W.setCell ⟨b, o + a * 3 + 2, none⟩ (.int .i64 u)) (some ⟨b, o, none⟩) m (l.set a (x, y, u)) := by
  refine ⟨by rw [List.length_set]; exact h.1, fun i p hp => ?_⟩
  by_cases e : a = i
  · subst e
    rw [List.getElem?_set_self (List.getElem?_eq_some_iff.1 ha).1] at hp
    cases hp
    obtain ⟨b', o', e', h1, h2, h3⟩ := h.2 a _ ha
    cases e'
    refine ⟨b, o, rfl, ?_, ?_, World.cell?_setCell_same _ _ _ h3⟩
    · rw [World.cell?_setCell_other _ _ _ _ (by intro h; simp only [Addr.mk.injEq] at h; omega)]; exact h1
    · rw [World.cell?_setCell_other _ _ _ _ (by intro h; simp only [Addr.mk.injEq] at h; omega)]; exact h2
  · rw [List.getElem?_set_ne e] at hp
    obtain ⟨b', o', e', h1, h2, h3⟩ := h.2 i _ hp
    cases e'
    refine ⟨b, o, rfl, ?_, ?_, ?_⟩
    · rw [World.cell?_setCell_other _ _ _ _ (by intro h; simp only [Addr.mk.injEq] at h; omega)]; exact h1
    · rw [World.cell?_setCell_other _ _ _ _ (by intro h; simp only [Addr.mk.injEq] at h; omega)]; exact h2
    · rw [World.cell?_setCell_other _ _ _ _ (by intro h; simp only [Addr.mk.injEq] at h; omega)]; exact h3
theorem Warm.set {W : World} {A : Option Addr} (h : Warm W A) (p : Addr) (v : Value) : Warm (W.setCell p v) A := fun b hb =>
  ⟨Nat.lt_of_lt_of_le (h b hb).1 (by simp [World.setCell]), fun o => by rw [World.frozen?_setCell]; exact (h b hb).2 o⟩
theorem GrR.setW {W : World} {F G : Nat → Prop} {g b o : Nat} {A C I O P : Option Addr} {n m k c d e ci co cp : Nat} {N : NetD} {a : Nat} {x y z u : Int}
    (h : GrR W F G g A (some ⟨b, o, none⟩) C I O P n m k c d e ci co cp N) (ha : N.ar[a]? = some (x, y, z)) (hu : wOk u = true) :
    GrR (W.setCell ⟨b, o + a * 3 + 2, none⟩ (.int .i64 u)) F G g A (some ⟨b, o, none⟩) C I O P n m k c d e ci co cp (N.setW a x y u) := by
  have hk : Kept G W (W.setCell ⟨b, o + a * 3 + 2, none⟩ (.int .i64 u)) := Kept.set W b _ _ (h.net.ga b rfl)
  have hA := alike_set ha u
  have hz : (W.setCell ⟨b, o + a * 3 + 2, none⟩ (.int .i64 u)).heap.size = W.heap.size := by simp [World.setCell]
  refine ⟨⟨h.net.vs.le hk.msk, h.net.ar.setW ha, h.net.ts.le (fun c' o' v hc' hc => ?_) hk.msk, h.net.wa.set _ _, h.net.wt.set _ _, h.net.ga, h.net.gt, h.net.ac⟩, (hk g h.gg h.blk.lt).trans h.blk, h.gg, ?_, ?_, ?_, h.sub, fun b' hb' => by rw [hz]; exact h.lt b' hb', h.ok.setW ha hu, h.c0, h.c1, h.c2⟩
  · have : b ≠ c' := fun e => h.net.ac b rfl (by rw [e]; exact hc')
    rw [World.cell?_setCell_other _ _ _ _ (by intro h; simp only [Addr.mk.injEq] at h; omega)]; exact hc
  · show RdT _ I n (idxs (·.2.1) (N.ar.set a (x, y, u)) n)
    rw [idxs_congr hA.2]
    exact h.ins.le hk.msk
  · show RdT _ O n (idxs (·.1) (N.ar.set a (x, y, u)) n)
    rw [idxs_congr hA.1]
    exact h.outs.le hk.msk
  · show RdP _ P m (plcs (N.ar.set a (x, y, u)))
    rw [plcs_congr hA]
    exact h.plc.le hk.msk
theorem below_set {B : Nat} {W : World} {p : Addr} (h : B ≤ p.block) (v : Value) : Below B W (W.setCell p v) := (Below.refl _ _).setCell h v

set_option maxHeartbeats 1000000 in
theorem gSet_ok (g a : Nat) (x y z u : Int) (N : NetD) (F : Nat → Prop) (w : World) (h : GrO w F g N) (ha : N.ar[a]? = some (x, y, z)) (hu : wOk u = true) :
    Calls Tryz.prog 26 #[.pointer (some ⟨g, 0, none⟩), .int .i64 a, .int .i64 u] w fun e w' => e = .returned .nilIface ∧ GrO w' F g (N.setW a x y u) ∧ Kept (fun b => ¬ F b) w w' ∧ w.heap.size ≤ w'.heap.size ∧ ∀ B, (∀ b, F b → B ≤ b) → Below B w w' := by
  have hla := (List.getElem?_eq_some_iff.1 ha).1
  have HA := Lib.hid (gArc_ok g N a w h.rd (by omega) (by omega))
  have HW := Lib.hid (show ∀ V, Calls Tryz.prog 54 #[.int .i64 u] V fun e w' => e = .returned (.bool true) ∧ V = w' from fun V => by
    have := costWeight_any u V
    rw [hu] at this
    exact this)
  obtain ⟨G, A, B, C, I, O, P, n, m, k, c, d, e, ci, co, cp, hR⟩ := h
  have hlm : a < m := by rw [hR.net.ar.1] at hla; exact hla
  obtain ⟨b, o, eB, c0, c1, c2⟩ := hR.net.ar.2 a _ ha
  subst eB
  have n1 : w.cell? ⟨g, 1, none⟩ = some (.slice (some ⟨b, o, none⟩) m d) := by rw [hR.blk.cell]; rfl
  have HN := Lib.hid (hR.setW ha hu)
  have hf := (hR.net.wa b rfl).2 (o + a * 3 + 2)
  have HF := Lib.hid (hR.sub b (.inr (.inl rfl)))
  have i1 : (0 : Int) ≤ (a : Int) := by omega
  have i2 : (a : Int) < (m : Int) := by omega
  clear hR ha hu hla c0 c1
  go_enter Tryz.func26, Tryz.ntmps26
  go_wp2_with fail
  with_reducible refine HA.out.mono ?_
  rintro r w' ⟨rfl, rfl⟩
  go_wp2_with fail
  with_reducible refine (HW.out _).mono ?_
  rintro r w' ⟨rfl, rfl⟩
  go_wp2_with fail
  go_ret
  refine ⟨rfl, ⟨G, A, _, C, I, O, P, n, m, k, c, d, e, ci, co, cp, HN.out⟩, Kept.set _ _ _ _ (fun hn => hn HF.out), by simp [World.setCell], fun B' hB => below_set (hB b HF.out) _⟩
end Go.Proofs.YtgkeolddpielpaaGreat

/- FillShut: the walk. -/
namespace Go.Proofs.YtgkeolddpielpaaGreat
open Go.RowKit

attribute [local go_sem ↓] Go.wp_at_zero Go.wp_at_succ

/-- The graph is changed in its own blocks F alone; it is N but for weights of X. -/
structure ShV (w v : World) (F : Nat → Prop) (g : Nat) (N : NetD) (X : Nat → Prop) (V : World) (M : NetD) : Prop where
  kept : Kept (fun b => ¬ F b) v V
  size : v.heap.size ≤ V.heap.size
  bel : Below w.heap.size w V
  gr : GrO V F g M
  chg : Chg N M X
section
variable {w v V V' : World} {F : Nat → Prop} {g : Nat} {N M : NetD} {X : Nat → Prop}
theorem ShV.set (h : ShV w v F g N X V M) (hF : ∀ b, F b → w.heap.size ≤ b) {a : Nat} {x y z u : Int} (ha : M.ar[a]? = some (x, y, z)) (hu : wOk u = true) (hX : X a) (g1 : GrO V' F g (M.setW a x y u)) (g2 : Kept (fun b => ¬ F b) V V') (g3 : V.heap.size ≤ V'.heap.size) (g4 : ∀ B, (∀ b, F b → B ≤ b) → Below B V V') : ShV w v F g N X V' (M.setW a x y u) :=
  ⟨h.kept.trans g2 h.size, Nat.le_trans h.size g3, h.bel.trans (g4 _ hF), g1, h.chg.setW ha hu hX⟩
end
theorem Kept.blk {G : Nat → Prop} {v V : World} {g : Nat} {t : TypeId} {cs : Array Value} (h : Kept G v V) (hb : Blk v g t cs) (hg : G g) : Blk V g t cs := (h g hg hb.lt).trans hb
set_option maxRecDepth 20000 in
set_option maxHeartbeats 4000000 in
theorem fillShut_walk (A B C Q : Option Addr) (n m k c d e L cq : Nat) (N : NetD) (ls : List (List Int)) (w : World) (h : RdNet w A B C n m k N) (hk : k ≤ 9223372036854775807) (hq : RdT w Q L ls) (hL : L ≤ 9223372036854775807) (lev : Nat) (hlev : lev < 256) (u : Int) :
    Calls Tryz.prog 5 #[.agg #[.slice A n c, .slice B m d, .slice C k e], .agg #[.slice Q L cq], .int .u8 lev, .int .i64 u] w fun r w' => r = .returned (.bool true) ∧ Below w.heap.size w w' := by
  have HH := Lib.hid h
  have HT := Lib.hid hq
  clear h hq
  go_enter Tryz.func5, Tryz.ntmps5
  go_wp2_with fail
  (refine calls_named ?_; intro w1 hw1)
  have hb1 : Below w.heap.size w w1 := by rw [hw1]; exact bELt
  have hX : Blk w1 w.heap.size 26 #[.slice A n c, .slice B m d, .slice C k e] := by
    rw [hw1]
    refine Blk.alloc ?_ _
    refine Blk.new' _ _ _ ?_
    rfl
  have hY : Blk w1 (w.heap.size + 1) 29 #[.slice Q L cq] := by
    rw [hw1]
    refine Blk.new' _ _ _ ?_
    simp
  clear hw1
  with_reducible refine (known18_ok w1).mono ?_
  rintro r w2 ⟨rfl, hb2⟩
  have hX2 := hX.below hb2 hX.lt
  have hY2 := hY.below hb2 hY.lt
  have hb2' := Bel.step hb1 hb2
  clear hX hY hb1 hb2
  have x0 := hX2.cell 0
  have x1 := hX2.cell 1
  have x2 := hX2.cell 2
  have y0 := hY2.cell 0
  simp only [List.getElem?_toArray, List.getElem?_cons_zero, List.getElem?_cons_succ] at x0 x1 x2 y0
  go_wp2_with fail
  with_reducible refine (may15_any A B C Q n m k c d e L cq N ls w2 (HH.out.below hb2') hk (HT.out.below hb2') hL).mono ?_
  rintro r w3 ⟨hr, hb3⟩
  have hb3' := Bel.step hb2' hb3
  have hX3 := hX2.below hb3 hX2.lt
  have hY3 := hY2.below hb3 hY2.lt
  clear x0 x1 x2 y0 hX2 hY2 hb2' hb3
  obtain ⟨b, rfl, hG⟩ := hr
  cases b with
  | false =>
    clear hG
    go_wp2_with fail
    go_ret
    exact ⟨rfl, hb3'⟩
  | true =>
  have hmay := hG rfl
  clear hG
  have HMAY := Lib.hid hmay
  have hok := hmay.small.ok
  have l6 : L ≤ 6 := by rw [← HT.out.1]; exact hmay.part.l6
  have l1 : 1 ≤ L := by rw [← HT.out.1]; exact hmay.part.l1
  clear hmay
  go_wp2_with fail
  with_reducible refine (refWeight_any u w3).mono ?_
  rintro r w' ⟨rfl, rfl⟩
  cases hu : wOk u with
  | false =>
    go_wp2_with fail
    go_ret
    exact ⟨rfl, hb3'⟩
  | true =>
  have HU := Lib.hid hu
  clear hu
  have hXlt3 : w.heap.size < w3.heap.size := hX3.lt
  have hXY : Blk w3 w.heap.size 26 #[.slice A n c, .slice B m d, .slice C k e] ∧ Blk w3 (w.heap.size + 1) 29 #[.slice Q L cq] := ⟨hX3, hY3⟩
  have HSX := Lib.hid (show ∀ V, Blk V w.heap.size 26 #[.slice A n c, .slice B m d, .slice C k e] ∧ Blk V (w.heap.size + 1) 29 #[.slice Q L cq] → V.cell? ⟨w.heap.size, 0, none⟩ = some (.slice A n c) ∧ V.cell? ⟨w.heap.size, 1, none⟩ = some (.slice B m d) ∧ V.cell? ⟨w.heap.size, 2, none⟩ = some (.slice C k e) ∧ V.cell? ⟨w.heap.size + 1, 0, none⟩ = some (.slice Q L cq) from
    fun V hV => ⟨by rw [hV.1.cell]; rfl, by rw [hV.1.cell]; rfl, by rw [hV.1.cell]; rfl, by rw [hV.2.cell]; rfl⟩)
  clear hX3 hY3
  go_wp2_with fail
  refine wp_region_held_drew (S := fun V => Blk V w.heap.size 26 #[.slice A n c, .slice B m d, .slice C k e] ∧ Blk V (w.heap.size + 1) 29 #[.slice Q L cq]) (by kernel_rfl) ⟨hXY.1.drew, hXY.2.drew⟩ (fun _ => ?_)
  refine tk 0 33 (h := ⟨_, tv, ?_⟩)
  simp only [pE, List.set]
  refine tk 2 35 (h := ⟨_, tv, ?_⟩)
  simp only [pE, List.set]
  refine tk 3 36 (h := ⟨_, tv, ?_⟩)
  simp only [pE, List.set]
  refine wpAnyH_ready (rs := [1]) (by kernel_rfl) (by simp) ?_
  refine AllReadyH.cons (o := _) rfl (fun K hK => ?_) AllReadyH.nil
  go_simp
  with_reducible refine (made8_ok A B C n m k c d e N w3.drew (HH.out.below (Bel.step hb3' (Below.refl _ _).drew)) hok).mono ?_
  rintro r w4 ⟨g, rfl, hG, hb4⟩
  have hb34 : Below w3.heap.size w3 w4 := (Below.refl _ _).drew.trans hb4
  have HG4 := Lib.hid hG
  have hb4' := Bel.step hb3' hb34
  have hXY4 : Blk w4 w.heap.size 26 #[.slice A n c, .slice B m d, .slice C k e] ∧ Blk w4 (w.heap.size + 1) 29 #[.slice Q L cq] := ⟨hXY.1.below hb34 hXY.1.lt, hXY.2.below hb34 hXY.2.lt⟩
  clear hG hb4 hb34 hb3'
  go_simp
  refine hK.out _ _ hXY4 (fun _ => ?_)
  clear hK K
  refine wpAnyH_ready (rs := [4]) (by kernel_rfl) (by simp) ?_
  refine AllReadyH.cons (o := _) rfl (fun K hK => ?_) AllReadyH.nil
  go_simp
  with_reducible refine (made17_ok A B C Q n m k c d e L cq N ls w4 (HH.out.below hb4') hok (HT.out.below hb4') HMAY.out.part).mono ?_
  rintro r w5 ⟨o, rfl, hO, hb5⟩
  have HO5 := Lib.hid hO
  have HG5 := Lib.hid (HG4.out.below hb5)
  have hz45 := hb5.size
  have HB5 := Lib.hid (Bel.step hb4' hb5)
  have hXY5 : Blk w5 w.heap.size 26 #[.slice A n c, .slice B m d, .slice C k e] ∧ Blk w5 (w.heap.size + 1) 29 #[.slice Q L cq] := ⟨hXY4.1.below hb5 hXY4.1.lt, hXY4.2.below hb5 hXY4.2.lt⟩
  clear hO hb5 hb4' HG4
  go_simp
  refine hK.out _ _ hXY5 (fun _ => ?_)
  clear hK K
  refine tk 5 9 (h := ⟨_, tv, ?_⟩)
  simp only [pE, List.set]
  refine tk 6 10 (h := ⟨_, tv, ?_⟩)
  simp only [pE, List.set]
  refine wpAnyH_done (by kernel_rfl) ?_ _
  have hX5 := hXY5.1
  have hY5 := hXY5.2
  clear hXY hXY4 hXY5 HSX
  have hNC := sumA_few HMAY.out
  have y0 := hY5.cell 0
  simp only [List.getElem?_toArray, List.getElem?_cons_zero] at y0
  have hm : m ≤ 16384 := by rw [← HH.out.2.1.1]; exact hok.la
  obtain ⟨li, hli⟩ : ∃ li, li = lev % L := ⟨_, rfl⟩
  have hliL : li < L := by rw [hli]; exact Nat.mod_lt _ (by omega)
  have hr : (lev : Int) % (L : Int) = (li : Int) := by rw [hli]; simp
  obtain ⟨l', hl'⟩ : ∃ l', ls[li]? = some l' := ⟨_, List.getElem?_eq_getElem (by rw [HT.out.1]; exact hliL)⟩
  have HL' := Lib.hid hl'
  have HLL := Lib.hid (HMAY.out.part.lvl l' (List.mem_of_getElem? hl')).len
  clear hli hl'
  obtain ⟨F, hF⟩ : ∃ F : Nat → Prop, F = fun b => w3.drew.heap.size ≤ b ∧ b < w4.heap.size := ⟨_, rfl⟩
  have HFB := Lib.hid (show ∀ b, F b → w3.heap.size ≤ b ∧ b < w4.heap.size from fun b hb => by rw [hF] at hb; exact hb)
  rw [← hF] at HG5
  clear hF
  have HO5' := Lib.hid (HO5.out.le (msk_le _ _))
  go_wp2_with fail
  rw [hr, Int.add_comm 1 (li : Int)]
  with_reducible refine (all_ok w5 g o N ls HG5.out.rd hok HO5'.out HMAY.out.part hNC).mono ?_
  rintro r w6 ⟨D1, c1, rfl, hd1, hD1, hc1, _, hdo1, hb6⟩
  have HALL1 := Lib.hid (hdo1.all hc1)
  have HO6 := Lib.hid (HO5.out.le ((Kept.below hb6).msk))
  have HG6 := Lib.hid (HG5.out.below hb6)
  have HB6 := Lib.hid (Bel.step HB5.out hb6)
  have hX6 := hX5.below hb6 hX5.lt
  have hY6 := hY5.below hb6 hY5.lt
  have hz56 := hb6.size
  obtain ⟨NC, hNCe⟩ : ∃ NC, NC = sumA (gatesOf N.ar ls) := ⟨_, rfl⟩
  rw [← hNCe] at hNC hc1 ⊢
  have HNC := Lib.hid hNCe
  have HC1 := Lib.hid hc1
  clear hb6 hdo1 HO5 HO5' HG5 HB5 hNCe hc1 hX5 hY5 y0 hr
  have x0 := hX6.cell 0
  have x1 := hX6.cell 1
  have x2 := hX6.cell 2
  have y0 := hY6.cell 0
  simp only [List.getElem?_toArray, List.getElem?_cons_zero, List.getElem?_cons_succ] at x0 x1 x2 y0
  go_wp2_with fail
  with_reducible refine (refCross_ok A B C Q n m k c d e L cq li N ls l' w6 (HH.out.below HB6.out) hok (HT.out.below HB6.out) HL'.out HLL.out (by omega)).mono ?_
  rintro r w7 ⟨XA, xn, xc, rfl, hxr, hxb, hb7⟩
  have hD7 := hD1.below hb7 hD1.lt
  have HO7 := Lib.hid (HO6.out.le ((Kept.below hb7).msk))
  have HG7 := Lib.hid (HG6.out.below hb7)
  have HB7 := Lib.hid (Bel.step HB6.out hb7)
  have hX7 := hX6.below hb7 hX6.lt
  have hz67 := hb7.size
  have hFo : ∀ b, F b → w.heap.size ≤ b := fun b hb => by have := (HFB.out b hb).1; omega
  have HFO := Lib.hid hFo
  have HRD := Lib.hid (show ∀ V, Kept (fun b => ¬ F b) w7 V → RdI V XA xn (crossL N.ar l') ∧ Blk V D1 2 (icells c1).toArray ∧ RdOv V o N.ar ls ∧ Blk V w.heap.size 26 #[.slice A n c, .slice B m d, .slice C k e] from fun V hV =>
    ⟨(hxr.msk (G := fun b => ¬ F b) (fun b hb hf => by have := hxb b hb; have := (HFB.out b hf).2; omega)).le (hV.msk.trans (msk_le _ _)), hV.blk hD7 (fun hf => by have := (HFB.out _ hf).2; omega),
      HO7.out.le ((msk_mono (fun b hb hf => by have := (HFB.out b hf).2; omega)).trans (hV.msk.trans (msk_le _ _))), hV.blk hX7 (fun hf => by have := (HFB.out _ hf).1; have := hXlt3; omega)⟩)
  have hxl := hxr.1
  have hxm : xn ≤ 16384 := by rw [← hxl]; exact Nat.le_trans (arcP_len _ _) hok.la
  have HXL := Lib.hid hxl
  have HS7 := Lib.hid (show ShV w w7 F g N (Crs N l') w7 N from ⟨Kept.refl _ _, Nat.le_refl _, HB7.out, HG7.out, Chg.refl hok _⟩)
  clear hb7 hxr hxb hxl hFo hD7 HO7 HG7 HB7 hX7 hX6 hY6 hD1 HO6 HG6 HB6 x0 x1 x2 y0
  go_wp2_with fail
  go_loopw [14] (fun q V => ∃ (i : Nat) (M : NetD), i ≤ xn ∧ q = .int .i64 i ∧ ShV w w7 F g N (Crs N l') V M) (fun q _ => xn - (intOf q).toNat)
  case atStart => exact ⟨0, N, Nat.zero_le _, rfl, HS7.out⟩
  case round =>
    obtain ⟨i, M, hi, rfl, hS⟩ := hrel
    have HS := Lib.hid hS
    by_cases hlt : i < xn
    · obtain ⟨xb, xo, z, rfl, hz, hcz⟩ := (HRD.out wr hS.kept).1.at_ hlt
      obtain ⟨a, t, rfl, ht, hne⟩ := mem_cross.1 (List.mem_of_getElem? hz)
      obtain ⟨⟨tx, ty, tz⟩, hta, _, _⟩ := hS.chg.al.symm.get ht
      have HSET := Lib.hid (gSet_ok g a tx ty tz u M F wr hS.gr hta HU.out)
      have HTA := Lib.hid hta
      have HCR := Lib.hid (show Crs N l' a from ⟨t, ht, hne⟩)
      have i1 : (i : Int) < (xn : Int) := by omega
      have i2 : (0 : Int) ≤ (i : Int) := by omega
      clear hS hz ht hne hta
      go_wp2_with fail
      with_reducible refine HSET.out.mono ?_
      rintro r w8 ⟨rfl, g1, g2, g3, g4⟩
      have HS8 := Lib.hid (HS.out.set HFO.out HTA.out HU.out HCR.out g1 g2 g3 g4)
      clear g1 g2 g3 g4
      go_wp2_with fail
      go_roundw
      case rel => exact ⟨i + 1, _, by omega, by go_num, HS8.out⟩
      case measure => simp [intOf]; omega
    obtain rfl : i = xn := by omega
    have i1 : ¬ ((i : Int) < (i : Int)) := by omega
    have hA2 := hS.chg.al.gatesOf ls
    have HAL := Lib.hid (all_ok wr g o M ls hS.gr.rd hS.chg.ok ((HRD.out wr hS.kept).2.2.1.alike hS.chg.al) (by rw [hS.chg.vs]; exact HMAY.out.part) (by rw [hA2, ← HNC.out]; exact hNC))
    have HA2 := Lib.hid hA2
    clear hS hA2
    go_wp2_with fail
    with_reducible refine HAL.out.mono ?_
    rintro r w8 ⟨D2, c2, rfl, hd2, hD2, hc2, _, hdo2, hb8⟩
    have HALL2 := Lib.hid (hdo2.all hc2)
    rw [HA2.out, ← HNC.out] at hc2 ⊢
    have HC2 := Lib.hid hc2
    have HM2 := Lib.hid HS.out.chg
    have hz8 := hb8.size
    have hz78 := HS.out.size
    have HRD8 := Lib.hid (show ∀ V, Kept (fun b => ¬ F b) w8 V → Blk V D1 2 (icells c1).toArray ∧ Blk V D2 2 (icells c2).toArray ∧ RdOv V o N.ar ls ∧ Blk V w.heap.size 26 #[.slice A n c, .slice B m d, .slice C k e] from fun V hV => by
      obtain ⟨_, q2, q3, q4⟩ := HRD.out V ((HS.out.kept.trans (Kept.below hb8) hz78).trans hV (by omega))
      exact ⟨q2, hV.blk hD2 (fun hf => by have := (HFB.out _ hf).2; omega), q3, q4⟩)
    have HS8 := Lib.hid (show ShV w w8 F g N (fun _ => True) w8 M from ⟨Kept.refl _ _, Nat.le_refl _, Bel.step HS.out.bel hb8, HS.out.gr.below hb8, HS.out.chg.mono (fun _ _ => trivial)⟩)
    clear hb8 hdo2 hc2 hD2 hd2 HRD HS HAL HA2 i1
    go_wp2_with fail
    go_loopw [16] (fun q V => ∃ (a : Nat) (M2 : NetD), a ≤ m ∧ q = .int .i64 a ∧ ShV w w8 F g N (fun _ => True) V M2 ∧ ∀ (b : Nat) (z : Tri), b < a → M2.ar[b]? = some z → z.2.2 = 1152921504606846976) (fun q _ => m - (intOf q).toNat)
    case atStart => exact ⟨0, M, Nat.zero_le _, rfl, HS8.out, fun b z h => absurd h (Nat.not_lt_zero _)⟩
    case round =>
      obtain ⟨a, M2, ha, rfl, hS, hI⟩ := hrel
      have HS := Lib.hid hS
      have HI := Lib.hid hI
      have hX8 := (HRD8.out _ hS.kept).2.2.2
      have x1 := hX8.cell 1
      simp only [List.getElem?_toArray, List.getElem?_cons_zero, List.getElem?_cons_succ] at x1
      by_cases hlt : a < m
      · obtain ⟨⟨tx, ty, tz⟩, hta⟩ : ∃ t, M2.ar[a]? = some t := ⟨_, List.getElem?_eq_getElem (by rw [hS.chg.al.len, HH.out.2.1.1]; exact hlt)⟩
        have HINF := Lib.hid (show wOk 1152921504606846976 = true by decide)
        have HSET := Lib.hid (gSet_ok g a tx ty tz 1152921504606846976 M2 F wr hS.gr hta HINF.out)
        have HTA := Lib.hid hta
        have i1 : (a : Int) < (m : Int) := by omega
        clear hS hI hta
        go_wp2_with fail
        with_reducible refine HSET.out.mono ?_
        rintro r w9 ⟨rfl, g1, g2, g3, g4⟩
        have HS9 := Lib.hid (HS.out.set HFO.out HTA.out HINF.out trivial g1 g2 g3 g4)
        clear g1 g2 g3 g4
        go_wp2_with fail
        go_roundw
        case rel =>
          refine ⟨a + 1, _, by omega, by go_num, HS9.out, fun b z hb hz => ?_⟩
          have hz' : (M2.ar.set a (tx, ty, 1152921504606846976))[b]? = some z := hz
          by_cases e : a = b
          · subst e
            rw [List.getElem?_set_self (List.getElem?_eq_some_iff.1 HTA.out).1] at hz'
            cases hz'
            rfl
          · rw [List.getElem?_set_ne e] at hz'
            exact HI.out b z (by omega) hz'
        case measure => simp [intOf]; omega
      have ham : m = a := by omega
      subst ham
      have i1 : ¬ ((m : Int) < (m : Int)) := by omega
      have hA2 := hS.chg.al.gatesOf ls
      have HAL := Lib.hid (all_ok wr g o M2 ls hS.gr.rd hS.chg.ok ((HRD8.out wr hS.kept).2.2.1.alike hS.chg.al) (by rw [hS.chg.vs]; exact HMAY.out.part) (by rw [hA2, ← HNC.out]; exact hNC))
      have HA2 := Lib.hid hA2
      have HI3 := Lib.hid (show ∀ (b : Nat) (z : Tri), M2.ar[b]? = some z → z.2.2 = 1152921504606846976 from fun b z hz => hI b z (by rw [← HH.out.2.1.1, ← hS.chg.al.len]; exact (List.getElem?_eq_some_iff.1 hz).1) hz)
      clear hS hA2 hI
      go_wp2_with fail
      with_reducible refine HAL.out.mono ?_
      rintro r w9 ⟨D3, c3, rfl, hd3, hD3, hc3, _, hdo3, hb9⟩
      have HALL3 := Lib.hid (hdo3.all hc3)
      rw [HA2.out, ← HNC.out] at hc3 ⊢
      have HC3 := Lib.hid hc3
      have HM3 := Lib.hid HS.out.chg
      have HB9 := Lib.hid (Bel.step HS.out.bel hb9)
      obtain ⟨q1, q2, q3, q4⟩ := HRD8.out w9 (HS.out.kept.trans (Kept.below hb9) HS.out.size)
      have HO9 := Lib.hid q3
      have HD1 := Lib.hid q1
      have HD2 := Lib.hid q2
      have HD3 := Lib.hid hD3
      have HX9 := Lib.hid q4
      have HSZ := Lib.hid (oSize_any o N.ar ls w9 q3)
      rw [← HNC.out] at HSZ
      clear q1 q2 q3 q4 hd3 hD3 hc3 hdo3 hb9 HAL HA2 HS HI HS8 HRD8 x1 hX8 i1
      go_wp2_with fail
      with_reducible refine HSZ.out.mono ?_
      rintro e w' ⟨rfl, rfl⟩
      go_wp2_with fail
      with_reducible refine HSZ.out.mono ?_
      rintro e w' ⟨rfl, rfl⟩
      go_wp2_with fail
      with_reducible refine HSZ.out.mono ?_
      rintro e w' ⟨rfl, rfl⟩
      go_wp2_with fail
      clear HSZ
      go_loopw [18] (fun q V => Below w9.heap.size w9 V ∧ ∃ kk : Nat, kk ≤ NC ∧ q = .int .i64 kk) (fun q _ => NC - (intOf q).toNat)
      case atStart => exact ⟨Below.refl _ _, 0, Nat.zero_le _, rfl⟩
      case round =>
        obtain ⟨hbl, kk, hkk, rfl⟩ := hrel
        by_cases hlt : kk < NC
        rotate_left
        · obtain rfl : kk = NC := by omega
          go_wp2_with fail
          go_ret
          exact ⟨rfl, Bel.step HB9.out hbl⟩
        obtain ⟨i, l, cc, x, a, b, s, t, hent⟩ := ent_ex (N := N) (ls := ls) (k := kk) (by rw [← HNC.out]; exact hlt)
        have hL1 : ls.length ≤ 1000000 := by have := HMAY.out.part.l6; omega
        have HW := Lib.hid (where_ok o i cc a b N.ar ls l x wr (HO9.out.below hbl) hent.hl hent.hx (List.getElem?_eq_some_iff.1 hent.ha).1 (List.getElem?_eq_some_iff.1 hent.hb).1 hL1 (by rw [← HNC.out]; omega) (by
          have h1 := HMAY.out.part.lvl l (List.mem_of_getElem? hent.hl)
          have h2 := mostN_le (l := l) (n := (N.vs.length : Int)) (fun x hx => h1.hi x hx) (by omega)
          have h3 := HMAY.out.small.v
          omega))
        rw [← hent.hk] at HW
        have HENT := Lib.hid hent
        have j1 : (kk : Int) < (NC : Int) := by omega
        have hi6 : (i : Int) ≤ 5 := by have := (List.getElem?_eq_some_iff.1 hent.hl).1; have := HMAY.out.part.l6; omega
        clear hent
        go_wp2_with fail
        with_reducible refine HW.out.mono ?_
        rintro e wA ⟨rfl, hbA⟩
        have hblA := Bel.step hbl hbA
        have HGT := Lib.hid (fun V (hV : Below w9.heap.size w9 V) => oGate_ok o i cc N.ar ls l x V (HO9.out.below hV) HENT.out.hl hL1 HENT.out.hx (by have := HMAY.out.small.a; omega))
        clear hbA hbl HW
        go_wp2_with fail
        (refine calls_named ?_; intro wB hwB)
        have hbB : Below wA.heap.size wA wB := by rw [hwB]; exact bELt
        have hEB : Blk wB wA.heap.size 64 #[.int .i64 ((i : Int) + 1), .int .i64 cc, .int .i64 a, .int .i64 b] := by rw [hwB]; refine Blk.new' _ _ _ ?_; rfl
        have hblB := Bel.step hblA hbB
        clear hwB hbB hblA
        with_reducible refine (HGT.out wB hblB).mono ?_
        rintro e wC ⟨A1, n1, d1, A2, n2, d2, rfl, hr1, hr2, hbC⟩
        have hEC := hEB.below hbC hEB.lt
        have hblC := Bel.step hblB hbC
        obtain ⟨e0, e1, e2, e3⟩ := hEC.four
        have elt := hEC.lt
        have hn1 := hr1.1
        have hn2 := hr2.1
        have ha1 := (List.getElem?_eq_some_iff.1 HENT.out.ha).1
        have hb1 := (List.getElem?_eq_some_iff.1 HENT.out.hb).1
        obtain ⟨ab, ao, z1, rfl, hz1, ca⟩ := hr1.at_ (i := a) (by omega)
        rw [HENT.out.ha] at hz1
        cases hz1
        obtain ⟨bb, bo, z2, rfl, hz2, cb⟩ := hr2.at_ (i := b) (by omega)
        rw [HENT.out.hb] at hz2
        cases hz2
        have j2 : ¬ ((a : Int) < 0) := by omega
        have j3 : ¬ ((n1 : Int) ≤ (a : Int)) := by omega
        have j4 : ¬ ((b : Int) < 0) := by omega
        have j5 : ¬ ((n2 : Int) ≤ (b : Int)) := by omega
        have j6 : (a : Int) < (n1 : Int) := by omega
        have j7 : (b : Int) < (n2 : Int) := by omega
        clear hEB hbC hblB hr1 hr2 ha1 hb1 hn1 hn2 HGT
        go_wp2_with fail
        (refine wp_named ?_; intro wD hwD)
        have hbD : Below wC.heap.size wC wD := by rw [hwD]; exact bELt
        have hGD : Blk wD wC.heap.size 38 #[.slice (some ⟨ab, ao, none⟩) n1 d1, .slice (some ⟨bb, bo, none⟩) n2 d2] := by rw [hwD]; exact Blk.new _ _ _
        have hblD := Bel.step hblC hbD
        have hED := hEC.below hbD hEC.lt
        have caD := Below.cellOf hbD (Nat.le_refl _) ca
        have cbD := Below.cellOf hbD (Nat.le_refl _) cb
        clear hwD e0 e1 e2 e3 elt j2 j3 j4 j5 hEC hblC hbD ca cb
        obtain ⟨v1, hv1⟩ : ∃ v, c1[kk]? = some v := ⟨_, List.getElem?_eq_getElem (by rw [HC1.out]; exact hlt)⟩
        obtain ⟨v2, hv2⟩ : ∃ v, c2[kk]? = some v := ⟨_, List.getElem?_eq_getElem (by rw [HC2.out]; exact hlt)⟩
        obtain ⟨v3, hv3⟩ : ∃ v, c3[kk]? = some v := ⟨_, List.getElem?_eq_getElem (by rw [HC3.out]; exact hlt)⟩
        have ht3 := shut_turn HM3.out HI3.out HALL3.out HENT.out hv3
        obtain ⟨xs, hxs, _⟩ := (gate_in HENT.out.hx).1 (List.mem_of_getElem? HENT.out.ha)
        obtain ⟨xt, hxt, _⟩ := (gate_out HENT.out.hx).1 (List.mem_of_getElem? HENT.out.hb)
        have HTU := Lib.hid (fun V (hV : Below w9.heap.size w9 V) => refTurn_ok A B C n m k c d e N s t xs xt V (HH.out.below (Bel.step HB9.out hV)) hok hxs hxt)
        rw [← ht3] at HTU
        have HSX0 := Lib.hid (show ∀ V, Below wD.heap.size wD V → V.cell? ⟨wA.heap.size, 0, none⟩ = some (.int .i64 ((i : Int) + 1)) ∧ V.cell? ⟨wA.heap.size, 2, none⟩ = some (.int .i64 a) ∧ V.cell? ⟨wA.heap.size, 3, none⟩ = some (.int .i64 b) ∧
            V.cell? ⟨wC.heap.size, 0, none⟩ = some (.slice (some ⟨ab, ao, none⟩) n1 d1) ∧ V.cell? ⟨wC.heap.size, 1, none⟩ = some (.slice (some ⟨bb, bo, none⟩) n2 d2) ∧ V.cell? ⟨ab, ao + a, none⟩ = some (.int .i64 s) ∧ V.cell? ⟨bb, bo + b, none⟩ = some (.int .i64 t) ∧
            V.cell? ⟨D1, kk, none⟩ = some (.int .i64 v1) ∧ V.cell? ⟨D2, kk, none⟩ = some (.int .i64 v2) ∧ V.cell? ⟨D3, kk, none⟩ = some (.int .i64 v3) ∧ V.cell? ⟨w.heap.size, 0, none⟩ = some (.slice A n c) ∧ V.cell? ⟨w.heap.size, 1, none⟩ = some (.slice B m d) ∧ V.cell? ⟨w.heap.size, 2, none⟩ = some (.slice C k e) from fun V hV => by
          obtain ⟨f0, _, f2, f3⟩ := (hED.below hV hED.lt).four
          obtain ⟨g0, g1, _⟩ := (hGD.below hV hGD.lt).two
          have hb := Bel.step hblD hV
          have hX := HX9.out.below hb HX9.out.lt
          exact ⟨f0, f2, f3, g0, g1, Below.cellOf hV (Nat.le_refl _) caD, Below.cellOf hV (Nat.le_refl _) cbD, (HD1.out.below hb HD1.out.lt).cellI hv1, (HD2.out.below hb HD2.out.lt).cellI hv2, (HD3.out.below hb HD3.out.lt).cellI hv3, by rw [hX.cell]; rfl, by rw [hX.cell]; rfl, by rw [hX.cell]; rfl⟩)
        have HV1 := Lib.hid hv1
        have HV2 := Lib.hid hv2
        clear hv1 hv2 hv3 ht3 hxs hxt hED hGD caD cbD
        by_cases hil : i ≤ li
        · obtain rfl : v2 = v1 := shut_now hok HMAY.out.part HL'.out HM2.out HALL1.out HALL2.out HENT.out hil HV1.out HV2.out
          have HSX := Lib.hid (fun V hV => And.intro (show decide (i ≤ li) = true from decide_eq_true hil) (HSX0.out V hV))
          clear HSX0 HV1 HV2
          have HIL := Lib.hid hil
          clear hil
          refine wp_region_held_drew (S := fun V => Below wD.heap.size wD V) (by kernel_rfl) (Below.refl _ _).drew (fun _ => ?_)
          refine tk 0 154 (h := ⟨_, tv, ?_⟩)
          simp only [pE, List.set]
          refine tk 1 155 (h := ⟨_, tv, ?_⟩)
          simp only [pE, List.set]
          refine tk 2 156 (h := ⟨_, tv, ?_⟩)
          simp only [pE, List.set]
          refine tk 3 157 (h := ⟨_, tv, ?_⟩)
          simp only [pE, List.set]
          refine tk 4 158 (h := ⟨_, tv, ?_⟩)
          simp only [pE, List.set]
          refine tk 5 159 (h := ⟨_, tv, ?_⟩)
          simp only [pE, List.set]
          refine tk 6 160 (h := ⟨_, tv, ?_⟩)
          simp only [pE, List.set]
          refine tk 7 161 (h := ⟨_, tv, ?_⟩)
          simp only [pE, List.set]
          refine tk 8 162 (h := ⟨_, tv, ?_⟩)
          simp only [pE, List.set]
          refine tk 9 163 (h := ⟨_, tv, ?_⟩)
          simp only [pE, List.set]
          refine tk 10 164 (h := ⟨_, tv, ?_⟩)
          simp only [pE, List.set]
          refine tk 11 165 (h := ⟨_, tv, ?_⟩)
          simp only [pE, List.set]
          refine tk 12 166 (h := ⟨_, tv, ?_⟩)
          simp only [pE, List.set]
          refine tk 13 167 (h := ⟨_, tv, ?_⟩)
          simp only [pE, List.set]
          refine tk 14 168 (h := ⟨_, tv, ?_⟩)
          simp only [pE, List.set]
          refine tk 15 169 (h := ⟨_, tv, ?_⟩)
          simp only [pE, List.set]
          refine tk 16 170 (h := ⟨_, tv, ?_⟩)
          simp only [pE, List.set]
          refine tk 17 171 (h := ⟨_, tv, ?_⟩)
          simp only [pE, List.set]
          refine tk 18 172 (h := ⟨_, tv, ?_⟩)
          simp only [pE, List.set]
          refine tk 19 173 (h := ⟨_, tv, ?_⟩)
          simp only [pE, List.set]
          refine tk 20 174 (h := ⟨_, tv, ?_⟩)
          simp only [pE, List.set]
          refine tk 21 175 (h := ⟨_, tv, ?_⟩)
          simp only [pE, List.set]
          refine tk 22 176 (h := ⟨_, tv, ?_⟩)
          simp only [pE, List.set]
          refine tk 23 177 (h := ⟨_, tv, ?_⟩)
          simp only [pE, List.set]
          refine tk 24 178 (h := ⟨_, tv, ?_⟩)
          simp only [pE, List.set]
          refine tk 25 179 (h := ⟨_, tv, ?_⟩)
          simp only [pE, List.set]
          refine tk 26 180 (h := ⟨_, tv, ?_⟩)
          simp only [pE, List.set]
          refine tk 27 181 (h := ⟨_, tv, ?_⟩)
          simp only [pE, List.set]
          refine tk 28 182 (h := ⟨_, tv, ?_⟩)
          simp only [pE, List.set]
          refine tk 29 183 (h := ⟨_, tv, ?_⟩)
          simp only [pE, List.set]
          refine tk 30 184 (h := ⟨_, tv, ?_⟩)
          simp only [pE, List.set]
          refine tk 31 185 (h := ⟨_, tv, ?_⟩)
          simp only [pE, List.set]
          refine tk 32 186 (h := ⟨_, tv, ?_⟩)
          simp only [pE, List.set]
          refine wpAnyH_ready (rs := [33]) (by kernel_rfl) (by simp) ?_
          refine AllReadyH.cons (o := _) rfl (fun K hK => ?_) AllReadyH.nil
          go_simp
          with_reducible refine (HTU.out _ (Bel.step hblD (Below.refl _ _).drew)).mono ?_
          rintro r wE ⟨rfl, hbE⟩
          have hbE' : Below wD.heap.size wD wE := (Below.refl _ _).drew.trans hbE
          clear hbE
          go_simp
          refine hK.out _ _ hbE' (fun _ => ?_)
          clear hK K
          refine tk 34 188 (h := ⟨_, tv, ?_⟩)
          simp only [pE, List.set]
          refine tk 35 189 (h := ⟨_, tv, ?_⟩)
          simp only [pE, List.set]
          refine wpAnyH_done (by kernel_rfl) ?_ _
          go_wp2_with fail
          go_roundw
          case rel => exact ⟨Bel.step hblD hbE', kk + 1, by omega, by go_num⟩
          case measure => simp [intOf]; omega
        · have HSX := Lib.hid (fun V hV => And.intro (show decide (i ≤ li) = false from decide_eq_false hil) (HSX0.out V hV))
          clear HSX0 HV1 HV2
          have HIL := Lib.hid hil
          clear hil
          refine wp_region_held_drew (S := fun V => Below wD.heap.size wD V) (by kernel_rfl) (Below.refl _ _).drew (fun _ => ?_)
          refine tk 0 154 (h := ⟨_, tv, ?_⟩)
          simp only [pE, List.set]
          refine tk 1 155 (h := ⟨_, tv, ?_⟩)
          simp only [pE, List.set]
          refine tk 2 156 (h := ⟨_, tv, ?_⟩)
          simp only [pE, List.set]
          refine tk 3 157 (h := ⟨_, tv, ?_⟩)
          simp only [pE, List.set]
          refine tk 4 158 (h := ⟨_, tv, ?_⟩)
          simp only [pE, List.set]
          refine tu 5 159 (h := ?_)
          simp only [pE, List.set]
          refine tu 6 160 (h := ?_)
          simp only [pE, List.set]
          refine tu 7 161 (h := ?_)
          simp only [pE, List.set]
          refine tu 8 162 (h := ?_)
          simp only [pE, List.set]
          refine tu 9 163 (h := ?_)
          simp only [pE, List.set]
          refine tu 10 164 (h := ?_)
          simp only [pE, List.set]
          refine tu 11 165 (h := ?_)
          simp only [pE, List.set]
          refine tu 12 166 (h := ?_)
          simp only [pE, List.set]
          refine tu 13 167 (h := ?_)
          simp only [pE, List.set]
          refine tk 14 168 (h := ⟨_, tv, ?_⟩)
          simp only [pE, List.set]
          refine tk 15 169 (h := ⟨_, tv, ?_⟩)
          simp only [pE, List.set]
          refine tk 16 170 (h := ⟨_, tv, ?_⟩)
          simp only [pE, List.set]
          refine tk 17 171 (h := ⟨_, tv, ?_⟩)
          simp only [pE, List.set]
          refine tk 18 172 (h := ⟨_, tv, ?_⟩)
          simp only [pE, List.set]
          refine tk 19 173 (h := ⟨_, tv, ?_⟩)
          simp only [pE, List.set]
          refine tk 20 174 (h := ⟨_, tv, ?_⟩)
          simp only [pE, List.set]
          refine tk 21 175 (h := ⟨_, tv, ?_⟩)
          simp only [pE, List.set]
          refine tk 22 176 (h := ⟨_, tv, ?_⟩)
          simp only [pE, List.set]
          refine tk 23 177 (h := ⟨_, tv, ?_⟩)
          simp only [pE, List.set]
          refine tk 24 178 (h := ⟨_, tv, ?_⟩)
          simp only [pE, List.set]
          refine tk 25 179 (h := ⟨_, tv, ?_⟩)
          simp only [pE, List.set]
          refine tk 26 180 (h := ⟨_, tv, ?_⟩)
          simp only [pE, List.set]
          refine tk 27 181 (h := ⟨_, tv, ?_⟩)
          simp only [pE, List.set]
          refine tk 28 182 (h := ⟨_, tv, ?_⟩)
          simp only [pE, List.set]
          refine tk 29 183 (h := ⟨_, tv, ?_⟩)
          simp only [pE, List.set]
          refine tk 30 184 (h := ⟨_, tv, ?_⟩)
          simp only [pE, List.set]
          refine tk 31 185 (h := ⟨_, tv, ?_⟩)
          simp only [pE, List.set]
          refine tk 32 186 (h := ⟨_, tv, ?_⟩)
          simp only [pE, List.set]
          refine wpAnyH_ready (rs := [33]) (by kernel_rfl) (by simp) ?_
          refine AllReadyH.cons (o := _) rfl (fun K hK => ?_) AllReadyH.nil
          go_simp
          with_reducible refine (HTU.out _ (Bel.step hblD (Below.refl _ _).drew)).mono ?_
          rintro r wE ⟨rfl, hbE⟩
          have hbE' : Below wD.heap.size wD wE := (Below.refl _ _).drew.trans hbE
          clear hbE
          go_simp
          refine hK.out _ _ hbE' (fun _ => ?_)
          clear hK K
          refine tk 34 188 (h := ⟨_, tv, ?_⟩)
          simp only [pE, List.set]
          refine tk 35 189 (h := ⟨_, tv, ?_⟩)
          simp only [pE, List.set]
          refine wpAnyH_done (by kernel_rfl) ?_ _
          go_wp2_with fail
          go_roundw
          case rel => exact ⟨Bel.step hblD hbE', kk + 1, by omega, by go_num⟩
          case measure => simp [intOf]; omega
end Go.Proofs.YtgkeolddpielpaaGreat
