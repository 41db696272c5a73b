/- Parts of the proof: Fw, Open, OpN. -/
import Derived.Test.YtgkeolddpielpaaGreatM25
import Derived.Test.YtgkeolddpielpaaGreatRows
import Derived.ProofKit
import Derived.OpenShut
import Derived.Deep.Slices
import Derived.SizedLaws
import Derived.ChangeArms
/- FillWider: the walk. -/
namespace Go.Proofs.YtgkeolddpielpaaGreat
open Go.RowKit

attribute [local go_sem ↓] Go.wp_at_zero Go.wp_at_succ

theorem sumA_few {N : NetD} {ls : List (List Int)} (h : MayOk N ls) : sumA (gatesOf N.ar ls) ≤ 1000000000 := by
  have hA := h.small.a; have hv := h.small.v
  have h6 := h.part.l6
  have hx : ∀ x ∈ (gatesOf N.ar ls).map sumS, x ≤ 194400 := fun z hz => by
    obtain ⟨row, hr, rfl⟩ := List.mem_map.1 hz
    obtain ⟨l, hl, rfl⟩ := List.mem_map.1 hr
    have hm : ∀ y ∈ (gateRow N.ar l).map szG, y ≤ 8100 := fun y hy => by
      obtain ⟨x, hx, rfl⟩ := List.mem_map.1 hy
      obtain ⟨c, hc⟩ := List.getElem?_of_mem hx
      have g := gate_in_le hc
      unfold szG
      have := Nat.mul_le_mul (show x.1.length ≤ 90 by omega) (show x.2.length ≤ 90 by omega)
      omega
    have h1 := sum_le hm
    have h2 := h.part.lvl l hl
    have h3 := mostN_le (l := l) (n := (N.vs.length : Int)) (fun x hx => h2.hi x hx) (by omega)
    rw [List.length_map, gateRow_len] at h1
    have h4 : (mostN l).toNat * 8100 ≤ 24 * 8100 := Nat.mul_le_mul_right _ (by omega)
    unfold sumS
    omega
  have h1 := sum_le hx
  rw [List.length_map, show (gatesOf N.ar ls).length = ls.length by simp [gatesOf]] at h1
  have h4 : ls.length * 194400 ≤ 6 * 194400 := Nat.mul_le_mul_right _ (by omega)
  unfold sumA
  omega
/-- Two cells, four cells of a block; a cost. -/
def EnB (V : World) (g D : Nat) (a b c d : Value) (cl : List Int) : Prop := Blk V g 64 #[a, b, c, d] ∧ Blk V D 2 (icells cl).toArray
theorem EnB.below {V V' : World} {g D : Nat} {a b c d : Value} {cl : List Int} (h : EnB V g D a b c d cl) (hb : Below V.heap.size V V') : EnB V' g D a b c d cl := ⟨h.1.below hb h.1.lt, h.2.below hb h.2.lt⟩
theorem EnB.cost {V : World} {g D k : Nat} {a b c d : Value} {cl : List Int} {v : Int} (h : EnB V g D a b c d cl) (hk : cl[k]? = some v) : V.cell? ⟨D, k, none⟩ = some (.int .i64 v) := h.2.cellI hk
theorem EnB.four {V : World} {g D : Nat} {a b c d : Value} {cl : List Int} (h : EnB V g D a b c d cl) : V.cell? ⟨g, 0, none⟩ = some a ∧ V.cell? ⟨g, 1, none⟩ = some b ∧ V.cell? ⟨g, 2, none⟩ = some c ∧ V.cell? ⟨g, 3, none⟩ = some d := h.1.four
set_option maxRecDepth 20000 in
set_option maxHeartbeats 4000000 in
theorem fillWider_walk (A B C Q : Option Addr) (n m k c d e L cq : Nat) (N : NetD) (ls : List (List Int)) (w : World) (h : RdNet w A B C n m k N) (hk : k ≤ 9223372036854775807) (hq : RdT w Q L ls) (hL : L ≤ 9223372036854775807) :
    Calls Tryz.prog 6 #[.agg #[.slice A n c, .slice B m d, .slice C k e], .agg #[.slice Q L cq]] w fun r w' => r = .returned (.bool true) ∧ Below w.heap.size w w' := by
  have HH := Lib.hid h
  have HT := Lib.hid hq
  clear h hq
  go_enter Tryz.func6, Tryz.ntmps6
  go_wp2_with fail
  (refine calls_named ?_; intro w1 hw1)
  have hb1 : Below w.heap.size w w1 := by rw [hw1]; exact bELt
  have hX : Blk w1 w.heap.size 26 #[.slice A n c, .slice B m d, .slice C k e] := by
    rw [hw1]
    refine Blk.alloc ?_ _
    refine Blk.new' _ _ _ ?_
    rfl
  have hY : Blk w1 (w.heap.size + 1) 29 #[.slice Q L cq] := by
    rw [hw1]
    refine Blk.new' _ _ _ ?_
    simp
  clear hw1
  with_reducible refine (known18_ok w1).mono ?_
  rintro r w2 ⟨rfl, hb2⟩
  have hX2 := hX.below hb2 hX.lt
  have hY2 := hY.below hb2 hY.lt
  have hb2' := Bel.step hb1 hb2
  clear hX hY hb1 hb2
  have x0 := hX2.cell 0
  have x1 := hX2.cell 1
  have x2 := hX2.cell 2
  have y0 := hY2.cell 0
  simp only [List.getElem?_toArray, List.getElem?_cons_zero, List.getElem?_cons_succ] at x0 x1 x2 y0
  go_wp2_with fail
  with_reducible refine (may15_any A B C Q n m k c d e L cq N ls w2 (HH.out.below hb2') hk (HT.out.below hb2') hL).mono ?_
  rintro r w3 ⟨hr, hb3⟩
  have hb3' := Bel.step hb2' hb3
  have hX3 := hX2.below hb3 hX2.lt
  have hY3 := hY2.below hb3 hY2.lt
  clear x0 x1 x2 y0 hX2 hY2 hb2' hb3
  obtain ⟨b, rfl, hG⟩ := hr
  cases b with
  | false =>
    clear hG
    go_wp2_with fail
    go_ret
    exact ⟨rfl, hb3'⟩
  | true =>
  have hmay := hG rfl
  clear hG
  have HMAY := Lib.hid hmay
  have hok := hmay.small.ok
  have l6 : L ≤ 6 := by rw [← HT.out.1]; exact hmay.part.l6
  clear hmay
  have hXY : Blk w3 w.heap.size 26 #[.slice A n c, .slice B m d, .slice C k e] ∧ Blk w3 (w.heap.size + 1) 29 #[.slice Q L cq] := ⟨hX3, hY3⟩
  have HSX := Lib.hid (show ∀ V, Blk V w.heap.size 26 #[.slice A n c, .slice B m d, .slice C k e] ∧ Blk V (w.heap.size + 1) 29 #[.slice Q L cq] → V.cell? ⟨w.heap.size, 0, none⟩ = some (.slice A n c) ∧ V.cell? ⟨w.heap.size, 1, none⟩ = some (.slice B m d) ∧ V.cell? ⟨w.heap.size, 2, none⟩ = some (.slice C k e) ∧ V.cell? ⟨w.heap.size + 1, 0, none⟩ = some (.slice Q L cq) from
    fun V hV => ⟨by rw [hV.1.cell]; rfl, by rw [hV.1.cell]; rfl, by rw [hV.1.cell]; rfl, by rw [hV.2.cell]; rfl⟩)
  clear hX3 hY3
  go_wp2_with fail
  refine wp_region_held_drew (S := fun V => Blk V w.heap.size 26 #[.slice A n c, .slice B m d, .slice C k e] ∧ Blk V (w.heap.size + 1) 29 #[.slice Q L cq]) (by kernel_rfl) ⟨hXY.1.drew, hXY.2.drew⟩ (fun _ => ?_)
  refine tk 0 22 (h := ⟨_, tv, ?_⟩)
  simp only [pE, List.set]
  refine tk 2 24 (h := ⟨_, tv, ?_⟩)
  simp only [pE, List.set]
  refine tk 3 25 (h := ⟨_, tv, ?_⟩)
  simp only [pE, List.set]
  refine wpAnyH_ready (rs := [1]) (by kernel_rfl) (by simp) ?_
  refine AllReadyH.cons (o := _) rfl (fun K hK => ?_) AllReadyH.nil
  go_simp
  with_reducible refine (made8_ok A B C n m k c d e N w3.drew (HH.out.below (Bel.step hb3' (Below.refl _ _).drew)) hok).mono ?_
  rintro r w4 ⟨g, rfl, hG, hb4⟩
  have hb34 : Below w3.heap.size w3 w4 := (Below.refl _ _).drew.trans hb4
  have HG4 := Lib.hid hG.rd
  have hb4' := Bel.step hb3' hb34
  have hXY4 : Blk w4 w.heap.size 26 #[.slice A n c, .slice B m d, .slice C k e] ∧ Blk w4 (w.heap.size + 1) 29 #[.slice Q L cq] := ⟨hXY.1.below hb34 hXY.1.lt, hXY.2.below hb34 hXY.2.lt⟩
  clear hG hb4 hb34 hb3'
  go_simp
  refine hK.out _ _ hXY4 (fun _ => ?_)
  clear hK K
  refine wpAnyH_ready (rs := [4]) (by kernel_rfl) (by simp) ?_
  refine AllReadyH.cons (o := _) rfl (fun K hK => ?_) AllReadyH.nil
  go_simp
  with_reducible refine (made17_ok A B C Q n m k c d e L cq N ls w4 (HH.out.below hb4') hok (HT.out.below hb4') HMAY.out.part).mono ?_
  rintro r w5 ⟨o, rfl, hO, hb5⟩
  have HO5 := Lib.hid (hO.le (msk_le _ _))
  have HG5 := Lib.hid (HG4.out.below hb5)
  have HB5 := Lib.hid (Bel.step hb4' hb5)
  have hXY5 : Blk w5 w.heap.size 26 #[.slice A n c, .slice B m d, .slice C k e] ∧ Blk w5 (w.heap.size + 1) 29 #[.slice Q L cq] := ⟨hXY4.1.below hb5 hXY4.1.lt, hXY4.2.below hb5 hXY4.2.lt⟩
  clear hO hb5 hb4' HG4
  go_simp
  refine hK.out _ _ hXY5 (fun _ => ?_)
  clear hK K
  refine tk 5 5 (h := ⟨_, tv, ?_⟩)
  simp only [pE, List.set]
  refine tk 6 6 (h := ⟨_, tv, ?_⟩)
  simp only [pE, List.set]
  refine wpAnyH_done (by kernel_rfl) ?_ _
  clear hXY hXY4 hXY5 HSX HH HT
  have hNC := sumA_few HMAY.out
  go_wp2_with fail
  with_reducible refine (all_ok w5 g o N ls HG5.out hok HO5.out HMAY.out.part hNC).mono ?_
  rintro r w6 ⟨D, cl, rfl, _, hD, hcl, hcost, hdo, hb6⟩
  have HALL := Lib.hid (hdo.all hcl)
  have HO6 := Lib.hid (HO5.out.below hb6)
  have HB6 := Lib.hid (Bel.step HB5.out hb6)
  have HCOST := Lib.hid hcost
  obtain ⟨NC, hNCe⟩ : ∃ NC, NC = sumA (gatesOf N.ar ls) := ⟨_, rfl⟩
  have HSZ := Lib.hid (oSize_any o N.ar ls w6 HO6.out)
  rw [← hNCe] at hNC HSZ hcl ⊢
  have HNC := Lib.hid hNCe
  have HCL := Lib.hid hcl
  clear hb6 hdo hcost HO5 HG5 HB5 hNCe hcl
  go_wp2_with fail
  with_reducible refine HSZ.out.mono ?_
  rintro e w' ⟨rfl, rfl⟩
  go_wp2_with fail
  clear HSZ
  go_loopw [8] (fun q V => Below w6.heap.size w6 V ∧ ∃ kk : Nat, kk ≤ NC ∧ q = .int .i64 kk) (fun q _ => NC - (intOf q).toNat)
  case atStart => exact ⟨Below.refl _ _, 0, Nat.zero_le _, rfl⟩
  case round =>
    obtain ⟨hbl, kk, hkk, rfl⟩ := hrel
    by_cases hlt : kk < NC
    rotate_left
    · obtain rfl : kk = NC := by omega
      go_wp2_with fail
      go_ret
      exact ⟨rfl, Bel.step HB6.out hbl⟩
    obtain ⟨i, l, cc, x, a, b, s, t, hent⟩ := ent_ex (N := N) (ls := ls) (k := kk) (by rw [← HNC.out]; exact hlt)
    obtain ⟨v, hv⟩ : ∃ v, cl[kk]? = some v := ⟨_, List.getElem?_eq_getElem (by rw [HCL.out]; exact hlt)⟩
    have hvb := HCOST.out v (List.mem_of_getElem? hv)
    have hv1 : ¬ (v < 0) := by omega
    have hv2 : ¬ (v > 1152921504606846976) := by omega
    have j1 : (kk : Int) < (NC : Int) := by omega
    have HW := Lib.hid (where_ok o i cc a b N.ar ls l x wr (HO6.out.below hbl) hent.hl hent.hx (List.getElem?_eq_some_iff.1 hent.ha).1 (List.getElem?_eq_some_iff.1 hent.hb).1 (by have := HMAY.out.part.l6; omega) (by rw [← HNC.out]; omega) (by
      have h1 := HMAY.out.part.lvl l (List.mem_of_getElem? hent.hl)
      have h2 := mostN_le (l := l) (n := (N.vs.length : Int)) (fun x hx => h1.hi x hx) (by omega)
      have h3 := HMAY.out.small.v
      omega))
    rw [← hent.hk] at HW
    have HENT := Lib.hid hent
    have HV := Lib.hid hv
    have hDr := hD.below hbl hD.lt
    clear hent hvb
    go_wp2_with fail
    with_reducible refine HW.out.mono ?_
    rintro e w7 ⟨rfl, hb7⟩
    have hD7 := hDr.below hb7 hDr.lt
    have z0 := hD7.cellI HV.out
    have z1 := hD7.lt
    have hbl7 := Bel.step hbl hb7
    clear hDr hb7 HW hbl
    rcases i with _ | j
    · go_wp2_with fail
      (refine calls_named ?_; intro w8 hw8)
      have hb8 : Below w7.heap.size w7 w8 := by rw [hw8]; exact bELt
      have hE8 : EnB w8 w7.heap.size D (.int .i64 1) (.int .i64 cc) (.int .i64 a) (.int .i64 b) cl := ⟨by rw [hw8]; refine Blk.new' _ _ _ ?_; rfl, hD7.below hb8 hD7.lt⟩
      clear hw8 z0 z1 hv1 hv2 hD7
      have hbl8 := Bel.step hbl7 hb8
      with_reducible refine (downIn_one o cc a w8).mono ?_
      rintro e w' ⟨rfl, rfl⟩
      obtain ⟨e0, e1, e2, e3⟩ := hE8.four
      go_wp2_with fail
      with_reducible refine (downOut_one o cc b w8).mono ?_
      rintro e w' ⟨rfl, rfl⟩
      go_wp2_with fail
      with_reducible refine (at_neg o 0 (-1) (-1) w8).mono ?_
      rintro e w' ⟨rfl, rfl⟩
      have HSX := Lib.hid (show ∀ V, EnB V w7.heap.size D (.int .i64 1) (.int .i64 cc) (.int .i64 a) (.int .i64 b) cl → V.cell? ⟨w7.heap.size, 0, none⟩ = some (.int .i64 1) from fun V hV => hV.four.1)
      clear e0 e1 e2 e3
      go_wp2_with fail
      refine wp_region_held_drew (S := fun V => EnB V w7.heap.size D (.int .i64 1) (.int .i64 cc) (.int .i64 a) (.int .i64 b) cl) (by kernel_rfl) (hE8.below (Below.refl _ _).drew) (fun _ => ?_)
      refine tk 0 99 (h := ⟨_, tv, ?_⟩)
      simp only [pE, List.set]
      refine tk 1 100 (h := ⟨_, tv, ?_⟩)
      simp only [pE, List.set]
      refine tk 2 101 (h := ⟨_, tv, ?_⟩)
      simp only [pE, List.set]
      refine tk 3 102 (h := ⟨_, tv, ?_⟩)
      simp only [pE, List.set]
      refine tu 4 103 (h := ?_)
      simp only [pE, List.set]
      refine tu 5 104 (h := ?_)
      simp only [pE, List.set]
      refine tu 6 105 (h := ?_)
      simp only [pE, List.set]
      refine tk 7 106 (h := ⟨_, tv, ?_⟩)
      simp only [pE, List.set]
      refine tk 8 107 (h := ⟨_, tv, ?_⟩)
      simp only [pE, List.set]
      refine tu 9 108 (h := ?_)
      simp only [pE, List.set]
      refine tu 10 109 (h := ?_)
      simp only [pE, List.set]
      refine tu 11 110 (h := ?_)
      simp only [pE, List.set]
      refine tu 12 111 (h := ?_)
      simp only [pE, List.set]
      refine tu 13 112 (h := ?_)
      simp only [pE, List.set]
      refine tu 14 113 (h := ?_)
      simp only [pE, List.set]
      refine tu 15 114 (h := ?_)
      simp only [pE, List.set]
      refine tu 16 115 (h := ?_)
      simp only [pE, List.set]
      refine tu 17 116 (h := ?_)
      simp only [pE, List.set]
      refine tu 18 117 (h := ?_)
      simp only [pE, List.set]
      refine tu 19 118 (h := ?_)
      simp only [pE, List.set]
      refine tu 20 119 (h := ?_)
      simp only [pE, List.set]
      refine tu 21 120 (h := ?_)
      simp only [pE, List.set]
      refine tu 22 121 (h := ?_)
      simp only [pE, List.set]
      refine tu 23 122 (h := ?_)
      simp only [pE, List.set]
      refine tu 24 123 (h := ?_)
      simp only [pE, List.set]
      refine tu 25 124 (h := ?_)
      simp only [pE, List.set]
      refine tu 26 125 (h := ?_)
      simp only [pE, List.set]
      refine tu 27 126 (h := ?_)
      simp only [pE, List.set]
      refine tk 28 127 (h := ⟨_, tv, ?_⟩)
      simp only [pE, List.set]
      refine wpAnyH_done (by kernel_rfl) ?_ _
      go_wp2_with fail
      go_roundw
      case rel => exact ⟨Bel.step hbl8 (Below.refl _ _).drew, kk + 1, by omega, by go_num⟩
      case measure => simp [intOf]; omega
    · obtain ⟨lb, hlb⟩ : ∃ lb, ls[j]? = some lb := ⟨_, List.getElem?_eq_getElem (by have := (List.getElem?_eq_some_iff.1 HENT.out.hl).1; omega)⟩
      have hA : ∀ t ∈ N.ar, ArcOk N.vs.length t := fun t ht => hok.arcs t ht
      obtain ⟨s', vi, q1, y1, hs', hvi, hq1, hy1, hm1, _⟩ := down_in HMAY.out.part hA HENT.out.hl hlb HENT.out.hx HENT.out.ha
      obtain rfl : s = s' := by omega
      obtain ⟨t', vo, q2, y2, ht', hvo, hq2, hy2, hm2, _⟩ := down_out HMAY.out.part hA HENT.out.hl hlb HENT.out.hx HENT.out.hb
      obtain rfl : t = t' := by omega
      obtain ⟨p1, hp1, hz1⟩ := plI_mem hm1
      obtain ⟨p2, hp2, hz2⟩ := plI_mem hm2
      have hlbn : lb.length ≤ 1000000 := by have := (HMAY.out.part.lvl lb (List.mem_of_getElem? hlb)).len; have := HMAY.out.small.v; omega
      have hL1 : ls.length ≤ 1000000 := by have := HMAY.out.part.l6; omega
      have hA1 : N.ar.length ≤ 1000000 := by have := HMAY.out.small.a; omega
      have HDI := Lib.hid (fun (V : World) (hV : Below w6.heap.size w6 V) => oDownIn_ok o j cc a s vi q1 N.ar ls l lb x y1 V (HO6.out.below hV) HENT.out.hl hlb hL1 HENT.out.hx HENT.out.ha hvi hq1 hy1 hA1 hlbn)
      have HDO := Lib.hid (fun (V : World) (hV : Below w6.heap.size w6 V) => oDownOut_ok o j cc b t vo q2 N.ar ls l lb x y2 V (HO6.out.below hV) HENT.out.hl hlb hL1 HENT.out.hx HENT.out.hb hvo hq2 hy2 hA1 hlbn)
      rw [hp1] at HDI
      rw [hp2] at HDO
      have hj6 : (j : Int) ≤ 5 := by have := (List.getElem?_eq_some_iff.1 HENT.out.hl).1; have := HMAY.out.part.l6; omega
      have k1 : ((j + 1 : Nat) : Int) + 1 = (j : Int) + 1 + 1 := by omega
      have k2 : IntKind.i64.wrap ((j : Int) + 1 + 1 - 1) = (j : Int) + 1 := by rw [IntWalk.i64_in _ (by omega)]; omega
      have k3 : (1 : Int) < (j : Int) + 1 + 1 := by omega
      have k3' : (1 : Int) ≤ (j : Int) + 1 := by omega
      have k3'' : (0 : Int) < (j : Int) + 1 := by omega
      have HP1 := Lib.hid hp1
      have HP2 := Lib.hid hp2
      have HZ1 := Lib.hid hz1
      have HZ2 := Lib.hid hz2
      have HLB := Lib.hid hlb
      have HY1 := Lib.hid hy1
      have HY2 := Lib.hid hy2
      clear hlb hA hs' hvi hq1 hy1 hm1 ht' hvo hq2 hy2 hm2 hp1 hp2 hz1 hz2 hlbn hA1
      rw [k1]
      clear k1
      go_wp2_with fail
      (refine calls_named ?_; intro w8 hw8)
      have hb8 : Below w7.heap.size w7 w8 := by rw [hw8]; exact bELt
      have hE8 : EnB w8 w7.heap.size D (.int .i64 ((j : Int) + 1 + 1)) (.int .i64 cc) (.int .i64 a) (.int .i64 b) cl := ⟨by rw [hw8]; refine Blk.new' _ _ _ ?_; rfl, hD7.below hb8 hD7.lt⟩
      clear hw8 z0 z1 hv1 hv2 hD7
      have hbl8 := Bel.step hbl7 hb8
      with_reducible refine (HDI.out w8 hbl8).mono ?_
      rintro e w9 ⟨rfl, hb9⟩
      have hE9 := hE8.below hb9
      have hbl9 := Bel.step hbl8 hb9
      obtain ⟨e0, e1, e2, e3⟩ := hE9.four
      clear hE8 hb8 hb9 hbl8 hbl7
      go_wp2_with fail
      with_reducible refine (HDO.out w9 hbl9).mono ?_
      rintro e wa ⟨rfl, hba⟩
      have hEa := hE9.below hba
      have hbla := Bel.step hbl9 hba
      clear e0 e1 e2 e3 hE9 hba hbl9
      obtain ⟨e0, e1, e2, e3⟩ := hEa.four
      have HAT := Lib.hid (show ∃ z : Int, Calls Tryz.prog 30 #[.pointer (some ⟨o, 0, none⟩), .int .i64 ((j : Int) + 1), .int .i64 q1, .int .i64 p1, .int .i64 p2] wa (fun e w' => e = .returned (.int .i64 z) ∧ Below wa.heap.size wa w') ∧ (q1 = q2 → ∃ (k' : Nat) (v' : Int), z = (k' : Int) ∧ k' < NC ∧ cl[k']? = some v' ∧ v ≤ v') from by
        have hp1' := (List.getElem?_eq_some_iff.1 HZ1.out).1
        by_cases hin : p2 < y1.2.length
        · refine ⟨_, at_ok o j q1 p1 p2 N.ar ls lb y1 wa (HO6.out.below hbla) HLB.out HY1.out hp1' hin hL1 (by rw [← HNC.out]; omega), fun e => ?_⟩
          have e4 := HY2.out
          rw [← e, HY1.out] at e4
          obtain rfl := Option.some.inj e4
          have he' : IsEnt N ls (enAt (gatesOf N.ar ls) (gateRow N.ar lb) j q1 y1 p1 p2) j lb q1 y1 p1 p2 s t := ⟨HLB.out, HY1.out, HZ1.out, HZ2.out, rfl⟩
          have hlt2 := he'.lt.2.2.1
          obtain ⟨v', hv'⟩ : ∃ v', cl[enAt (gatesOf N.ar ls) (gateRow N.ar lb) j q1 y1 p1 p2]? = some v' := ⟨_, List.getElem?_eq_getElem (by rw [HCL.out, HNC.out]; exact hlt2)⟩
          exact ⟨_, v', rfl, by rw [HNC.out]; exact hlt2, hv', wider_le hok HMAY.out.part HALL.out HENT.out he' HV.out hv'⟩
        · refine ⟨_, at_none o j q1 p1 p2 N.ar ls lb y1 wa (HO6.out.below hbla) HLB.out HY1.out hp1' (by omega) hL1, fun e => ?_⟩
          have e4 := HY2.out
          rw [← e, HY1.out] at e4
          obtain rfl := Option.some.inj e4
          exact absurd (List.getElem?_eq_some_iff.1 HZ2.out).1 hin)
      obtain ⟨z, hcall, hz⟩ := HAT.out
      have HCA := Lib.hid hcall
      clear HAT hcall
      go_wp2_with fail
      with_reducible refine HCA.out.mono ?_
      rintro e wb ⟨rfl, hbb⟩
      have hEb := hEa.below hbb
      have hblb := Bel.step hbla hbb
      clear e0 e1 e2 e3 hEa hbb hbla HCA
      by_cases hq : q1 = q2
      · obtain ⟨k', v', rfl, hk', hv', hle⟩ := hz hq
        have HQ := Lib.hid hq
        have k4 : ((q1 : Int) == (q2 : Int)) = true := by simp; omega
        have k5 : ¬ ((k' : Int) < 0) := by omega
        have k6 : ¬ ((k' : Int) ≥ (NC : Int)) := by omega
        have k7 : (k' : Int) < (NC : Int) := by omega
        have k8 : ¬ (v' < v) := by omega
        have HV' := Lib.hid hv'
        have HSX := Lib.hid (show ∀ V, EnB V w7.heap.size D (.int .i64 ((j : Int) + 1 + 1)) (.int .i64 cc) (.int .i64 a) (.int .i64 b) cl → V.cell? ⟨w7.heap.size, 0, none⟩ = some (.int .i64 ((j : Int) + 1 + 1)) ∧ V.cell? ⟨D, k', none⟩ = some (.int .i64 v') ∧ V.cell? ⟨D, kk, none⟩ = some (.int .i64 v) ∧ decide (NC ≤ k') = false ∧ decide (v' < v) = false from fun V hV => ⟨hV.four.1, hV.cost HV'.out, hV.cost HV.out, decide_eq_false (by omega), decide_eq_false (by omega)⟩)
        clear hz hq hv' hle hv
        go_wp2_with fail
        refine wp_region_held_drew (S := fun V => EnB V w7.heap.size D (.int .i64 ((j : Int) + 1 + 1)) (.int .i64 cc) (.int .i64 a) (.int .i64 b) cl) (by kernel_rfl) (hEb.below (Below.refl _ _).drew) (fun _ => ?_)
        refine tk 0 99 (h := ⟨_, tv, ?_⟩)
        simp only [pE, List.set]
        refine tk 1 100 (h := ⟨_, tv, ?_⟩)
        simp only [pE, List.set]
        refine tk 2 101 (h := ⟨_, tv, ?_⟩)
        simp only [pE, List.set]
        refine tk 3 102 (h := ⟨_, tv, ?_⟩)
        simp only [pE, List.set]
        refine tk 4 103 (h := ⟨_, tv, ?_⟩)
        simp only [pE, List.set]
        refine tk 5 104 (h := ⟨_, tv, ?_⟩)
        simp only [pE, List.set]
        refine tk 6 105 (h := ⟨_, tv, ?_⟩)
        simp only [pE, List.set]
        refine tk 7 106 (h := ⟨_, tv, ?_⟩)
        simp only [pE, List.set]
        refine tk 8 107 (h := ⟨_, tv, ?_⟩)
        simp only [pE, List.set]
        refine tk 9 108 (h := ⟨_, tv, ?_⟩)
        simp only [pE, List.set]
        refine tk 10 109 (h := ⟨_, tv, ?_⟩)
        simp only [pE, List.set]
        refine tk 11 110 (h := ⟨_, tv, ?_⟩)
        simp only [pE, List.set]
        refine tk 12 111 (h := ⟨_, tv, ?_⟩)
        simp only [pE, List.set]
        refine tk 13 112 (h := ⟨_, tv, ?_⟩)
        simp only [pE, List.set]
        refine tk 14 113 (h := ⟨_, tv, ?_⟩)
        simp only [pE, List.set]
        refine tk 15 114 (h := ⟨_, tv, ?_⟩)
        simp only [pE, List.set]
        refine tk 16 115 (h := ⟨_, tv, ?_⟩)
        simp only [pE, List.set]
        refine tk 17 116 (h := ⟨_, tv, ?_⟩)
        simp only [pE, List.set]
        refine tk 18 117 (h := ⟨_, tv, ?_⟩)
        simp only [pE, List.set]
        refine tk 19 118 (h := ⟨_, tv, ?_⟩)
        simp only [pE, List.set]
        refine tk 20 119 (h := ⟨_, tv, ?_⟩)
        simp only [pE, List.set]
        refine tk 21 120 (h := ⟨_, tv, ?_⟩)
        simp only [pE, List.set]
        refine tk 22 121 (h := ⟨_, tv, ?_⟩)
        simp only [pE, List.set]
        refine tk 23 122 (h := ⟨_, tv, ?_⟩)
        simp only [pE, List.set]
        refine tk 24 123 (h := ⟨_, tv, ?_⟩)
        simp only [pE, List.set]
        refine tk 25 124 (h := ⟨_, tv, ?_⟩)
        simp only [pE, List.set]
        refine tk 26 125 (h := ⟨_, tv, ?_⟩)
        simp only [pE, List.set]
        refine tk 27 126 (h := ⟨_, tv, ?_⟩)
        simp only [pE, List.set]
        refine tk 28 127 (h := ⟨_, tv, ?_⟩)
        simp only [pE, List.set]
        refine wpAnyH_done (by kernel_rfl) ?_ _
        go_wp2_with fail
        go_roundw
        case rel => exact ⟨Bel.step hblb (Below.refl _ _).drew, kk + 1, by omega, by go_num⟩
        case measure => simp [intOf]; omega
      · have k4 : ((q1 : Int) == (q2 : Int)) = false := by simp; omega
        have HSX := Lib.hid (show ∀ V, EnB V w7.heap.size D (.int .i64 ((j : Int) + 1 + 1)) (.int .i64 cc) (.int .i64 a) (.int .i64 b) cl → V.cell? ⟨w7.heap.size, 0, none⟩ = some (.int .i64 ((j : Int) + 1 + 1)) from fun V hV => hV.four.1)
        have HQ := Lib.hid hq
        clear hz hq
        go_wp2_with fail
        refine wp_region_held_drew (S := fun V => EnB V w7.heap.size D (.int .i64 ((j : Int) + 1 + 1)) (.int .i64 cc) (.int .i64 a) (.int .i64 b) cl) (by kernel_rfl) (hEb.below (Below.refl _ _).drew) (fun _ => ?_)
        refine tk 0 99 (h := ⟨_, tv, ?_⟩)
        simp only [pE, List.set]
        refine tk 1 100 (h := ⟨_, tv, ?_⟩)
        simp only [pE, List.set]
        refine tk 2 101 (h := ⟨_, tv, ?_⟩)
        simp only [pE, List.set]
        refine tk 3 102 (h := ⟨_, tv, ?_⟩)
        simp only [pE, List.set]
        refine tk 4 103 (h := ⟨_, tv, ?_⟩)
        simp only [pE, List.set]
        refine tk 5 104 (h := ⟨_, tv, ?_⟩)
        simp only [pE, List.set]
        refine tk 6 105 (h := ⟨_, tv, ?_⟩)
        simp only [pE, List.set]
        refine tk 7 106 (h := ⟨_, tv, ?_⟩)
        simp only [pE, List.set]
        refine tk 8 107 (h := ⟨_, tv, ?_⟩)
        simp only [pE, List.set]
        refine tu 9 108 (h := ?_)
        simp only [pE, List.set]
        refine tu 10 109 (h := ?_)
        simp only [pE, List.set]
        refine tu 11 110 (h := ?_)
        simp only [pE, List.set]
        refine tu 12 111 (h := ?_)
        simp only [pE, List.set]
        refine tu 13 112 (h := ?_)
        simp only [pE, List.set]
        refine tu 14 113 (h := ?_)
        simp only [pE, List.set]
        refine tu 15 114 (h := ?_)
        simp only [pE, List.set]
        refine tu 16 115 (h := ?_)
        simp only [pE, List.set]
        refine tu 17 116 (h := ?_)
        simp only [pE, List.set]
        refine tu 18 117 (h := ?_)
        simp only [pE, List.set]
        refine tu 19 118 (h := ?_)
        simp only [pE, List.set]
        refine tu 20 119 (h := ?_)
        simp only [pE, List.set]
        refine tu 21 120 (h := ?_)
        simp only [pE, List.set]
        refine tu 22 121 (h := ?_)
        simp only [pE, List.set]
        refine tu 23 122 (h := ?_)
        simp only [pE, List.set]
        refine tu 24 123 (h := ?_)
        simp only [pE, List.set]
        refine tu 25 124 (h := ?_)
        simp only [pE, List.set]
        refine tu 26 125 (h := ?_)
        simp only [pE, List.set]
        refine tu 27 126 (h := ?_)
        simp only [pE, List.set]
        refine tk 28 127 (h := ⟨_, tv, ?_⟩)
        simp only [pE, List.set]
        refine wpAnyH_done (by kernel_rfl) ?_ _
        go_wp2_with fail
        go_roundw
        case rel => exact ⟨Bel.step hblb (Below.refl _ _).drew, kk + 1, by omega, by go_num⟩
        case measure => simp [intOf]; omega
end Go.Proofs.YtgkeolddpielpaaGreat

/- A law's arguments, opened: what a slice that came in reads as. -/
namespace Go.Proofs.YtgkeolddpielpaaGreat
open Go.ChangeShapes Go.WideShapes Go.ChangeAt Go.RowKit Go.Deep

theorem own_ : ownKnob Tryz.prog.godebug = none := by kernel_rfl
theorem laidOut_ : laidOutB Tryz.prog = true := by kernel_rfl

theorem list_of {α : Type} {p : Nat → α → Prop} : ∀ (n : Nat), (∀ i, i < n → ∃ a, p i a) → ∃ l : List α, l.length = n ∧ ∀ i a, l[i]? = some a → p i a
  | 0, _ => ⟨[], rfl, fun i a h => by simp at h⟩
  | n + 1, h => by
    obtain ⟨l, hl, hp⟩ := list_of n (fun i hi => h i (by omega))
    obtain ⟨a, ha⟩ := h n (by omega)
    refine ⟨l ++ [a], by simp [hl], fun i b hb => ?_⟩
    rcases Nat.lt_or_ge i n with h1 | h1
    · rw [List.getElem?_append_left (by omega)] at hb; exact hp i b hb
    · rw [List.getElem?_append_right (by omega), hl] at hb
      have : i = n := by
        rcases Nat.lt_or_ge (i - n) 1 with h2 | h2
        · omega
        · rw [List.getElem?_eq_none (by simpa using h2)] at hb; cases hb
      subst this
      simp at hb
      subst hb
      exact ha

section
variable {H : Type} {enc : TypeId × Value → H} {P : Program} {w : World} {base : Nat} {spare : Nat → Bool} {held : Bool}

/-- A slice: its elements by a relation between an element's cells and what they say. -/
theorem open_list {α : Type} {t e k : Nat} (ht : P.underlying t = some (.slice e)) (hk : P.cellsOf e = k) (hk0 : 0 < k) (Rel : List Value → α → Prop)
    (hel : ∀ (fuel : Nat) (cs : List Value) (x : DataW H × List MemPlace), DataW.trod enc P w base spare held fuel e cs = some x → ∃ a, Rel cs a)
    {A : Option Addr} {n c fuel : Nat} {x : DataW H × List MemPlace} (h : DataW.trod enc P w base spare held fuel t [.slice A n c] = some x) :
    ∃ l : List α, l.length = n ∧ n ≤ c ∧ c ≤ 9223372036854775807 ∧ (n = 0 ∨ ∃ el sp, x.1 = .slice el sp ∧ el.length = n) ∧
      ∀ i a, l[i]? = some a → ∃ b o vs, A = some ⟨b, o, none⟩ ∧ Rel vs a ∧ vs.length = k ∧ ∀ j v, vs[j]? = some v → w.cell? ⟨b, o + i * k + j, none⟩ = some v := by
  rcases open_slice ht h with ⟨h0, _⟩ | ⟨a, len, cap, m, n', D, Pl, hcs, hb, hl, hm, hmm, hx, hi⟩
  · simp only [List.cons.injEq, Value.slice.injEq, and_true] at h0
    obtain ⟨rfl, rfl, rfl⟩ := h0
    exact ⟨[], rfl, Nat.le_refl _, by omega, .inl rfl, fun i a h => by simp at h⟩
  · simp only [List.cons.injEq, Value.slice.injEq, and_true] at hcs
    obtain ⟨rfl, rfl, rfl⟩ := hcs
    have hlm : n ≤ m := by rw [hmm]; split <;> omega
    obtain ⟨l, hll, hlp⟩ := list_of (p := fun i (y : α) => ∃ vs, Rel vs y ∧ vs.length = k ∧ ∀ j v, vs[j]? = some v → w.cell? ((a.add (i * k)).add j) = some v) n (fun i hin => by
      obtain ⟨cs', hc, ht'⟩ := hi i (by omega)
      rw [hk] at hc
      obtain ⟨_, hlen, hat⟩ := World.cells?_some hc
      obtain ⟨y, hy⟩ := hel _ _ _ ht'
      refine ⟨y, cs', hy, hlen, fun j v hv => ?_⟩
      have hj : j < k := by rw [← hlen]; exact (List.getElem?_eq_some_iff.1 hv).1
      rw [hat j hj, hv])
    refine ⟨l, hll, hl, (by unfold maxLen at hm; omega), .inr ⟨_, _, by rw [hx], by simp⟩, fun i y hy => ?_⟩
    obtain ⟨vs, h1, h2, h3⟩ := hlp i y hy
    have hspot : a.spot = none := by
      have h4 := h3 0 vs[0] (List.getElem?_eq_getElem (by omega))
      have h5 := World.cell?_spot h4
      unfold Addr.add at h5
      by_cases h6 : i * k = 0
      · simpa [h6] using h5
      · have hl0 : l.length = n := hll
        have h7 : 0 < n := by
          have := (List.getElem?_eq_some_iff.1 hy).1
          omega
        obtain ⟨y0, hy0⟩ : ∃ y0, l[0]? = some y0 := ⟨l[0], List.getElem?_eq_getElem (by omega)⟩
        obtain ⟨vs0, g1, g2, g3⟩ := hlp 0 y0 hy0
        have g4 := World.cell?_spot (g3 0 vs0[0] (List.getElem?_eq_getElem (by omega)))
        simpa [Addr.add] using g4
    obtain ⟨b, o, sp⟩ := a
    simp only at hspot
    subst hspot
    refine ⟨b, o, vs, rfl, h1, h2, fun j v hv => ?_⟩
    have := h3 j v hv
    unfold Addr.add at this
    by_cases h6 : i * k = 0
    · by_cases h7 : j = 0
      · simpa [h6, h7] using this
      · simpa [h6, h7] using this
    · by_cases h7 : j = 0
      · simpa [h6, h7] using this
      · simpa [h6, h7] using this

theorem rel_int {k : IntKind} {e : Nat} (he : P.underlying e = some (.int k)) (fuel : Nat) (cs : List Value) (x : DataW H × List MemPlace) (h : DataW.trod enc P w base spare held fuel e cs = some x) :
    ∃ n : Int, cs = [.int k n] ∧ (Lit.int k n).wf = true := by
  obtain ⟨n, h1, _, h3⟩ := DataW.trod_int he h
  exact ⟨n, h1, h3⟩
theorem rel_pair {e e1 : Nat} (he : P.underlying e = some (.array 2 e1)) (h1 : P.underlying e1 = some (.int .i64)) (hc : P.cellsOf e1 = 1) (hc2 : P.cellsOf e = 2) (fuel : Nat) (cs : List Value) (x : DataW H × List MemPlace)
    (h : DataW.trod enc P w base spare held fuel e cs = some x) : ∃ p : Int × Int, cs = [.int .i64 p.1, .int .i64 p.2] := by
  obtain ⟨xs, m, _, _, hcl, hxl, hi⟩ := DataW.trod_array he h
  have a0 := hi 0 (by omega)
  have a1 := hi 1 (by omega)
  rw [List.getElem?_eq_getElem (by omega)] at a0 a1
  obtain ⟨n0, e0, _⟩ := DataW.trod_int h1 a0
  obtain ⟨n1, e1', _⟩ := DataW.trod_int h1 a1
  rw [hc2] at hcl
  match cs, hcl with
  | [c0, c1], _ =>
    simp [hc] at e0 e1'
    exact ⟨(n0, n1), by simp [e0, e1']⟩

theorem open_pairs {t e e1 : Nat} (ht : P.underlying t = some (.slice e)) (he : P.underlying e = some (.array 2 e1)) (h1 : P.underlying e1 = some (.int .i64)) (hc : P.cellsOf e1 = 1) (hc2 : P.cellsOf e = 2)
    {A : Option Addr} {n c fuel : Nat} {x : DataW H × List MemPlace} (h : DataW.trod enc P w base spare held fuel t [.slice A n c] = some x) :
    ∃ l : List (Int × Int), RdP w A n l ∧ n ≤ c ∧ c ≤ 9223372036854775807 ∧ (n = 0 ∨ ∃ el sp, x.1 = .slice el sp ∧ el.length = n) := by
  obtain ⟨l, hl, hnc, hcm, hsz, hr⟩ := open_list ht hc2 (by omega) (fun cs (p : Int × Int) => cs = [.int .i64 p.1, .int .i64 p.2]) (rel_pair he h1 hc hc2) h
  refine ⟨l, ⟨hl, fun i p hp => ?_⟩, hnc, hcm, hsz⟩
  obtain ⟨b, o, vs, rfl, rfl, _, hv⟩ := hr i p hp
  exact ⟨b, o, rfl, hv 0 _ rfl, hv 1 _ rfl⟩
theorem rel_bool {e : Nat} (he : P.underlying e = some .bool) (fuel : Nat) (cs : List Value) (x : DataW H × List MemPlace) (h : DataW.trod enc P w base spare held fuel e cs = some x) :
    ∃ n : Bool, cs = [.bool n] := by
  obtain ⟨n, h1, _⟩ := DataW.trod_bool he h
  exact ⟨n, h1⟩
theorem open_bools {t e : Nat} (ht : P.underlying t = some (.slice e)) (he : P.underlying e = some .bool) (hc : P.cellsOf e = 1)
    {A : Option Addr} {n c fuel : Nat} {x : DataW H × List MemPlace} (h : DataW.trod enc P w base spare held fuel t [.slice A n c] = some x) :
    ∃ l : List Bool, RdB w A n l ∧ n ≤ c ∧ c ≤ 9223372036854775807 ∧ (n = 0 ∨ ∃ el sp, x.1 = .slice el sp ∧ el.length = n) := by
  obtain ⟨l, hl, hnc, hcm, hsz, hr⟩ := open_list ht hc (by omega) (fun cs (p : Bool) => cs = [.bool p]) (rel_bool he) h
  refine ⟨l, ⟨hl, fun i p hp => ?_⟩, hnc, hcm, hsz⟩
  obtain ⟨b, o, vs, rfl, rfl, _, hv⟩ := hr i p hp
  exact ⟨b, o, rfl, by have := hv 0 _ rfl; simpa using this⟩
theorem open_intsK {k : IntKind} {t e : Nat} (ht : P.underlying t = some (.slice e)) (he : P.underlying e = some (.int k)) (hc : P.cellsOf e = 1)
    {A : Option Addr} {n c fuel : Nat} {x : DataW H × List MemPlace} (h : DataW.trod enc P w base spare held fuel t [.slice A n c] = some x) :
    ∃ l : List Int, RdK k w A n l ∧ n ≤ c ∧ c ≤ 9223372036854775807 ∧ (n = 0 ∨ ∃ el sp, x.1 = .slice el sp ∧ el.length = n) ∧ ∀ a ∈ l, (Lit.int k a).wf = true := by
  obtain ⟨l, hl, hnc, hcm, hsz, hr⟩ := open_list ht hc (by omega) (fun cs (p : Int) => cs = [.int k p] ∧ (Lit.int k p).wf = true) (rel_int he) h
  refine ⟨l, ⟨hl, fun i p hp => ?_⟩, hnc, hcm, hsz, fun a ha => ?_⟩
  · obtain ⟨b, o, vs, rfl, ⟨rfl, _⟩, _, hv⟩ := hr i p hp
    exact ⟨b, o, rfl, by have := hv 0 _ rfl; simpa using this⟩
  · obtain ⟨i, hi, e1⟩ := List.getElem_of_mem ha
    obtain ⟨b, o, vs, _, ⟨_, h2⟩, _, _⟩ := hr i a (by rw [List.getElem?_eq_getElem hi, e1])
    exact h2
end
end Go.Proofs.YtgkeolddpielpaaGreat

/- The law's arguments, opened: a net, cells. -/
namespace Go.Proofs.YtgkeolddpielpaaGreat
open Go.ChangeShapes Go.WideShapes Go.ChangeAt Go.RowKit Go.Deep

theorem list_one {α : Type} : ∀ {l : List α}, l.length = 1 → ∃ a, l = [a]
  | [a], _ => ⟨a, rfl⟩
theorem list_three {α : Type} : ∀ {l : List α}, l.length = 3 → ∃ a b c, l = [a, b, c]
  | [a, b, c], _ => ⟨a, b, c, rfl⟩
section
variable {H : Type} {enc : TypeId × Value → H} {w : World} {base : Nat} {spare : Nat → Bool} {held : Bool}
theorem slice_cell {t e : TypeId} (ht : Tryz.prog.underlying t = some (.slice e)) {fuel : Nat} {cs : List Value} {x : DataW H × List MemPlace} (h : DataW.trod enc Tryz.prog w base spare held fuel t cs = some x) : ∃ A n c, cs = [.slice A n c] := by
  rcases open_slice ht h with ⟨h0, _⟩ | ⟨a, len, cap, m, n', D, Pl, hcs, _⟩
  · exact ⟨_, _, _, h0⟩
  · exact ⟨_, _, _, hcs⟩
theorem rel_row (fuel : Nat) (cs : List Value) (x : DataW H × List MemPlace) (h : DataW.trod enc Tryz.prog w base spare held fuel 36 cs = some x) :
    ∃ l : List Int, ∃ A n c, cs = [.slice A n c] ∧ RdI w A n l ∧ n ≤ c ∧ c ≤ 9223372036854775807 := by
  obtain ⟨A, n, c, rfl⟩ := slice_cell Tryz.underlying36 h
  obtain ⟨l, h1, h2, h3, _, _⟩ := open_intsK Tryz.underlying36 Tryz.underlying3 (by kernel_rfl) h
  exact ⟨l, A, n, c, rfl, h1, h2, h3⟩
theorem open_part {cs : List Value} {fuel : Nat} {x : DataW H × List MemPlace} (h : DataW.trod enc Tryz.prog w base spare held fuel 29 cs = some x) :
    ∃ (A : Option Addr) (n c : Nat) (ls : List (List Int)), cs = [.slice A n c] ∧ RdT w A n ls ∧ n ≤ c ∧ c ≤ 9223372036854775807 := by
  obtain ⟨xs, m, _, _, hcl, hxl, hi⟩ := DataW.trod_struct Tryz.underlying29 h
  have hxl' : xs.length = 1 := hxl
  have a0 : DataW.trod enc Tryz.prog w base spare held m 27 ((cs.drop 0).take (Tryz.prog.cellsOf 27)) = xs[0]? := hi 0 _ rfl
  rw [List.getElem?_eq_getElem (by omega)] at a0
  obtain ⟨A, n, c, e0⟩ := slice_cell Tryz.underlying27 a0
  rw [e0] at a0
  obtain ⟨l, hl, hnc, hcm, _, hr⟩ := open_list Tryz.underlying27 (k := 1) (by kernel_rfl) (by omega) (fun cs (l : List Int) => ∃ A n c, cs = [.slice A n c] ∧ RdI w A n l ∧ n ≤ c ∧ c ≤ 9223372036854775807) rel_row a0
  rw [show Tryz.prog.cellsOf 29 = 1 by kernel_rfl] at hcl
  rw [show Tryz.prog.cellsOf 27 = 1 by kernel_rfl] at e0
  clear a0 hi h
  obtain ⟨c0, rfl⟩ := list_one hcl
  simp at e0
  refine ⟨A, n, c, l, by simp [e0], ⟨hl, fun i p hp => ?_⟩, hnc, hcm⟩
  obtain ⟨b, o, vs, e, ⟨A', n', c', e2, h1, h2, h3⟩, _, hv⟩ := hr i p hp
  subst e2
  exact ⟨b, o, A', n', c', e, by have := hv 0 _ rfl; simpa using this, h1, h2, h3⟩
theorem rel_vert (fuel : Nat) (cs : List Value) (x : DataW H × List MemPlace) (h : DataW.trod enc Tryz.prog w base spare held fuel 121 cs = some x) : ∃ p : Tri, cs = [.int .i64 p.1, .int .i64 p.2.1, .int .i64 p.2.2] := by
  obtain ⟨xs, m, _, _, hcl, hxl, hi⟩ := DataW.trod_struct Tryz.underlying121 h
  have hxl' : xs.length = 3 := hxl
  have a0 : DataW.trod enc Tryz.prog w base spare held m 3 ((cs.drop 0).take (Tryz.prog.cellsOf 3)) = xs[0]? := hi 0 _ rfl
  have a1 : DataW.trod enc Tryz.prog w base spare held m 3 ((cs.drop 1).take (Tryz.prog.cellsOf 3)) = xs[1]? := hi 1 _ rfl
  have a2 : DataW.trod enc Tryz.prog w base spare held m 3 ((cs.drop 2).take (Tryz.prog.cellsOf 3)) = xs[2]? := hi 2 _ rfl
  rw [List.getElem?_eq_getElem (by omega)] at a0 a1 a2
  obtain ⟨n0, e0, _⟩ := DataW.trod_int Tryz.underlying3 a0
  obtain ⟨n1, e1, _⟩ := DataW.trod_int Tryz.underlying3 a1
  obtain ⟨n2, e2, _⟩ := DataW.trod_int Tryz.underlying3 a2
  rw [show Tryz.prog.cellsOf 121 = 3 by kernel_rfl] at hcl
  rw [show Tryz.prog.cellsOf 3 = 1 by kernel_rfl] at e0 e1 e2
  clear a0 a1 a2 hi h
  obtain ⟨c0, c1, c2, rfl⟩ := list_three hcl
  simp at e0 e1 e2
  exact ⟨(n0, n1, n2), by simp [e0, e1, e2]⟩
theorem rel_arc (fuel : Nat) (cs : List Value) (x : DataW H × List MemPlace) (h : DataW.trod enc Tryz.prog w base spare held fuel 107 cs = some x) : ∃ p : Tri, cs = [.int .i64 p.1, .int .i64 p.2.1, .int .i64 p.2.2] := by
  obtain ⟨xs, m, _, _, hcl, hxl, hi⟩ := DataW.trod_struct Tryz.underlying107 h
  have hxl' : xs.length = 3 := hxl
  have a0 : DataW.trod enc Tryz.prog w base spare held m 3 ((cs.drop 0).take (Tryz.prog.cellsOf 3)) = xs[0]? := hi 0 _ rfl
  have a1 : DataW.trod enc Tryz.prog w base spare held m 3 ((cs.drop 1).take (Tryz.prog.cellsOf 3)) = xs[1]? := hi 1 _ rfl
  have a2 : DataW.trod enc Tryz.prog w base spare held m 2 ((cs.drop 2).take (Tryz.prog.cellsOf 2)) = xs[2]? := hi 2 _ rfl
  rw [List.getElem?_eq_getElem (by omega)] at a0 a1 a2
  obtain ⟨n0, e0, _⟩ := DataW.trod_int Tryz.underlying3 a0
  obtain ⟨n1, e1, _⟩ := DataW.trod_int Tryz.underlying3 a1
  obtain ⟨n2, e2, _⟩ := DataW.trod_int Tryz.underlying2 a2
  rw [show Tryz.prog.cellsOf 107 = 3 by kernel_rfl] at hcl
  rw [show Tryz.prog.cellsOf 3 = 1 by kernel_rfl] at e0 e1
  rw [show Tryz.prog.cellsOf 2 = 1 by kernel_rfl] at e2
  clear a0 a1 a2 hi h
  obtain ⟨c0, c1, c2, rfl⟩ := list_three hcl
  simp at e0 e1 e2
  exact ⟨(n0, n1, n2), by simp [e0, e1, e2]⟩
/-- A table's cells. -/
def TabCs (w : World) (cs : List Value) (t : TabD) : Prop := ∃ (A : Option Addr) (n c : Nat), cs = [.int .i64 t.ins, .int .i64 t.outs, .slice A n c] ∧ RdI w A n t.costs ∧ n ≤ c ∧ c ≤ 9223372036854775807
theorem rel_tab (fuel : Nat) (cs : List Value) (x : DataW H × List MemPlace) (h : DataW.trod enc Tryz.prog w base spare held fuel 119 cs = some x) : ∃ t : TabD, TabCs w cs t := by
  obtain ⟨xs, m, _, _, hcl, hxl, hi⟩ := DataW.trod_struct Tryz.underlying119 h
  have hxl' : xs.length = 3 := hxl
  have a0 : DataW.trod enc Tryz.prog w base spare held m 3 ((cs.drop 0).take (Tryz.prog.cellsOf 3)) = xs[0]? := hi 0 _ rfl
  have a1 : DataW.trod enc Tryz.prog w base spare held m 3 ((cs.drop 1).take (Tryz.prog.cellsOf 3)) = xs[1]? := hi 1 _ rfl
  have a2 : DataW.trod enc Tryz.prog w base spare held m 44 ((cs.drop 2).take (Tryz.prog.cellsOf 44)) = xs[2]? := hi 2 _ rfl
  rw [List.getElem?_eq_getElem (by omega)] at a0 a1 a2
  obtain ⟨n0, e0, _⟩ := DataW.trod_int Tryz.underlying3 a0
  obtain ⟨n1, e1, _⟩ := DataW.trod_int Tryz.underlying3 a1
  obtain ⟨A, n, c, e2⟩ := slice_cell Tryz.underlying44 a2
  rw [e2] at a2
  obtain ⟨l, h1, h2, h3, _, _⟩ := open_intsK Tryz.underlying44 Tryz.underlying2 (by kernel_rfl) a2
  rw [show Tryz.prog.cellsOf 119 = 3 by kernel_rfl] at hcl
  rw [show Tryz.prog.cellsOf 3 = 1 by kernel_rfl] at e0 e1
  rw [show Tryz.prog.cellsOf 44 = 1 by kernel_rfl] at e2
  clear a0 a1 a2 hi h
  obtain ⟨c0, c1, c2, rfl⟩ := list_three hcl
  simp at e0 e1 e2
  exact ⟨⟨n0, n1, l⟩, A, n, c, by simp [e0, e1, e2], h1, h2, h3⟩
theorem open_net {cs : List Value} {fuel : Nat} {x : DataW H × List MemPlace} (h : DataW.trod enc Tryz.prog w base spare held fuel 26 cs = some x) :
    ∃ (A B C : Option Addr) (n m k c d e : Nat) (N : NetD), cs = [.slice A n c, .slice B m d, .slice C k e] ∧ RdNet w A B C n m k N ∧ k ≤ 9223372036854775807 := by
  obtain ⟨xs, f, _, _, hcl, hxl, hi⟩ := DataW.trod_struct Tryz.underlying26 h
  have hxl' : xs.length = 3 := hxl
  have a0 : DataW.trod enc Tryz.prog w base spare held f 22 ((cs.drop 0).take (Tryz.prog.cellsOf 22)) = xs[0]? := hi 0 _ rfl
  have a1 : DataW.trod enc Tryz.prog w base spare held f 23 ((cs.drop 1).take (Tryz.prog.cellsOf 23)) = xs[1]? := hi 1 _ rfl
  have a2 : DataW.trod enc Tryz.prog w base spare held f 24 ((cs.drop 2).take (Tryz.prog.cellsOf 24)) = xs[2]? := hi 2 _ rfl
  rw [List.getElem?_eq_getElem (by omega)] at a0 a1 a2
  obtain ⟨A, n, c, e0⟩ := slice_cell Tryz.underlying22 a0
  obtain ⟨B, m, d, e1⟩ := slice_cell Tryz.underlying23 a1
  obtain ⟨C, k, e, e2⟩ := slice_cell Tryz.underlying24 a2
  rw [e0] at a0
  rw [e1] at a1
  rw [e2] at a2
  obtain ⟨vs, hl0, _, _, _, hr0⟩ := open_list Tryz.underlying22 (k := 3) (by kernel_rfl) (by omega) (fun cs (p : Tri) => cs = [.int .i64 p.1, .int .i64 p.2.1, .int .i64 p.2.2]) rel_vert a0
  obtain ⟨ar, hl1, _, _, _, hr1⟩ := open_list Tryz.underlying23 (k := 3) (by kernel_rfl) (by omega) (fun cs (p : Tri) => cs = [.int .i64 p.1, .int .i64 p.2.1, .int .i64 p.2.2]) rel_arc a1
  obtain ⟨ts, hl2, hkc, hcm, _, hr2⟩ := open_list Tryz.underlying24 (k := 3) (by kernel_rfl) (by omega) (TabCs w) rel_tab a2
  rw [show Tryz.prog.cellsOf 26 = 3 by kernel_rfl] at hcl
  rw [show Tryz.prog.cellsOf 22 = 1 by kernel_rfl] at e0
  rw [show Tryz.prog.cellsOf 23 = 1 by kernel_rfl] at e1
  rw [show Tryz.prog.cellsOf 24 = 1 by kernel_rfl] at e2
  clear a0 a1 a2 hi h
  obtain ⟨c0, c1, c2, rfl⟩ := list_three hcl
  simp at e0 e1 e2
  refine ⟨A, B, C, n, m, k, c, d, e, ⟨vs, ar, ts⟩, by simp [e0, e1, e2], ⟨⟨hl0, fun i p hp => ?_⟩, ⟨hl1, fun i p hp => ?_⟩, ⟨hl2, fun i p hp => ?_⟩⟩, by omega⟩
  · obtain ⟨b, o, us, e5, rfl, _, hv⟩ := hr0 i p hp
    exact ⟨b, o, e5, by have := hv 0 _ rfl; simpa using this, hv 1 _ rfl, hv 2 _ rfl⟩
  · obtain ⟨b, o, us, e5, rfl, _, hv⟩ := hr1 i p hp
    exact ⟨b, o, e5, by have := hv 0 _ rfl; simpa using this, hv 1 _ rfl, hv 2 _ rfl⟩
  · obtain ⟨b, o, us, e5, ⟨A', n', c', rfl, h1, h2, h3⟩, _, hv⟩ := hr2 i p hp
    exact ⟨b, o, e5, by have := hv 0 _ rfl; simpa using this, hv 1 _ rfl, A', n', c', hv 2 _ rfl, h1, h2, h3⟩
end

end Go.Proofs.YtgkeolddpielpaaGreat
