/- Parts of the proof: RoL, Fr, Open. -/
import Derived.Test.YtgkeolddpielpaaGreatM27
import Derived.Test.YtgkeolddpielpaaGreatRows
import Derived.ProofKit
import Derived.OpenShut
import Derived.Deep.Slices
import Derived.SizedLaws
namespace Go.Proofs.YtgkeolddpielpaaGreat
open Go.RowKit

attribute [local go_sem ↓] Go.wp_at_zero Go.wp_at_succ

set_option maxHeartbeats 2000000 in
theorem refCost_ok (A B C NX TX Q G : Option Addr) (n m k c d e cx ct L cq cg i q a b s t : Nat) (xA xB xC xE : Value) (N : NetD) (ls : List (List Int)) (l : List Int) (x : GateD) (w : World) (h : RdNet w A B C n m k N) (hok : NetOk N) (hnx : RdT w NX m (nxtAll N)) (htx : RdT w TX m (trnAll N)) (hq : RdT w Q L ls) (hP : PartOk N.vs.length ls) (hG : RdG w G L (gatesOf N.ar ls))
 (hl : ls[i]? = some l) (hx : (gateRow N.ar l)[q]? = some x) (ha : x.1[a]? = some (s : Int)) (hb : x.2[b]? = some (t : Int)) :
 Calls Tryz.prog 48 #[.agg #[.slice A n c, .slice B m d, .slice C k e, .slice NX m cx, .slice TX m ct], .agg #[xA, xB, xC, .slice Q L cq, .slice G L cg, xE], .agg #[.int .i64 ((i : Int) + 1), .int .i64 q, .int .i64 a, .int .i64 b]] w fun r w' => (∃ v, r = .returned (.int .i64 v) ∧ EntC N (mkOf l q) s t v) ∧ Below w.heap.size w w' := by
 have hL6 : L ≤ 6 := by rw [← hq.1]; exact hP.l6
 have hLL := hq.1
 have hiL : i < L := by rw [← hLL]; exact (List.getElem?_eq_some_iff.1 hl).1
 have hlv := hok.lv
 have hla := hok.la
 have hlm : N.ar.length = m := h.2.1.1
 have hln : N.vs.length = n := h.1.1
 have hqM : q ≤ 4096 := by
  have h1 := hP.lvl l (List.mem_of_getElem? hl)
  have h2 := mostN_le (l := l) (n := (N.vs.length : Int)) (fun x hx => h1.hi x hx) (by omega)
  have h3 := (List.getElem?_eq_some_iff.1 hx).1
  rw [gateRow_len] at h3
  omega
 have hgx := gate_in_le hx
 obtain ⟨l0, hl0⟩ : ∃ l, ls[0]? = some l := ⟨_, List.getElem?_eq_getElem (by omega)⟩
 have hlen := (hP.lvl l (List.mem_of_getElem? hl)).len
 have hlen0 := (hP.lvl l0 (List.mem_of_getElem? hl0)).len
 have hs : s < m := by
  obtain ⟨y, hy, _⟩ := (gate_in hx).1 (List.mem_of_getElem? ha)
  rw [← hlm]; exact (List.getElem?_eq_some_iff.1 hy).1
 have ht : t < m := by
  obtain ⟨y, hy, _⟩ := (gate_out hx).1 (List.mem_of_getElem? hb)
  rw [← hlm]; exact (List.getElem?_eq_some_iff.1 hy).1
 have hab : a < x.1.length := (List.getElem?_eq_some_iff.1 ha).1
 have hbb : b < x.2.length := (List.getElem?_eq_some_iff.1 hb).1
 have HGT := Lib.hid (fun V (hV : Below w.heap.size w V) => ref20Gate_ok xA xB xC (.slice Q L cq) xE G L cg i q N.ar ls l x V (hG.le (Le.below hV)) hl hx (by omega) (by omega))
 have HMK := Lib.hid (fun V (hV : Below w.heap.size w V) => refMarks_ok Q L cq i n (q : Int) ls l l0 V (hq.below hV) hl (by omega) hl0 (by rw [hlen, hln]) (by rw [hlen0, hln]) (by omega))
 have HIS := Lib.hid (fun V (hV : Below w.heap.size w V) (MA : Option Addr) (hm : RdB V MA n (mkOf l (q : Int))) => refInside_ok A B C NX TX n m k c d e cx ct s t N MA n (mkOf l (q : Int)) V (h.below hV) hok (hnx.below hV) (htx.below hV) hm hs ht)
 have HA := Lib.hid ha
 have HB := Lib.hid hb
 have HLN := Lib.hid (show (mkOf l (q : Int)).length = n by rw [mkOf_len, hlen, hln])
 have i1 : (0 : Int) ≤ (a : Int) := by omega
 have i2 : (0 : Int) ≤ (b : Int) := by omega
 clear h hok hnx htx hq hP hG hl hx ha hb hl0 hlen hlen0 hLL hlm hln
 go_enter Tryz.func48, Tryz.ntmps48
 go_wp2_with fail
 (refine calls_named ?_; intro w1 hw1)
 have hb1 : Below w.heap.size w w1 := by rw [hw1]; exact bELt
 have hR1 : Blk w1 w.heap.size 99 #[.slice A n c, .slice B m d, .slice C k e, .slice NX m cx, .slice TX m ct] := by
  rw [hw1]
  repeat (first | (refine Blk.new' _ _ _ ?_ <;> simp <;> done) | apply Blk.alloc)
 have hO1 : Blk w1 (w.heap.size + 1) 52 #[xA, xB, xC, .slice Q L cq, .slice G L cg, xE] := by
  rw [hw1]
  repeat (first | (refine Blk.new' _ _ _ ?_ <;> simp <;> done) | apply Blk.alloc)
 have hE1 : Blk w1 (w.heap.size + 1 + 1) 102 #[.int .i64 ((i : Int) + 1), .int .i64 q, .int .i64 a, .int .i64 b] := by
  rw [hw1]
  repeat (first | (refine Blk.new' _ _ _ ?_ <;> simp <;> done) | apply Blk.alloc)
 clear hw1
 with_reducible refine (HGT.out w1 hb1).mono ?_
 rintro r w2 ⟨A1, n1, c1, A2, n2, c2, rfl, h1, h2, hb2⟩
 have hbw2 := Bel.step hb1 hb2
 have hR2 := hR1.below hb2 hR1.lt
 have hO2 := hO1.below hb2 hO1.lt
 have hE2 := hE1.below hb2 hE1.lt
 have H1 := Lib.hid h1
 have H2 := Lib.hid h2
 have hn1 := h1.1
 have hn2 := h2.1
 clear h1 h2 hb1 hb2 hR1 hO1 hE1 HGT
 go_wp2_with fail
 (refine wp_named ?_; intro w3 hw3)
 have hb3 : Below w2.heap.size w2 w3 := by rw [hw3]; exact bELt
 have hX3 : Blk w3 w2.heap.size 74 #[.slice A1 n1 c1, .slice A2 n2 c2] := by rw [hw3]; exact Blk.new _ _ _
 clear hw3
 obtain ⟨ab, ao, z1, rfl, hz1, cz1⟩ := (H1.out.below hb3).at_ (i := a) (by omega)
 rw [HA.out] at hz1
 cases hz1
 obtain ⟨bb, bo, z2, rfl, hz2, cz2⟩ := (H2.out.below hb3).at_ (i := b) (by omega)
 rw [HB.out] at hz2
 cases hz2
 have hR3 := hR2.below hb3 hR2.lt
 have hO3 := hO2.below hb3 hO2.lt
 have hE3 := hE2.below hb3 hE2.lt
 have hbw3 := Bel.step hbw2 hb3
 have i3 : (a : Int) < (n1 : Int) := by omega
 have i4 : (b : Int) < (n2 : Int) := by omega
 have HSX := Lib.hid (show ∀ V, Below w3.heap.size w3 V → V.cell? ⟨w.heap.size, 0, none⟩ = some (.slice A n c) ∧ V.cell? ⟨w.heap.size, 1, none⟩ = some (.slice B m d) ∧ V.cell? ⟨w.heap.size, 2, none⟩ = some (.slice C k e) ∧ V.cell? ⟨w.heap.size, 3, none⟩ = some (.slice NX m cx) ∧ V.cell? ⟨w.heap.size, 4, none⟩ = some (.slice TX m ct) ∧
  V.cell? ⟨w.heap.size + 1, 3, none⟩ = some (.slice Q L cq) ∧ V.cell? ⟨w.heap.size + 1 + 1, 0, none⟩ = some (.int .i64 ((i : Int) + 1)) ∧ V.cell? ⟨w.heap.size + 1 + 1, 1, none⟩ = some (.int .i64 q) ∧ V.cell? ⟨w.heap.size + 1 + 1, 2, none⟩ = some (.int .i64 a) ∧ V.cell? ⟨w.heap.size + 1 + 1, 3, none⟩ = some (.int .i64 b) ∧
  V.cell? ⟨w2.heap.size, 0, none⟩ = some (.slice (some ⟨ab, ao, none⟩) n1 c1) ∧ V.cell? ⟨w2.heap.size, 1, none⟩ = some (.slice (some ⟨bb, bo, none⟩) n2 c2) ∧ V.cell? ⟨ab, ao + a, none⟩ = some (.int .i64 s) ∧ V.cell? ⟨bb, bo + b, none⟩ = some (.int .i64 t) from
  fun V hV => ⟨by rw [(hR3.below hV hR3.lt).cell]; rfl, by rw [(hR3.below hV hR3.lt).cell]; rfl, by rw [(hR3.below hV hR3.lt).cell]; rfl, by rw [(hR3.below hV hR3.lt).cell]; rfl, by rw [(hR3.below hV hR3.lt).cell]; rfl, by rw [(hO3.below hV hO3.lt).cell]; rfl, by rw [(hE3.below hV hE3.lt).cell]; rfl, by rw [(hE3.below hV hE3.lt).cell]; rfl, by rw [(hE3.below hV hE3.lt).cell]; rfl, by rw [(hE3.below hV hE3.lt).cell]; rfl,
   by rw [(hX3.below hV hX3.lt).cell]; rfl, by rw [(hX3.below hV hX3.lt).cell]; rfl, Below.cellOf hV (Nat.le_refl _) cz1, Below.cellOf hV (Nat.le_refl _) cz2⟩)
 clear hR2 hO2 hE2 hR3 hO3 hE3 hX3 cz1 cz2 hbw2 hb3
 refine wp_region_held_drew (S := fun V => Below w3.heap.size w3 V) (by kernel_rfl) (Below.refl _ _).drew (fun _ => ?_)
 refine tk 0 14 (h := ⟨_, tv, ?_⟩)
 simp only [pE, List.set]
 refine tk 1 15 (h := ⟨_, tv, ?_⟩)
 simp only [pE, List.set]
 refine tk 2 16 (h := ⟨_, tv, ?_⟩)
 simp only [pE, List.set]
 refine tk 3 17 (h := ⟨_, tv, ?_⟩)
 simp only [pE, List.set]
 refine tk 4 18 (h := ⟨_, tv, ?_⟩)
 simp only [pE, List.set]
 refine tk 5 19 (h := ⟨_, tv, ?_⟩)
 simp only [pE, List.set]
 refine tk 6 20 (h := ⟨_, tv, ?_⟩)
 simp only [pE, List.set]
 refine tk 7 21 (h := ⟨_, tv, ?_⟩)
 simp only [pE, List.set]
 refine tk 8 22 (h := ⟨_, tv, ?_⟩)
 simp only [pE, List.set]
 refine tk 9 23 (h := ⟨_, tv, ?_⟩)
 simp only [pE, List.set]
 refine tk 10 24 (h := ⟨_, tv, ?_⟩)
 simp only [pE, List.set]
 refine tk 11 25 (h := ⟨_, tv, ?_⟩)
 simp only [pE, List.set]
 refine tk 12 26 (h := ⟨_, tv, ?_⟩)
 simp only [pE, List.set]
 refine tk 13 27 (h := ⟨_, tv, ?_⟩)
 simp only [pE, List.set]
 refine tk 14 28 (h := ⟨_, tv, ?_⟩)
 simp only [pE, List.set]
 refine tk 15 29 (h := ⟨_, tv, ?_⟩)
 simp only [pE, List.set]
 refine tk 16 30 (h := ⟨_, tv, ?_⟩)
 simp only [pE, List.set]
 refine tk 17 31 (h := ⟨_, tv, ?_⟩)
 simp only [pE, List.set]
 refine tk 18 32 (h := ⟨_, tv, ?_⟩)
 simp only [pE, List.set]
 refine wpAnyH_ready (rs := [19]) (by kernel_rfl) (by simp) ?_
 refine AllReadyH.cons (o := _) rfl (fun K hK => ?_) AllReadyH.nil
 go_simp
 with_reducible refine (HMK.out _ (hbw3.trans ((Below.refl _ _).drew.mono hbw3.size))).mono ?_
 rintro r w4 ⟨bm, rfl, hbm, _, hb4⟩
 have hb4' : Below w3.heap.size w3 w4 := (Below.refl _ _).drew.trans hb4
 go_simp
 refine hK.out _ _ hb4' (fun _ => ?_)
 clear hK K
 refine wpAnyH_ready (rs := [20]) (by kernel_rfl) (by simp) ?_
 refine AllReadyH.cons (o := _) rfl (fun K hK => ?_) AllReadyH.nil
 go_simp
 with_reducible refine (HIS.out w4 (Bel.step hbw3 hb4') _ (hbm.rdB HLN.out)).mono ?_
 rintro r w5 ⟨⟨v, rfl, hv⟩, hb5⟩
 have hb5' := Bel.step hb4' hb5
 go_simp
 refine hK.out _ _ hb5' (fun _ => ?_)
 clear hK K
 refine tk 21 6 (h := ⟨_, tv, ?_⟩)
 simp only [pE, List.set]
 refine wpAnyH_done (by kernel_rfl) ?_ _
 have HV := Lib.hid hv
 have HB5 := Lib.hid (Bel.step hbw3 hb5')
 clear hv hb4 hb5 hb4' hb5' hbm HSX
 go_wp2_with fail
 go_ret
 exact ⟨⟨v, rfl, HV.out⟩, HB5.out⟩
set_option maxHeartbeats 2000000 in
theorem ref20Plain_ok (A B C Q G AE : Option Addr) (n m k c d e L cq cg ce : Nat) (EL : List Ent) (xA xB xC : Value) (N : NetD) (ls : List (List Int)) (w : World) (h : RdNet w A B C n m k N) (hok : NetOk N) (hq : RdT w Q L ls) (hP : PartOk N.vs.length ls) (hG : RdG w G L (gatesOf N.ar ls)) (hE : Rds w 4 AE EL.length (ecells EL)) (hEl : EL.length = sumA (gatesOf N.ar ls)) (hEP : EntP N ls EL) (hNC : sumA (gatesOf N.ar ls) ≤ 1000000000) :
 Calls Tryz.prog 19 #[.agg #[.slice A n c, .slice B m d, .slice C k e], .agg #[xA, xB, xC, .slice Q L cq, .slice G L cg, .slice AE EL.length ce]] w fun r w' => ∃ A' c' cl, r = .returned (.slice A' (List.length cl) c') ∧ RdI w' A' cl.length cl ∧ IsAll N ls cl ∧ cl.length ≤ c' ∧ Below w.heap.size w w' := by
 obtain ⟨NE, hNE⟩ : ∃ NE, NE = EL.length := ⟨_, rfl⟩
 rw [← hNE] at hE ⊢
 have hNE9 : NE ≤ 1000000000 := by omega
 have HNE := Lib.hid (show NE = sumA (gatesOf N.ar ls) by rw [hNE]; exact hEl)
 have HNL := Lib.hid hNE
 have HOF := Lib.hid (fun V (hV : Below w.heap.size w V) => ref11Of_ok A B C n m k c d e N V (h.below hV) hok)
 have HCO := Lib.hid (fun (NX TX : Option Addr) (cx ct : Nat) (i q a b s t : Nat) (l : List Int) (x : GateD) V (hV : Below w.heap.size w V) (hnx : RdT V NX m (nxtAll N)) (htx : RdT V TX m (trnAll N)) hl hx ha hb => refCost_ok A B C NX TX Q G n m k c d e cx ct L cq cg i q a b s t xA xB xC (.slice AE NE ce) N ls l x V (h.below hV) hok hnx htx (hq.below hV) hP (hG.le (Le.below hV)) hl hx ha hb)
 have HE := Lib.hid hE
 have HEP := Lib.hid hEP
 have hm : m ≤ 16384 := by rw [← h.2.1.1]; exact hok.la
 clear h hok hq hP hG hE hEl hEP hNE
 go_enter Tryz.func19, Tryz.ntmps19
 go_wp2_with fail
 (refine calls_named ?_; intro w1 hw1)
 have hb1 : Below w.heap.size w w1 := by rw [hw1]; exact bELt
 have hX1 : Blk w1 w.heap.size 26 #[.slice A n c, .slice B m d, .slice C k e] := by
  rw [hw1]
  repeat (first | (refine Blk.new' _ _ _ ?_ <;> simp <;> done) | apply Blk.alloc)
 have hO1 : Blk w1 (w.heap.size + 1) 52 #[xA, xB, xC, .slice Q L cq, .slice G L cg, .slice AE NE ce] := by
  rw [hw1]
  repeat (first | (refine Blk.new' _ _ _ ?_ <;> simp <;> done) | apply Blk.alloc)
 clear hw1
 with_reducible refine (HOF.out w1 hb1).mono ?_
 rintro r w2 ⟨NX, cx, TX, ct, rfl, hnx, htx, hb2⟩
 have hbw2 := Bel.step hb1 hb2
 have hO2 := hO1.below hb2 hO1.lt
 have HNX := Lib.hid hnx
 have HTX := Lib.hid htx
 clear hb1 hb2 hX1 hO1 hnx htx HOF
 go_wp2_with fail
 (refine wp_named ?_; intro v1 hv1)
 have hbv : Below w2.heap.size w2 v1 := by rw [hv1]; exact bELt
 have hR : Blk v1 w2.heap.size 99 #[.slice A n c, .slice B m d, .slice C k e, .slice NX m cx, .slice TX m ct] := by rw [hv1]; exact Blk.new _ _ _
 clear hv1
 have hO := hO2.below hbv hO2.lt
 have hbw := Bel.step hbw2 hbv
 have HBW := Lib.hid hbw
 have HNX1 := Lib.hid (HNX.out.below hbv)
 have HTX1 := Lib.hid (HTX.out.below hbv)
 clear hO2 hbw2 hbv HNX HTX hbw
 go_loopw [6, 7] (fun z q V => ∃ (i : Nat) (A' : Option Addr) (cp : Nat) (cl : List Int), i ≤ NE ∧ q = .int .i64 i ∧ z = .slice A' i cp ∧ cl.length = i ∧ Own V v1.heap.size 2 1 A' i cp (icells cl) ∧ RowE N ls cl ∧ Below v1.heap.size v1 V) (fun _ q _ => NE - (intOf q).toNat)
 case atStart => exact ⟨0, none, 0, [], Nat.zero_le _, rfl, rfl, rfl, Own.nil _ _ _ _, (fun k v hk => by simp at hk), Below.refl _ _⟩
 case round =>
  obtain ⟨i, A', cp, cl, hi, rfl, rfl, hcl, hown, hrow, hbl⟩ := hrel
  have HCL := Lib.hid hcl
  have HOW := Lib.hid hown
  have HRW := Lib.hid hrow
  have HBL := Lib.hid hbl
  have hOr := hO.below hbl hO.lt
  have x5 : wr.cell? ⟨w.heap.size + 1, 5, none⟩ = some (.slice AE NE ce) := by rw [hOr.cell]; rfl
  have xl := hOr.lt
  clear hcl hown hrow hOr
  by_cases hlt : i < NE
  rotate_left
  · obtain rfl : i = NE := by omega
    have j1 : ¬ ((i : Int) < (i : Int)) := by omega
    clear hbl
    go_wp2_with fail
    go_ret
    refine ⟨A', cp, cl, by rw [HCL.out]; rfl, ?_, ⟨by rw [HCL.out]; exact HNE.out, HRW.out⟩, by rw [HCL.out]; exact HOW.out.cap, Bel.step HBW.out HBL.out⟩
    rw [HCL.out]
    exact HOW.out.rds.rdI
  obtain ⟨⟨il, iq, ia, ib⟩, he⟩ : ∃ e, EL[i]? = some e := ⟨_, List.getElem?_eq_getElem (by rw [← HNL.out]; exact hlt)⟩
  obtain ⟨l, x, s, t, hent⟩ := HEP.out i _ he
  simp only at hent
  have hEr := HE.out.below HBW.out
  have hc := fun (q : Nat) (u : Value) (hq : q < 4) (hu : (ecell (il, iq, ia, ib))[q]? = some u) => hEr.2 (i * 4 + q) u (by rw [ecells_at EL i _ he q hq]; exact hu)
  obtain ⟨eb, eo, rfl, c0⟩ := hc 0 _ (by omega) rfl
  obtain ⟨_, _, e1, c1⟩ := hc 1 _ (by omega) rfl
  cases e1
  obtain ⟨_, _, e2, c2⟩ := hc 2 _ (by omega) rfl
  cases e2
  obtain ⟨_, _, e3, c3⟩ := hc 3 _ (by omega) rfl
  cases e3
  rw [← Nat.add_assoc] at c0 c1 c2 c3
  rw [Nat.add_zero] at c0
  simp only at c0 c1 c2 c3
  have j1 : (i : Int) < (NE : Int) := by omega
  have j2 : (0 : Int) ≤ (i : Int) := by omega
  have HEN := Lib.hid hent
  have HSX := Lib.hid (show ∀ V, Below v1.heap.size v1 V → V.cell? ⟨w2.heap.size, 0, none⟩ = some (.slice A n c) ∧ V.cell? ⟨w2.heap.size, 1, none⟩ = some (.slice B m d) ∧ V.cell? ⟨w2.heap.size, 2, none⟩ = some (.slice C k e) ∧ V.cell? ⟨w2.heap.size, 3, none⟩ = some (.slice NX m cx) ∧ V.cell? ⟨w2.heap.size, 4, none⟩ = some (.slice TX m ct) ∧
   V.cell? ⟨w.heap.size + 1, 0, none⟩ = some xA ∧ V.cell? ⟨w.heap.size + 1, 1, none⟩ = some xB ∧ V.cell? ⟨w.heap.size + 1, 2, none⟩ = some xC ∧ V.cell? ⟨w.heap.size + 1, 3, none⟩ = some (.slice Q L cq) ∧ V.cell? ⟨w.heap.size + 1, 4, none⟩ = some (.slice G L cg) ∧ V.cell? ⟨w.heap.size + 1, 5, none⟩ = some (.slice (some ⟨eb, eo, none⟩) NE ce) ∧
   V.cell? ⟨eb, eo + i * 4, none⟩ = some (.int .i64 ((il : Int) + 1)) ∧ V.cell? ⟨eb, eo + i * 4 + 1, none⟩ = some (.int .i64 iq) ∧ V.cell? ⟨eb, eo + i * 4 + 2, none⟩ = some (.int .i64 ia) ∧ V.cell? ⟨eb, eo + i * 4 + 3, none⟩ = some (.int .i64 ib) from
   fun V hV => by
    have hR' := hR.below hV hR.lt
    have hO' := hO.below hV hO.lt
    exact ⟨by rw [hR'.cell]; rfl, by rw [hR'.cell]; rfl, by rw [hR'.cell]; rfl, by rw [hR'.cell]; rfl, by rw [hR'.cell]; rfl, by rw [hO'.cell]; rfl, by rw [hO'.cell]; rfl, by rw [hO'.cell]; rfl, by rw [hO'.cell]; rfl, by rw [hO'.cell]; rfl, by rw [hO'.cell]; rfl,
     Below.cellOf hV (Nat.le_refl _) c0, Below.cellOf hV (Nat.le_refl _) c1, Below.cellOf hV (Nat.le_refl _) c2, Below.cellOf hV (Nat.le_refl _) c3⟩)
  clear hent hc he hEr c0 c1 c2 c3
  go_wp2_with fail
  refine wp_region_held_drew (S := fun V => Below v1.heap.size v1 V) (by kernel_rfl) HBL.out.drew (fun _ => ?_)
  refine tk 0 17 (h := ⟨_, tv, ?_⟩)
  simp only [pE, List.set]
  refine tk 1 18 (h := ⟨_, tv, ?_⟩)
  simp only [pE, List.set]
  refine tk 2 19 (h := ⟨_, tv, ?_⟩)
  simp only [pE, List.set]
  refine tk 3 20 (h := ⟨_, tv, ?_⟩)
  simp only [pE, List.set]
  refine tk 4 21 (h := ⟨_, tv, ?_⟩)
  simp only [pE, List.set]
  refine tk 5 22 (h := ⟨_, tv, ?_⟩)
  simp only [pE, List.set]
  refine tk 6 23 (h := ⟨_, tv, ?_⟩)
  simp only [pE, List.set]
  refine tk 7 24 (h := ⟨_, tv, ?_⟩)
  simp only [pE, List.set]
  refine wpAnyH_ready (rs := [8]) (by kernel_rfl) (by simp) ?_
  refine AllReadyH.cons (o := _) rfl (fun K hK => ?_) AllReadyH.nil
  go_simp
  with_reducible refine (HCO.out NX TX cx ct il iq ia ib s t l x _ (Bel.step HBW.out HBL.out.drew) (HNX1.out.below HBL.out.drew) (HTX1.out.below HBL.out.drew) HEN.out.hl HEN.out.hx HEN.out.ha HEN.out.hb).mono ?_
  rintro r w4 ⟨⟨u, rfl, hu⟩, hb4⟩
  have hb4' : Below wr.heap.size wr w4 := (Below.refl _ _).drew.trans hb4
  have HU := Lib.hid (show EntV N ls cl.length u from ⟨il, l, iq, x, ia, ib, s, t, by rw [HCL.out]; exact HEN.out, hu⟩)
  have HB4 := Lib.hid (Bel.step HBL.out hb4')
  have HO4 := Lib.hid (HOW.out.below hb4')
  clear hu hb4 hb4'
  go_simp
  refine hK.out _ _ HB4.out (fun _ => ?_)
  clear hK K
  refine wpAnyH_ready (rs := [9]) (by kernel_rfl) (by simp) ?_
  refine AllReadyH.cons (o := _) rfl (fun K hK => ?_) AllReadyH.nil
  go_simp
  refine hK.out _ _ (Bel.step HB4.out bELt) (fun _ => ?_)
  clear hK K
  obtain ⟨W5, hW5⟩ : ∃ W5, W5 = w4.alloc (.cells #[.int .i64 u] 2) := ⟨_, rfl⟩
  rw [← hW5]
  have hb5 : Below w4.heap.size w4 W5 := by rw [hW5]; exact bELt
  have hrd : Rds W5 1 (some ⟨w4.heap.size, 0, none⟩) 1 (icells [u]) := by rw [hW5]; exact (Blk.new w4 2 #[.int .i64 u]).rds rfl
  have hown := HO4.out.below hb5
  have HB5 := Lib.hid (Bel.step HB4.out hb5)
  have hsz : v1.heap.size ≤ W5.heap.size := HB5.out.size
  clear hW5 hb5
  refine wpAnyH_ready (rs := [10]) (by kernel_rfl) (by simp) ?_
  refine AllReadyH.cons (o := _) rfl (fun K hK => ?_) AllReadyH.nil
  with_reducible refine step_app' (some 27) rfl rfl (.tmp 17) (.tmp 26) 44 rfl 2 _ 1 8 infoI64 Tryz.underlying44 rfl (by omega) rfl rfl hown hrd (icells_one _) (by omega) (by omega) hsz ?_
  intro A3 c3 w8 ho8 hg8 hat8
  have hb8 := Bel.grownOwn HB5.out hg8 hown hsz
  refine hK.out _ _ hb8 (fun _ => ?_)
  clear hK K
  simp only [Act.put, List.setIfInBounds_toArray, List.set_cons_zero, List.set_cons_succ]
  refine tk 11 6 (h := ⟨_, tv, ?_⟩)
  simp only [pE, List.set]
  refine wpAnyH_done (by kernel_rfl) ?_ _
  have HB8 := Lib.hid hb8
  have HO8 := Lib.hid (show Own w8 v1.heap.size 2 1 A3 (i + 1) c3 (icells (cl ++ [u])) by rw [icells_app]; exact ho8)
  have HR8 := Lib.hid (HRW.out.push HU.out)
  clear hown hrd hsz ho8 hg8 hat8 hb8 HSX
  go_wp2_with fail
  go_roundw
  case rel => exact ⟨i + 1, A3, c3, cl ++ [u], by omega, by go_num, rfl, by rw [List.length_append, HCL.out]; rfl, HO8.out, HR8.out, HB8.out⟩
  case measure => simp [intOf]; omega
end Go.Proofs.YtgkeolddpielpaaGreat

namespace Go.Proofs.YtgkeolddpielpaaGreat
open Go.RowKit

attribute [local go_sem ↓] Go.wp_at_zero Go.wp_at_succ

set_option maxRecDepth 20000 in
set_option maxHeartbeats 4000000 in
theorem fillRight_walk (A B C Q : Option Addr) (n m k c d e L cq : Nat) (N : NetD) (ls : List (List Int)) (w : World) (h : RdNet w A B C n m k N) (hk : k ≤ 9223372036854775807) (hq : RdT w Q L ls) (hL : L ≤ 9223372036854775807) (CA : Option Addr) (nC cC : Nat) (lC : List Int) (hc : RdI w CA nC lC) (hnC : nC ≤ 4000000000000000000) (av : Nat) (hav : av < 65536) (u : Int) :
 Calls Tryz.prog 4 #[.agg #[.slice A n c, .slice B m d, .slice C k e], .agg #[.slice Q L cq], .slice CA nC cC, .int .u16 av, .int .i64 u] w fun r w' => r = .returned (.bool true) ∧ Below w.heap.size w w' := by
 have HH := Lib.hid h
 have HT := Lib.hid hq
 have HC := Lib.hid hc
 clear h hq hc
 go_enter Tryz.func4, Tryz.ntmps4
 go_wp2_with fail
 (refine calls_named ?_; intro w1 hw1)
 have hb1 : Below w.heap.size w w1 := by rw [hw1]; exact bELt
 have hX : Blk w1 w.heap.size 26 #[.slice A n c, .slice B m d, .slice C k e] := by
  rw [hw1]
  refine Blk.alloc ?_ _
  refine Blk.new' _ _ _ ?_
  rfl
 have hY : Blk w1 (w.heap.size + 1) 29 #[.slice Q L cq] := by
  rw [hw1]
  refine Blk.new' _ _ _ ?_
  simp
 clear hw1
 with_reducible refine (known18_ok w1).mono ?_
 rintro r w2 ⟨rfl, hb2⟩
 have hX2 := hX.below hb2 hX.lt
 have hY2 := hY.below hb2 hY.lt
 have hb2' := Bel.step hb1 hb2
 clear hX hY hb1 hb2
 have x0 := hX2.cell 0
 have x1 := hX2.cell 1
 have x2 := hX2.cell 2
 have y0 := hY2.cell 0
 simp only [List.getElem?_toArray, List.getElem?_cons_zero, List.getElem?_cons_succ] at x0 x1 x2 y0
 go_wp2_with fail
 with_reducible refine (may15_any A B C Q n m k c d e L cq N ls w2 (HH.out.below hb2') hk (HT.out.below hb2') hL).mono ?_
 rintro r w3 ⟨hr, hb3⟩
 have hb3' := Bel.step hb2' hb3
 have hX3 := hX2.below hb3 hX2.lt
 have hY3 := hY2.below hb3 hY2.lt
 clear x0 x1 x2 y0 hX2 hY2 hb2' hb3
 obtain ⟨b, rfl, hG⟩ := hr
 cases b with
 | false =>
  clear hG
  go_wp2_with fail
  go_ret
  exact ⟨rfl, hb3'⟩
 | true =>
 have hmay := hG rfl
 clear hG
 have HMAY := Lib.hid hmay
 have hok := hmay.small.ok
 have l6 : L ≤ 6 := by rw [← HT.out.1]; exact hmay.part.l6
 clear hmay
 have hXY : Blk w3 w.heap.size 26 #[.slice A n c, .slice B m d, .slice C k e] ∧ Blk w3 (w.heap.size + 1) 29 #[.slice Q L cq] := ⟨hX3, hY3⟩
 have HSX := Lib.hid (show ∀ V, Blk V w.heap.size 26 #[.slice A n c, .slice B m d, .slice C k e] ∧ Blk V (w.heap.size + 1) 29 #[.slice Q L cq] → V.cell? ⟨w.heap.size, 0, none⟩ = some (.slice A n c) ∧ V.cell? ⟨w.heap.size, 1, none⟩ = some (.slice B m d) ∧ V.cell? ⟨w.heap.size, 2, none⟩ = some (.slice C k e) ∧ V.cell? ⟨w.heap.size + 1, 0, none⟩ = some (.slice Q L cq) from
  fun V hV => ⟨by rw [hV.1.cell]; rfl, by rw [hV.1.cell]; rfl, by rw [hV.1.cell]; rfl, by rw [hV.2.cell]; rfl⟩)
 clear hX3 hY3
 by_cases h400 : nC ≤ 400
 rotate_left
 · have i1 : (nC : Int) > 400 := by omega
   clear hXY HSX
   go_wp2_with fail
   go_ret
   exact ⟨rfl, hb3'⟩
 have i1 : ¬ ((nC : Int) > 400) := by omega
 go_wp2_with fail
 refine wp_region_held_drew (S := fun V => Blk V w.heap.size 26 #[.slice A n c, .slice B m d, .slice C k e] ∧ Blk V (w.heap.size + 1) 29 #[.slice Q L cq]) (by kernel_rfl) ⟨hXY.1.drew, hXY.2.drew⟩ (fun _ => ?_)
 refine tk 0 27 (h := ⟨_, tv, ?_⟩)
 simp only [pE, List.set]
 refine tk 2 29 (h := ⟨_, tv, ?_⟩)
 simp only [pE, List.set]
 refine tk 3 30 (h := ⟨_, tv, ?_⟩)
 simp only [pE, List.set]
 refine wpAnyH_ready (rs := [1]) (by kernel_rfl) (by simp) ?_
 refine AllReadyH.cons (o := _) rfl (fun K hK => ?_) AllReadyH.nil
 go_simp
 with_reducible refine (made8_ok A B C n m k c d e N w3.drew (HH.out.below (Bel.step hb3' (Below.refl _ _).drew)) hok).mono ?_
 rintro r w4 ⟨g, rfl, hG, hb4⟩
 have hb34 : Below w3.heap.size w3 w4 := (Below.refl _ _).drew.trans hb4
 have HG4 := Lib.hid hG.rd
 have hb4' := Bel.step hb3' hb34
 have hXY4 : Blk w4 w.heap.size 26 #[.slice A n c, .slice B m d, .slice C k e] ∧ Blk w4 (w.heap.size + 1) 29 #[.slice Q L cq] := ⟨hXY.1.below hb34 hXY.1.lt, hXY.2.below hb34 hXY.2.lt⟩
 clear hG hb4 hb34 hb3'
 go_simp
 refine hK.out _ _ hXY4 (fun _ => ?_)
 clear hK K
 refine wpAnyH_ready (rs := [4]) (by kernel_rfl) (by simp) ?_
 refine AllReadyH.cons (o := _) rfl (fun K hK => ?_) AllReadyH.nil
 go_simp
 with_reducible refine (made17_ok A B C Q n m k c d e L cq N ls w4 (HH.out.below hb4') hok (HT.out.below hb4') HMAY.out.part).mono ?_
 rintro r w5 ⟨o, rfl, hO, hb5⟩
 have HO5 := Lib.hid (hO.le (msk_le _ _))
 have HG5 := Lib.hid (HG4.out.below hb5)
 have HB5 := Lib.hid (Bel.step hb4' hb5)
 have hXY5 : Blk w5 w.heap.size 26 #[.slice A n c, .slice B m d, .slice C k e] ∧ Blk w5 (w.heap.size + 1) 29 #[.slice Q L cq] := ⟨hXY4.1.below hb5 hXY4.1.lt, hXY4.2.below hb5 hXY4.2.lt⟩
 clear hO hb5 hb4' HG4
 go_simp
 refine hK.out _ _ hXY5 (fun _ => ?_)
 clear hK K
 refine tk 5 11 (h := ⟨_, tv, ?_⟩)
 simp only [pE, List.set]
 refine tk 6 12 (h := ⟨_, tv, ?_⟩)
 simp only [pE, List.set]
 refine wpAnyH_done (by kernel_rfl) ?_ _
 clear hXY hXY4
 have hNC := sumA_few HMAY.out
 go_wp2_with fail
 refine wp_region_held_drew (S := fun V => Blk V w.heap.size 26 #[.slice A n c, .slice B m d, .slice C k e] ∧ Blk V (w.heap.size + 1) 29 #[.slice Q L cq]) (by kernel_rfl) ⟨hXY5.1.drew, hXY5.2.drew⟩ (fun _ => ?_)
 refine tk 0 38 (h := ⟨_, tv, ?_⟩)
 simp only [pE, List.set]
 refine tk 1 39 (h := ⟨_, tv, ?_⟩)
 simp only [pE, List.set]
 refine tk 2 40 (h := ⟨_, tv, ?_⟩)
 simp only [pE, List.set]
 refine wpAnyH_ready (rs := [3]) (by kernel_rfl) (by simp) ?_
 refine AllReadyH.cons (o := _) rfl (fun K hK => ?_) AllReadyH.nil
 go_simp
 have hbd5 : Below w5.heap.size w5 w5.drew := (Below.refl _ _).drew
 with_reducible refine (ref20New_ok A B C Q n m k c d e L cq N ls w5.drew (HH.out.below (Bel.step HB5.out hbd5)) hok (HT.out.below (Bel.step HB5.out hbd5)) HMAY.out.part hNC).mono ?_
 rintro r w6 ⟨G, cg, AE, ce, EL, rfl, hG6, hE6, hEl, hEP, hb6⟩
 have hb56 : Below w5.heap.size w5 w6 := hbd5.trans hb6
 have hXY6 : Blk w6 w.heap.size 26 #[.slice A n c, .slice B m d, .slice C k e] ∧ Blk w6 (w.heap.size + 1) 29 #[.slice Q L cq] := ⟨hXY5.1.below hb56 hXY5.1.lt, hXY5.2.below hb56 hXY5.2.lt⟩
 have HB6 := Lib.hid (Bel.step HB5.out hb56)
 have HPL := Lib.hid (ref20Plain_ok A B C Q G AE n m k c d e L cq cg ce EL (.slice A n c) (.slice B m d) (.slice C k e) N ls w6 (HH.out.below HB6.out) hok (HT.out.below HB6.out) HMAY.out.part hG6 hE6 hEl hEP hNC)
 have HG6 := Lib.hid (HG5.out.below hb56)
 have HO6 := Lib.hid (HO5.out.below hb56)
 clear hG6 hE6 hEl hEP hb6 hb56 hbd5 hXY5 HG5 HO5
 go_simp
 refine hK.out _ _ hXY6 (fun _ => ?_)
 clear hK K
 refine wpAnyH_ready (rs := [4]) (by kernel_rfl) (by simp) ?_
 refine AllReadyH.cons (o := _) rfl (fun K hK => ?_) AllReadyH.nil
 go_simp
 with_reducible refine HPL.out.mono ?_
 rintro r w7 ⟨AW, cW, want, rfl, hW, hall, hcW, hb7⟩
 have hXY7 : Blk w7 w.heap.size 26 #[.slice A n c, .slice B m d, .slice C k e] ∧ Blk w7 (w.heap.size + 1) 29 #[.slice Q L cq] := ⟨hXY6.1.below hb7 hXY6.1.lt, hXY6.2.below hb7 hXY6.2.lt⟩
 have HG7 := Lib.hid (HG6.out.below hb7)
 have HO7 := Lib.hid (HO6.out.below hb7)
 have HB7 := Lib.hid (Bel.step HB6.out hb7)
 have HW := Lib.hid hW
 have HALL := Lib.hid hall
 have hWl : want.length ≤ 1000000000 := by rw [hall.len]; exact hNC
 clear hW hall hb7 HPL HG6 HO6 HB6
 go_simp
 refine hK.out _ _ hXY7 (fun _ => ?_)
 clear hK K
 refine tk 5 13 (h := ⟨_, tv, ?_⟩)
 simp only [pE, List.set]
 refine wpAnyH_done (by kernel_rfl) ?_ _
 clear hXY6 hXY7 HSX HH HT HB5
 obtain ⟨NC, hNCe⟩ : ∃ NC, NC = want.length := ⟨_, rfl⟩
 rw [← hNCe] at hWl HW hcW ⊢
 have HNC := Lib.hid hNCe
 clear hNCe
 obtain ⟨W2, hW2⟩ : ∃ W2, W2 = w7.alloc (.cells #[] 2) := ⟨_, rfl⟩
 have hbW : Below w7.heap.size w7 W2 := by rw [hW2]; exact bELt
 have hown : Own W2 w7.heap.size 2 1 (some ⟨w7.heap.size, 0, none⟩) 0 0 [] := by rw [hW2]; exact Own.lit w7 #[] 0 (Nat.le_refl _) (by omega) rfl
 have hrd : Rds W2 1 CA nC (icells lC) := (HC.out.below (Bel.step HB7.out hbW)).rdsI
 have hsz : w7.heap.size ≤ W2.heap.size := hbW.size
 have HW2 := Lib.hid hW2
 clear hW2
 go_wp2_with (at_builtin; rw [← HW2.out]; with_reducible refine wpList_app rfl (.tmp 45) (.tmp 46) 44 rfl 2 _ 1 8 infoI64 Tryz.underlying44 rfl (by omega) rfl rfl hown hrd (icells_one _) (by omega) (by omega) hsz ?_)
 intro A3 c3 w8 ho8 hg8 hat8
 have hb78 : Below w7.heap.size w7 w8 := Bel.grownOwn hbW hg8 hown hsz
 have HRI := Lib.hid (right_ok w8 g o N ls (HG7.out.below hb78) hok (HO7.out.below hb78) HMAY.out.part hNC A3 nC c3 lC want (ho8.rds.rdI) (by omega) HALL.out)
 clear hown hrd hsz hbW ho8 hg8 hat8 HW2
 go_wp2_with fail
 with_reducible refine HRI.out.mono ?_
 rintro r w9 ⟨rfl, hb89⟩
 have hb79 := Bel.step hb78 hb89
 clear HRI hb78 hb89
 go_wp2_with fail
 with_reducible refine (sameCosts_any CA AW nC NC cC cW lC want w9 (HC.out.below (Bel.step HB7.out hb79)) (HW.out.below hb79) (by omega) hWl).mono ?_
 rintro r w' ⟨rfl, kd, rfl⟩
 obtain ⟨wa, hwa⟩ : ∃ wa, wa = w9.drewN kd := ⟨_, rfl⟩
 rw [← hwa]
 have hb7a : Below w7.heap.size w7 wa := by rw [hwa]; exact below_drewN hb79 kd
 clear hwa hb79
 generalize decide (lC = want) = bq
 have e1 : (bq != bq) = false := by simp
 by_cases h0 : NC = 0
 · have e2 : ((NC : Int) == 0) = true := by simp [h0]
   go_wp2_with fail
   go_ret
   exact ⟨rfl, Bel.step HB7.out hb7a⟩
 have e2 : ((NC : Int) == 0) = false := by simp; exact h0
 obtain ⟨W3, hW3⟩ : ∃ W3, W3 = wa.alloc (.cells #[] 2) := ⟨_, rfl⟩
 have hbW : Below wa.heap.size wa W3 := by rw [hW3]; exact bELt
 have hown : Own W3 wa.heap.size 2 1 (some ⟨wa.heap.size, 0, none⟩) 0 0 [] := by rw [hW3]; exact Own.lit wa #[] 0 (Nat.le_refl _) (by omega) rfl
 have hrd : Rds W3 1 AW NC (icells want) := (HW.out.below (Bel.step hb7a hbW)).rdsI
 have hsz : wa.heap.size ≤ W3.heap.size := hbW.size
 have HW3 := Lib.hid hW3
 have H0 := Lib.hid h0
 clear hW3 h0
 go_wp2_with (at_builtin; rw [← HW3.out]; with_reducible refine wpList_app rfl (.tmp 56) (.tmp 57) 44 rfl 2 _ 1 8 infoI64 Tryz.underlying44 rfl (by omega) rfl rfl hown hrd (icells_one _) (by omega) (by omega) hsz ?_)
 intro AX cX wb hoX hgX _
 have hbab : Below wa.heap.size wa wb := Bel.grownOwn hbW hgX hown hsz
 obtain ⟨gx, cur, rfl, hgx, hBx, hcX, _, hcur⟩ := hoX.block (by have := H0.out; omega)
 obtain ⟨kk, hkk⟩ : ∃ kk, kk = av % NC := ⟨_, rfl⟩
 have hkN : kk < NC := by rw [hkk]; exact Nat.mod_lt _ (by have := H0.out; omega)
 have e3 : Int.tmod (av : Int) (NC : Int) = (kk : Int) := by rw [hkk]; exact (Int.ofNat_tmod av NC).symm
 have e4 : (av : Int) % (NC : Int) = (kk : Int) := by rw [hkk]; rfl
 have e5 : IntKind.i64.wrap (kk : Int) = (kk : Int) := IntWalk.i64_in _ (by omega)
 have e6 : ¬ NC = 0 := H0.out
 obtain ⟨vk, hvk⟩ : ∃ vk, want[kk]? = some vk := ⟨_, List.getElem?_eq_getElem (by rw [← HNC.out]; exact hkN)⟩
 have xk : wb.cell? ⟨gx, kk, none⟩ = some (.int .i64 vk) := by rw [hBx.cell]; exact hcur kk _ (icells_get hvk)
 have fk := hBx.frozen kk
 have gl := hBx.lt
 obtain ⟨wc, hwc⟩ : ∃ wc, wc = wb.setCell ⟨gx, kk, none⟩ (.int .i64 u) := ⟨_, rfl⟩
 have hox := hoX.putAt (k := kk) (.int .i64 u)
 rw [Nat.zero_add, icells_put, ← hwc] at hox
 have hb7c : Below w7.heap.size w7 wc := by
  rw [hwc]
  exact Bel.setCell_ (Bel.step hb7a hbab) (by have := hb7a.size; omega)
 have HW9 := Lib.hid (HW.out.below hb7c)
 obtain ⟨bw, ow, vk', rfl, hvk', cwk⟩ := HW9.out.at_ hkN
 rw [hvk] at hvk'
 cases hvk'
 obtain ⟨bq2, hbq2⟩ : ∃ bq2, bq2 = decide (want.set kk u = want) := ⟨_, rfl⟩
 have e7 : (u == vk) = bq2 := by
  rw [hbq2]
  by_cases huv : u = vk
  · subst huv
    have : want.set kk u = want := by
     refine List.ext_getElem? (fun i => ?_)
     by_cases hi : kk = i
     · subst hi
       rw [List.getElem?_set_self (List.getElem?_eq_some_iff.1 hvk).1, hvk]
     · rw [List.getElem?_set_ne hi]
    simp [this]
  · have : ¬ want.set kk u = want := fun e => by
     have h1 := List.getElem?_set_self (a := u) (List.getElem?_eq_some_iff.1 hvk).1
     rw [e, hvk] at h1
     exact huv (Option.some.inj h1).symm
    rw [decide_eq_false this]
    simpa using huv
 have e8 : (bq2 == bq2) = true := by simp
 have hsl := fun W => run_cut_l (P := Tryz.prog) 44 2 1 Tryz.underlying44 (by kernel_rfl) (by kernel_rfl) (some ⟨bw, ow, none⟩) NC cW 1 (NC - 1) (by omega) rfl .i64 1 rfl W
 have HR1 := Lib.hid (fun V (hV : Below wc.heap.size wc V) => hbq2 ▸ right_ok V g o N ls (HG7.out.below (Bel.step hb7c hV)) hok (HO7.out.below (Bel.step hb7c hV)) HMAY.out.part hNC (some ⟨gx, 0, none⟩) NC cX (want.set kk u) want ((hox.below hV).rds.rdI) hWl HALL.out)
 have HR2 := Lib.hid (fun V (hV : Below wc.heap.size wc V) => right_ok V g o N ls (HG7.out.below (Bel.step hb7c hV)) hok (HO7.out.below (Bel.step hb7c hV)) HMAY.out.part hNC (cutA 1 (some ⟨bw, ow, none⟩) 1 cW) (NC - 1) (cW - 1) (want.drop 1) want ((HW9.out.below hV).cut (by omega) rfl (by omega)) (by omega) HALL.out)
 have HNE := Lib.hid (show decide (want.drop 1 = want) = false from decide_eq_false (fun e => by
  have h1 := congrArg List.length e
  rw [List.length_drop, ← HNC.out] at h1
  omega))
 have HSX := Lib.hid (show ∀ V, Below wc.heap.size wc V → V.cell? ⟨bw, ow + kk, none⟩ = some (.int .i64 vk) from fun V hV => Below.cellOf hV (Nat.le_refl _) cwk)
 have HWC := Lib.hid hwc
 have HB7C := Lib.hid hb7c
 have i2 : (kk : Int) < (NC : Int) := by omega
 have i3 : (0 : Int) ≤ (kk : Int) := by omega
 clear hown hrd hsz hbW hgX hoX hox hBx hcur hkk hvk cwk hbq2 hwc hb7c hb7a hbab HW3
 go_wp2_with fail
 rw [← HWC.out]
 clear xk fk gl HWC
 refine wp_region_held_drew (S := fun V => Below wc.heap.size wc V) (by kernel_rfl) (Below.refl _ _).drew (fun _ => ?_)
 refine tk 0 68 (h := ⟨_, tv, ?_⟩)
 simp only [pE, List.set]
 refine tk 1 69 (h := ⟨_, tv, ?_⟩)
 simp only [pE, List.set]
 refine tk 2 70 (h := ⟨_, tv, ?_⟩)
 simp only [pE, List.set]
 refine tk 4 72 (h := ⟨_, tv, ?_⟩)
 simp only [pE, List.set]
 refine tk 5 73 (h := ⟨_, tv, ?_⟩)
 simp only [pE, List.set]
 refine tk 6 74 (h := ⟨_, tv, ?_⟩)
 simp only [pE, List.set]
 refine tk 7 75 (h := ⟨_, tv, ?_⟩)
 simp only [pE, List.set]
 refine tk 8 76 (h := ⟨_, tv, ?_⟩)
 simp only [pE, List.set]
 refine tk 9 77 (h := ⟨_, tv, ?_⟩)
 simp only [pE, List.set]
 refine wpAnyH_ready (rs := [3]) (by kernel_rfl) (by simp) ?_
 refine AllReadyH.cons (o := _) rfl (fun K hK => ?_) AllReadyH.nil
 go_simp
 with_reducible refine (HR1.out _ (Below.refl _ _).drew).mono ?_
 rintro r wd ⟨rfl, hbd⟩
 have hbd' : Below wc.heap.size wc wd := (Below.refl _ _).drew.trans hbd
 clear hbd
 go_simp
 refine hK.out _ _ hbd' (fun _ => ?_)
 clear hK K
 refine tk 10 78 (h := ⟨_, tv, ?_⟩)
 simp only [pE, List.set]
 refine tk 11 79 (h := ⟨_, tv, ?_⟩)
 simp only [pE, List.set]
 refine tk 12 80 (h := ⟨_, tv, ?_⟩)
 simp only [pE, List.set]
 refine tk 13 81 (h := ⟨_, tv, ?_⟩)
 simp only [pE, List.set]
 refine tk 14 82 (h := ⟨_, tv, ?_⟩)
 simp only [pE, List.set]
 refine tk 15 83 (h := ⟨_, tv, ?_⟩)
 simp only [pE, List.set]
 refine wpAnyH_ready (rs := [16]) (by kernel_rfl) (by simp) ?_
 refine AllReadyH.cons (o := _) rfl (fun K hK => ?_) AllReadyH.nil
 go_simp
 with_reducible refine (HR2.out wd hbd').mono ?_
 rintro r we ⟨rfl, hbe⟩
 have hbe' := Bel.step hbd' hbe
 rw [HNE.out]
 clear hbe hbd'
 go_simp
 refine hK.out _ _ hbe' (fun _ => ?_)
 clear hK K
 refine tk 17 85 (h := ⟨_, tv, ?_⟩)
 simp only [pE, List.set]
 refine tk 18 86 (h := ⟨_, tv, ?_⟩)
 simp only [pE, List.set]
 refine tk 19 10 (h := ⟨_, tv, ?_⟩)
 simp only [pE, List.set]
 refine wpAnyH_done (by kernel_rfl) ?_ _
 go_wp2_with fail
 go_ret
 exact ⟨rfl, Bel.step HB7.out (Bel.step HB7C.out hbe')⟩
end Go.Proofs.YtgkeolddpielpaaGreat

namespace Go.Proofs.YtgkeolddpielpaaGreat
open Go.ChangeShapes Go.WideShapes Go.ChangeAt Go.RowKit Go.Deep

theorem own_ : ownKnob Tryz.prog.godebug = none := by kernel_rfl
theorem laidOut_ : laidOutB Tryz.prog = true := by kernel_rfl

theorem list_of {α : Type} {p : Nat → α → Prop} : ∀ (n : Nat), (∀ i, i < n → ∃ a, p i a) → ∃ l : List α, l.length = n ∧ ∀ i a, l[i]? = some a → p i a
 | 0, _ => ⟨[], rfl, fun i a h => by simp at h⟩
 | n + 1, h => by
  obtain ⟨l, hl, hp⟩ := list_of n (fun i hi => h i (by omega))
  obtain ⟨a, ha⟩ := h n (by omega)
  refine ⟨l ++ [a], by simp [hl], fun i b hb => ?_⟩
  rcases Nat.lt_or_ge i n with h1 | h1
  · rw [List.getElem?_append_left (by omega)] at hb; exact hp i b hb
  · rw [List.getElem?_append_right (by omega), hl] at hb
    have : i = n := by
     rcases Nat.lt_or_ge (i - n) 1 with h2 | h2
     · omega
     · rw [List.getElem?_eq_none (by simpa using h2)] at hb; cases hb
    subst this
    simp at hb
    subst hb
    exact ha

section
variable {H : Type} {enc : TypeId × Value → H} {P : Program} {w : World} {base : Nat} {spare : Nat → Bool} {held : Bool}

theorem open_list {α : Type} {t e k : Nat} (ht : P.underlying t = some (.slice e)) (hk : P.cellsOf e = k) (hk0 : 0 < k) (Rel : List Value → α → Prop)
 (hel : ∀ (fuel : Nat) (cs : List Value) (x : DataW H × List MemPlace), DataW.trod enc P w base spare held fuel e cs = some x → ∃ a, Rel cs a)
 {A : Option Addr} {n c fuel : Nat} {x : DataW H × List MemPlace} (h : DataW.trod enc P w base spare held fuel t [.slice A n c] = some x) :
 ∃ l : List α, l.length = n ∧ n ≤ c ∧ c ≤ 9223372036854775807 ∧ (n = 0 ∨ ∃ el sp, x.1 = .slice el sp ∧ el.length = n) ∧
  ∀ i a, l[i]? = some a → ∃ b o vs, A = some ⟨b, o, none⟩ ∧ Rel vs a ∧ vs.length = k ∧ ∀ j v, vs[j]? = some v → w.cell? ⟨b, o + i * k + j, none⟩ = some v := by
 rcases open_slice ht h with ⟨h0, _⟩ | ⟨a, len, cap, m, n', D, Pl, hcs, hb, hl, hm, hmm, hx, hi⟩
 · simp only [List.cons.injEq, Value.slice.injEq, and_true] at h0
   obtain ⟨rfl, rfl, rfl⟩ := h0
   exact ⟨[], rfl, Nat.le_refl _, by omega, .inl rfl, fun i a h => by simp at h⟩
 · simp only [List.cons.injEq, Value.slice.injEq, and_true] at hcs
   obtain ⟨rfl, rfl, rfl⟩ := hcs
   have hlm : n ≤ m := by rw [hmm]; split <;> omega
   obtain ⟨l, hll, hlp⟩ := list_of (p := fun i (y : α) => ∃ vs, Rel vs y ∧ vs.length = k ∧ ∀ j v, vs[j]? = some v → w.cell? ((a.add (i * k)).add j) = some v) n (fun i hin => by
    obtain ⟨cs', hc, ht'⟩ := hi i (by omega)
    rw [hk] at hc
    obtain ⟨_, hlen, hat⟩ := World.cells?_some hc
    obtain ⟨y, hy⟩ := hel _ _ _ ht'
    refine ⟨y, cs', hy, hlen, fun j v hv => ?_⟩
    have hj : j < k := by rw [← hlen]; exact (List.getElem?_eq_some_iff.1 hv).1
    rw [hat j hj, hv])
   refine ⟨l, hll, hl, (by unfold maxLen at hm; omega), .inr ⟨_, _, by rw [hx], by simp⟩, fun i y hy => ?_⟩
   obtain ⟨vs, h1, h2, h3⟩ := hlp i y hy
   have hspot : a.spot = none := by
    have h4 := h3 0 vs[0] (List.getElem?_eq_getElem (by omega))
    have h5 := World.cell?_spot h4
    unfold Addr.add at h5
    by_cases h6 : i * k = 0
    · simpa [h6] using h5
    · have hl0 : l.length = n := hll
      have h7 : 0 < n := by
       have := (List.getElem?_eq_some_iff.1 hy).1
       omega
      obtain ⟨y0, hy0⟩ : ∃ y0, l[0]? = some y0 := ⟨l[0], List.getElem?_eq_getElem (by omega)⟩
      obtain ⟨vs0, g1, g2, g3⟩ := hlp 0 y0 hy0
      have g4 := World.cell?_spot (g3 0 vs0[0] (List.getElem?_eq_getElem (by omega)))
      simpa [Addr.add] using g4
   obtain ⟨b, o, sp⟩ := a
   simp only at hspot
   subst hspot
   refine ⟨b, o, vs, rfl, h1, h2, fun j v hv => ?_⟩
   have := h3 j v hv
   unfold Addr.add at this
   by_cases h6 : i * k = 0
   · by_cases h7 : j = 0
     · simpa [h6, h7] using this
     · simpa [h6, h7] using this
   · by_cases h7 : j = 0
     · simpa [h6, h7] using this
     · simpa [h6, h7] using this

theorem rel_int {k : IntKind} {e : Nat} (he : P.underlying e = some (.int k)) (fuel : Nat) (cs : List Value) (x : DataW H × List MemPlace) (h : DataW.trod enc P w base spare held fuel e cs = some x) :
 ∃ n : Int, cs = [.int k n] ∧ (Lit.int k n).wf = true := by
 obtain ⟨n, h1, _, h3⟩ := DataW.trod_int he h
 exact ⟨n, h1, h3⟩
theorem rel_bool {e : Nat} (he : P.underlying e = some .bool) (fuel : Nat) (cs : List Value) (x : DataW H × List MemPlace) (h : DataW.trod enc P w base spare held fuel e cs = some x) :
    ∃ n : Bool, cs = [.bool n] := by
  obtain ⟨n, h1, _⟩ := DataW.trod_bool he h
  exact ⟨n, h1⟩
theorem open_bools {t e : Nat} (ht : P.underlying t = some (.slice e)) (he : P.underlying e = some .bool) (hc : P.cellsOf e = 1)
 {A : Option Addr} {n c fuel : Nat} {x : DataW H × List MemPlace} (h : DataW.trod enc P w base spare held fuel t [.slice A n c] = some x) :
 ∃ l : List Bool, RdB w A n l ∧ n ≤ c ∧ c ≤ 9223372036854775807 ∧ (n = 0 ∨ ∃ el sp, x.1 = .slice el sp ∧ el.length = n) := by
 obtain ⟨l, hl, hnc, hcm, hsz, hr⟩ := open_list ht hc (by omega) (fun cs (p : Bool) => cs = [.bool p]) (rel_bool he) h
 refine ⟨l, ⟨hl, fun i p hp => ?_⟩, hnc, hcm, hsz⟩
 obtain ⟨b, o, vs, rfl, rfl, _, hv⟩ := hr i p hp
 exact ⟨b, o, rfl, by have := hv 0 _ rfl; simpa using this⟩
theorem open_intsK {k : IntKind} {t e : Nat} (ht : P.underlying t = some (.slice e)) (he : P.underlying e = some (.int k)) (hc : P.cellsOf e = 1)
 {A : Option Addr} {n c fuel : Nat} {x : DataW H × List MemPlace} (h : DataW.trod enc P w base spare held fuel t [.slice A n c] = some x) :
 ∃ l : List Int, RdK k w A n l ∧ n ≤ c ∧ c ≤ 9223372036854775807 ∧ (n = 0 ∨ ∃ el sp, x.1 = .slice el sp ∧ el.length = n) ∧ ∀ a ∈ l, (Lit.int k a).wf = true := by
 obtain ⟨l, hl, hnc, hcm, hsz, hr⟩ := open_list ht hc (by omega) (fun cs (p : Int) => cs = [.int k p] ∧ (Lit.int k p).wf = true) (rel_int he) h
 refine ⟨l, ⟨hl, fun i p hp => ?_⟩, hnc, hcm, hsz, fun a ha => ?_⟩
 · obtain ⟨b, o, vs, rfl, ⟨rfl, _⟩, _, hv⟩ := hr i p hp
   exact ⟨b, o, rfl, by have := hv 0 _ rfl; simpa using this⟩
 · obtain ⟨i, hi, e1⟩ := List.getElem_of_mem ha
   obtain ⟨b, o, vs, _, ⟨_, h2⟩, _, _⟩ := hr i a (by rw [List.getElem?_eq_getElem hi, e1])
   exact h2
end
end Go.Proofs.YtgkeolddpielpaaGreat
