/- CutFair, walked. -/
import Derived.Test.YtjphjbchhhembaaDoorCu10
namespace Go.Proofs.YtjphjbchhhembaaDoor
open Go.RowKit

attribute [local go_sem ↓] Go.wp_at_zero Go.wp_at_succ

/-- The block's first n cells are truths. -/
def InB (W : World) (g n : Nat) (b : List Bool) : Prop := b.length = n ∧ ∃ cur : Array Value, Blk W g 4 cur ∧ ∀ (j : Nat) (x : Bool), b[j]? = some x → cur[j]? = some (.bool x)
theorem InB.rdB {W : World} {g n : Nat} {b : List Bool} (h : InB W g n b) : RdB W (some ⟨g, 0, none⟩) n b :=
  ⟨h.1, fun j x hx => by
    obtain ⟨cur, hB, hc⟩ := h.2
    exact ⟨g, 0, rfl, by rw [Nat.zero_add, hB.cell]; exact hc j x hx⟩⟩
theorem InB.cell {W : World} {g n v : Nat} {b : List Bool} (h : InB W g n b) (hv : v < n) : (∃ y : Bool, W.cell? ⟨g, v, none⟩ = some (.bool y)) ∧ W.frozen? ⟨g, v, none⟩ = false := by
  obtain ⟨cur, hB, hc⟩ := h.2
  exact ⟨⟨_, by rw [hB.cell]; exact hc v _ (List.getElem?_eq_getElem (by rw [h.1]; exact hv))⟩, hB.frozen v⟩
theorem InB.set_ {W : World} {g n v : Nat} {b : List Bool} (h : InB W g n b) (x : Bool) : InB (W.setCell ⟨g, v, none⟩ (.bool x)) g n (b.set v x) := by
  obtain ⟨cur, hB, hc⟩ := h.2
  refine ⟨by rw [List.length_set]; exact h.1, _, hB.set_ v _, fun j y hy => ?_⟩
  by_cases e : v = j
  · subst e
    have hlt : v < b.length := by
      have := (List.getElem?_eq_some_iff.1 hy).1
      rwa [List.length_set] at this
    rw [List.getElem?_set_self hlt] at hy
    cases hy
    have h1 := hc v _ (List.getElem?_eq_getElem hlt)
    have h2 := (Array.getElem?_eq_some_iff.1 h1).1
    simp [h2]
  · rw [List.getElem?_set_ne e] at hy
    have := hc j y hy
    rw [Array.getElem?_setIfInBounds]
    rw [if_neg e]
    exact this
theorem InB.drewN {W : World} {g n : Nat} {b : List Bool} (h : InB W g n b) (k : Nat) : InB (W.drewN k) g n b := h
theorem getD_setF (b : List Bool) (v t : Nat) : (b.set v false).getD t false = true ↔ b.getD t false = true ∧ t ≠ v := by
  simp only [List.getD_eq_getElem?_getD]
  by_cases e : v = t
  · subst e
    by_cases g : v < b.length
    · rw [List.getElem?_set_self g]; simp
    · rw [List.getElem?_eq_none (by rw [List.length_set]; omega)]; simp
  · rw [List.getElem?_set_ne e]
    constructor
    · intro h; exact ⟨h, fun h2 => e h2.symm⟩
    · intro h; exact h.1
/-- Of the first k of either end: these in, those out. -/
def Put (s t : List Nat) (k : Nat) (b : List Bool) : Prop := ∀ j, j < k → (∀ v, s[j]? = some v → b.getD v false = true) ∧ (∀ v, t[j]? = some v → b.getD v false = false)
theorem Put.next {s t : List Nat} {k x y : Nat} {b : List Bool} (h : Put s t k b) (hd : ∀ v ∈ t, v ∉ s) (hx : s[k]? = some x) (hy : t[k]? = some y) (hxl : x < b.length) : Put s t (k + 1) ((b.set x true).set y false) := by
  have hb : ∀ v, ((b.set x true).set y false).getD v false = true ↔ (b.getD v false = true ∨ (v = x ∧ v < b.length)) ∧ v ≠ y := fun v => by rw [getD_setF, getD_setT]
  intro j hj
  refine ⟨fun v hv => ?_, fun v hv => ?_⟩
  · rw [hb]
    have hne : v ≠ y := fun e => hd y (List.mem_of_getElem? hy) (e ▸ List.mem_of_getElem? hv)
    rcases Nat.lt_or_ge j k with h1 | h1
    · exact ⟨.inl ((h j h1).1 v hv), hne⟩
    · obtain rfl : j = k := by omega
      rw [hx] at hv
      cases hv
      exact ⟨.inr ⟨rfl, hxl⟩, hne⟩
  · cases e : ((b.set x true).set y false).getD v false
    · rfl
    · exfalso
      have h2 := (hb v).1 e
      rcases Nat.lt_or_ge j k with h1 | h1
      · have h3 := (h j h1).2 v hv
        rcases h2.1 with h4 | h4
        · rw [h3] at h4; cases h4
        · exact hd v (List.mem_of_getElem? hv) (h4.1 ▸ List.mem_of_getElem? hx)
      · obtain rfl : j = k := by omega
        rw [hy] at hv
        cases hv
        exact h2.2 rfl
theorem Put.sep {n : Nat} {s t : List Nat} {k : Nat} {b : List Bool} (h : Put s t k b) (hn : b.length = n) (hs : s.length = k) (ht : t.length = k) : SepB n s t b :=
  ⟨hn, fun v hv => by
    obtain ⟨j, hj, e⟩ := List.getElem_of_mem hv
    exact (h j (by omega)).1 v (by rw [List.getElem?_eq_getElem hj, e]), fun v hv => by
    obtain ⟨j, hj, e⟩ := List.getElem_of_mem hv
    exact (h j (by omega)).2 v (by rw [List.getElem?_eq_getElem hj, e])⟩
theorem cross_far {E : List Edg} {l : List (Int × Int)} {i : Nat} {s t : Spl} (h : IsSpl E l (i - 1) s) (g : IsSpl E l i t) (hi : i % 3 = 1) : t.cross = s.cross := by
  have e : (i - 1) / 3 = i / 3 := by omega
  have h1 := h.near (by omega)
  rw [e] at h1
  have h3 := g.far hi
  have a := h1.least _ h3.sep
  have b := h3.least _ h1.sep
  rw [h.cross, g.cross]; omega
theorem cross_half {E : List Edg} {l : List (Int × Int)} {i : Nat} {s t : Spl} (h : IsSpl E l (i - 1) s) (g : IsSpl E l i t) (h2 : 2 ≤ l.length) (hi : i % 3 = 2) : s.cross ≤ t.cross := by
  have e : (i - 1) / 3 = i / 3 := by omega
  have h1 := h.far (by omega)
  rw [e] at h1
  have a := h1.least _ (g.sep h2)
  rw [h.cross, g.cross]; omega
theorem cross_in {E : List Edg} {l : List (Int × Int)} {i : Nat} {s : Spl} {b : List Bool} (h : IsSpl E l i s) (hb : SepB l.length (srcN l (i / 3)) (dstN l (i / 3)) b) (hi : i % 3 < 2) : s.cross ≤ cr b E := by
  rw [h.cross]
  rcases (show i % 3 = 0 ∨ i % 3 = 1 by omega) with h3 | h3
  · have := (h.near h3).least _ hb; omega
  · have := (h.far h3).least _ hb; omega

set_option maxHeartbeats 8000000 in
set_option maxRecDepth 100000 in
theorem cutFair_walk (A B C : Option Addr) (n m q c d e : Nat) (l E : List (Int × Int)) (sd : List Bool) (w : World) (h : RdP w A n l) (hE : RdP w B m E) (hS : RdB w C q sd) (hg : w.cell? ⟨0, 0, none⟩ = some errT) :
    Calls Tryd.prog 7 #[.slice A n c, .slice B m d, .slice C q e] w fun e w' => e = .returned (.bool true) ∧ Below w.heap.size w w' := by
  have HK := Lib.hid (known11_any w hg)
  clear hg
  by_cases hf : n ≤ 24 ∧ m ≤ 80
  · have HF := Lib.hid (show ∀ V, Calls Tryd.prog 14 #[.slice A n c, .slice B m d] V fun e w' => e = .returned (.bool true) ∧ V = w' from fun V => by
      have := few_any A B n c m d V
      rw [decide_eq_true hf.1, decide_eq_true hf.2] at this
      exact this)
    obtain ⟨hn, hm⟩ := hf
    have HC := Lib.hid (show ∀ V, Below w.heap.size w V → Calls Tryd.prog 15 #[.slice A n c, .slice B m d] V fun e w' => CkRes (Good l E) e ∧ Below V.heap.size V w' from fun V hV => checkCut_any A B n m c d l E V (h.below hV) (hE.below hV) hn hm)
    by_cases hq : q = n
    · subst hq
      go_enter Tryd.func7, Tryd.ntmps7
      go_wp2_with fail
      with_reducible refine HK.out.mono ?_
      rintro e' w1 ⟨rfl, hb1⟩
      go_wp2_with fail
      with_reducible refine (HF.out _).mono ?_
      rintro e' w' ⟨rfl, rfl⟩
      go_wp2_with fail
      with_reducible refine (HC.out _ hb1).mono ?_
      rintro e' w2 ⟨⟨A2, k2, c2, x, rfl, hx⟩, hb2⟩
      have hbw2 : Below w.heap.size w w2 := Bel.step hb1 hb2
      have hfld := field1 A2 k2 c2 x
      clear hb1 hb2 HC HK HF
      rcases hx with ⟨rfl, hG⟩ | hx
      · have HG := Lib.hid hG
        clear hG
        go_wp2_with fail
        with_reducible refine (cutAll_any A B q m c d l E w2 (h.below hbw2) (hE.below hbw2) HG.out (by omega) (by omega)).mono ?_
        rintro e' w3 ⟨A3, c3, L, rfl, hS3, hall, hc12, hcm, hb3⟩
        have hbw3 : Below w.heap.size w w3 := Bel.step hbw2 hb3
        have HS := Lib.hid hS3
        have HALL := Lib.hid hall
        have HLN := Lib.hid (show l.length = q from h.1)
        clear hS3 hall hb3 hbw2
        go_wp2_with fail
        go_loopw [9] (fun iv W => ∃ i : Nat, i ≤ 12 ∧ iv = .int .i64 i ∧ Below w3.heap.size w3 W) (fun iv _ => 12 - (intOf iv).toNat)
        case atStart => exact ⟨0, by omega, rfl, Below.refl _ _⟩
        case round =>
          obtain ⟨i, hi, rfl, hbl⟩ := hrel
          have hbw : Below w.heap.size w wr := Bel.step hbw3 hbl
          by_cases hlt : i < 12
          · obtain ⟨b, o, A6, n6, c6, t, eA, ht, x0, x1, x2, x3, hr6, hnc6⟩ := (HS.out.below hbl).at_ hlt
            subst eA
            have hsp := HALL.out.2 i t ht
            have HSP := Lib.hid hsp
            have hd := hsp.dir
            have hk := hsp.kind
            have hn6 : n6 = q := by rw [← hr6.1, (hsp.sep HG.out.1).len, HLN.out]
            subst hn6
            have HFR := Lib.hid (show ∀ W, Below wr.heap.size wr W → Calls Tryd.prog 21 #[.slice A6 n6 c6] W fun e w' => e = .returned (.bool true) ∧ W = w' from fun W hW => by
              have := fair_any A6 n6 c6 t.side W (hr6.below hW) (by omega)
              rw [sep_fair HG.out.1 (hsp.sep HG.out.1)] at this
              exact this)
            have HCC := Lib.hid (show ∀ W, Below wr.heap.size wr W → Calls Tryd.prog 22 #[.slice A6 n6 c6, .slice B m d] W fun e w' => e = .returned (.int .i64 t.cross) ∧ Below W.heap.size W w' from fun W hW => by
              have := cutCross_any A6 B n6 c6 m d t.side E W (hr6.below hW) (hE.below (Bel.step hbw hW)) (by omega)
              rw [← hsp.cross] at this
              exact this)
            obtain ⟨td, tc, tdi, tk⟩ := t
            simp only at hd hk x1 x2 x3 hr6
            subst hd; subst hk
            obtain ⟨p, hp⟩ : ∃ p, p = i / 3 := ⟨_, rfl⟩
            obtain ⟨r, hr⟩ : ∃ r, r = i % 3 := ⟨_, rfl⟩
            have e1 : Int.tdiv (i : Int) 3 = (p : Int) := by rw [hp]; exact (Int.ofNat_tdiv i 3).symm
            have e2 : (i : Int) / 3 = (p : Int) := by rw [hp]; rfl
            have e3 : Int.tmod (i : Int) 3 = (r : Int) := by rw [hr]; exact (Int.ofNat_tmod i 3).symm
            have e4 : (i : Int) % 3 = (r : Int) := by rw [hr]; rfl
            have p3 : p ≤ 3 := by omega
            have r2 : r ≤ 2 := by omega
            have HP := Lib.hid hp
            have HR := Lib.hid hr
            rw [← hp] at x2
            rw [← hr] at x3
            have j1 : IntKind.i64.wrap (p : Int) = p := IntWalk.i64_in _ (by omega)
            have j2 : IntKind.i64.wrap (r : Int) = r := IntWalk.i64_in _ (by omega)
            have i1 : (0 : Int) ≤ (i : Int) := by omega
            have i2 : (i : Int) < 12 := by omega
            have HT := Lib.hid ht
            clear hsp ht hr6 hp hr
            go_wp2_with fail
            go_region_held3 (fun V => V.cell? ⟨b, o + i * 4, none⟩ = some (.slice A6 n6 c6) ∧ V.cell? ⟨b, o + i * 4 + 1, none⟩ = some (.int .i64 tc) ∧ V.cell? ⟨b, o + i * 4 + 2, none⟩ = some (.int .i64 p) ∧ V.cell? ⟨b, o + i * 4 + 3, none⟩ = some (.int .i64 r))
              (exact have hb : Below wr.heap.size wr _ := (by repeat (first | exact Below.refl _ _ | assumption | apply Below.drew | apply below_drewN | apply Bel.alloc | (refine Bel.setCell_ ?_ ?_; rotate_left; omega) | (refine Bel.step ?_ (by assumption)))); ⟨Below.cellOf hb (Nat.le_refl _) x0, Below.cellOf hb (Nat.le_refl _) x1, Below.cellOf hb (Nat.le_refl _) x2, Below.cellOf hb (Nat.le_refl _) x3⟩)
              (first
                | (go_at_call 21; (with_reducible refine (HFR.out _ (by repeat (first | exact Below.refl _ _ | assumption | apply Below.drew | apply below_drewN | apply Bel.alloc | (refine Bel.setCell_ ?_ ?_; rotate_left; omega) | (refine Bel.step ?_ (by assumption))))).mono ?_); rintro e' w' ⟨rfl, rfl⟩)
                | (go_at_call 22; (with_reducible refine (HCC.out _ (by repeat (first | exact Below.refl _ _ | assumption | apply Below.drew | apply below_drewN | apply Bel.alloc | (refine Bel.setCell_ ?_ ?_; rotate_left; omega) | (refine Bel.step ?_ (by assumption))))).mono ?_); rintro e' w5 ⟨rfl, hb5⟩))
            have hr5 : Below wr.heap.size wr w5 := (by repeat (first | exact Below.refl _ _ | assumption | apply Below.drew | apply below_drewN | apply Bel.alloc | (refine Bel.setCell_ ?_ ?_; rotate_left; omega) | (refine Bel.step ?_ (by assumption))))
            have hbw5 : Below w.heap.size w w5 := Bel.step hbw hr5
            have hbl5 : Below w3.heap.size w3 w5 := Bel.step hbl hr5
            clear hb5 x0 x1 x2 x3 HFR HCC hbl hbw
            have HOR := Lib.hid (refOrder_any A n6 c l p w5 (h.below hbw5) (by omega) (by omega) (by omega) (fun z hz => by have := near1_bd (HG.out.2.1 z hz); omega))
            go_wp2_with fail
            with_reducible refine HOR.out.mono ?_
            rintro e' w6 ⟨A7, c7, rfl, ho, hc7, hb6⟩
            have HEN := Lib.hid (refEnds_any A7 n6 c7 (order l p) w6 ho (by omega) hc7)
            have hbl6 : Below w3.heap.size w3 w6 := Bel.step hbl5 hb6
            have hbw6 : Below w.heap.size w w6 := Bel.step hbw5 hb6
            clear ho hb6 HOR hbl5 hbw5 hr5
            go_wp2_with fail
            with_reducible refine HEN.out.mono ?_
            rintro e' w7 ⟨A8, c8, A9, c9, rfl, ha, hb, hb7⟩
            have hbl7 : Below w3.heap.size w3 w7 := Bel.step hbl6 hb7
            have hbw7 : Below w.heap.size w w7 := Bel.step hbw6 hb7
            have hsrc : nats (srcN l p) = (order l p).take (endsN n6) := by
              unfold srcN
              rw [nats_of (fun x hx => (order_mem (List.mem_of_mem_take hx)).1), HLN.out]
            have hdst : nats (dstN l p) = (order l p).drop (n6 - endsN n6) := by
              unfold dstN
              rw [nats_of (fun x hx => (order_mem (List.mem_of_mem_drop hx)).1), HLN.out]
            rw [← hsrc] at ha
            rw [← hdst] at hb
            have HA := Lib.hid ha
            have HB := Lib.hid hb
            have hn2 : 2 ≤ n6 := by have := HG.out.1; have := HLN.out; omega
            have hown0 : Own (w7.alloc (.cells #[] 4)) w7.heap.size 4 1 (some ⟨w7.heap.size, 0, none⟩) 0 0 [] := Own.lit w7 #[] 0 (Nat.le_refl _) (by omega) rfl
            have hrdS : Rds (w7.alloc (.cells #[] 4)) 1 C n6 (bcells sd) := (hS.below (Bel.alloc hbw7)).rdsB
            have hbA : Below w7.heap.size w7 (w7.alloc (.cells #[] 4)) := (by repeat (first | exact Below.refl _ _ | assumption | apply Below.drew | apply below_drewN | apply Bel.alloc | (refine Bel.setCell_ ?_ ?_; rotate_left; omega) | (refine Bel.step ?_ (by assumption))))
            clear ha hb hsrc hdst HEN hb7 hbl6 hbw6
            have hen : endsN n6 ≤ n6 := by unfold endsN; split <;> omega
            have HSL := Lib.hid (show (srcN l p).length = endsN n6 from by rw [srcN_len, HLN.out])
            have HDL := Lib.hid (show (dstN l p).length = endsN n6 from by rw [dstN_len, HLN.out])
            generalize endsN n6 = en at *
            go_wp2_with (at_builtin; with_reducible refine wpList_app rfl (.tmp 112) (.tmp 113) 54 rfl 4 _ 1 1 infoBool Tryd.underlying54 rfl (by omega) rfl rfl hown0 hrdS (bcells_one sd) (by omega) (by omega) (by simp) ?_)
            intro A10 c10 w8 hown8 hg8 hat8
            have hb78 : Below w7.heap.size w7 w8 := Bel.grownOwn hbA hg8 hown0 (by simp)
            obtain ⟨g, cur, rfl, hgB, hBlk, hnc, _, hcur⟩ := hown8.block (by omega)
            have HIN := Lib.hid (show InB w8 g n6 sd from ⟨hS.1, cur, hBlk, fun j x hx => hcur j _ (by simp [bcells, hx])⟩)
            have hncI : (n6 : Int) ≤ (c10 : Int) := by omega
            clear hown0 hrdS hown8 hg8 hat8 hBlk hcur hbA
            go_wp2_with fail
            go_loopw [13] (fun kv W => Below w7.heap.size w7 W ∧ ∃ (k : Nat) (b' : List Bool), k ≤ en ∧ kv = .int .i64 k ∧ InB W g n6 b' ∧ Put (srcN l p) (dstN l p) k b') (fun kv _ => en - (intOf kv).toNat)
            case atStart => exact ⟨hb78, 0, sd, Nat.zero_le _, rfl, HIN.out, fun j hj => absurd hj (by omega)⟩
            case round =>
              clear hb78
              obtain ⟨hb7r, k, b', hk, rfl, hin, hput⟩ := hrel
              by_cases hlt2 : k < en
              · obtain ⟨ga, oa, x, eA, hx, hcx⟩ := HA.out.at_ hlt2
                subst eA
                obtain ⟨v, rfl, hv⟩ := nats_getE hx
                obtain ⟨gb, ob, y, eA, hy, hcy⟩ := HB.out.at_ hlt2
                subst eA
                obtain ⟨u, rfl, hu⟩ := nats_getE hy
                have hvn : v < n6 := by have := srcN_lt (List.mem_of_getElem? hv); rw [HLN.out] at this; exact this
                have hun : u < n6 := by have := dstN_lt (List.mem_of_getElem? hu); rw [HLN.out] at this; exact this
                have huv : ¬ u = v := fun e => srcN_dst (by rw [HLN.out]; exact hn2) (List.mem_of_getElem? hu) (e ▸ List.mem_of_getElem? hv)
                have hvu : ¬ v = u := fun e => huv e.symm
                have HPN := Lib.hid (hput.next (fun z hz => srcN_dst (by rw [HLN.out]; exact hn2) hz) hv hu (by rw [hin.1]; exact hvn))
                have HI2 := Lib.hid ((hin.set_ (v := v) true).set_ (v := u) false)
                obtain ⟨⟨z1, q1⟩, f1⟩ := hin.cell hvn
                obtain ⟨⟨z2, q2⟩, f2⟩ := hin.cell hun
                have k1 := Below.cellOf hb7r (Nat.le_refl _) hcx
                have k2' := Below.cellOf hb7r (Nat.le_refl _) hcy
                have za := lt_of_cell hcx
                have zb := lt_of_cell hcy
                have za' : ¬ ga = g := by simp only at za; omega
                have zb' : ¬ gb = g := by simp only at zb; omega
                have i5 : (0 : Int) ≤ (k : Int) := by omega
                have i6 : (k : Int) < (en : Int) := by omega
                have i7 : (0 : Int) ≤ (v : Int) := by omega
                have i8 : (v : Int) < (n6 : Int) := by omega
                have i9 : (0 : Int) ≤ (u : Int) := by omega
                have i10 : (u : Int) < (n6 : Int) := by omega
                have hbn : Below w7.heap.size w7 ((wr.setCell ⟨g, v, none⟩ (.bool true)).setCell ⟨g, u, none⟩ (.bool false)) := (hb7r.setCell hgB _).setCell hgB _
                clear hx hy hv hu hcx hcy hput hin za zb
                go_wp2_with fail
                go_roundw
                case rel => exact ⟨hbn, k + 1, _, by omega, by go_num, HI2.out, HPN.out⟩
                case measure => simp [intOf]; omega
              · obtain rfl : k = en := by omega
                have hsep := hput.sep hin.1 HSL.out HDL.out
                have hci : r < 2 → tc ≤ (cr b' E : Int) := fun h2 => cross_in HSP.out (by rw [← HP.out, HLN.out]; exact hsep) (by rw [← HR.out]; exact h2)
                have hblr : Below w3.heap.size w3 wr := Bel.step hbl7 hb7r
                have hbwr : Below w.heap.size w wr := Bel.step hbw7 hb7r
                obtain ⟨_, _, _, _, _, t2, eA, ht2, _, x1, _, _, _, _⟩ := (HS.out.below hblr).at_ hlt
                cases eA
                rw [HT.out] at ht2
                cases ht2
                simp only at x1
                have HX := Lib.hid (show ∀ j, Calls Tryd.prog 25 #[.slice (some ⟨g, 0, none⟩) n6 c10, .slice B m d] (wr.drewN j) fun e w' => e = .returned (.int .i64 (cr b' E)) ∧ ∃ q, w' = (wr.drewN j).drewN q from fun j => refCross_any _ B n6 c10 m d b' E _ ((hin.drewN j).rdB) (hE.below (below_drewN hbwr j)) (by omega))
                generalize cr b' E = z at *
                clear hput hin hsep HIN
                rcases (show r = 0 ∨ r = 1 ∨ r = 2 by omega) with hr0 | hr0 | hr0
                · subst hr0
                  have e5 : (i : Int) % 3 = 0 := by rw [e4]; rfl
                  have d1 : decide ((z : Int) < tc) = false := decide_eq_false (by have := hci (by omega); omega)
                  clear e3 e4 hci
                  go_wp2_with fail
                  go_quiet ((go_at_call 25; exact quiet_draws (HX.out _)))
                  go_wp2_with fail
                  go_quiet (fail)
                  go_wp2_with fail
                  go_roundw
                  case rel => exact ⟨i + 1, by omega, by go_num, below_drewN hblr _⟩
                  case measure => simp [intOf]; omega
                · subst hr0
                  have e5 : (i : Int) % 3 = 1 := by rw [e4]; rfl
                  have d1 : decide ((z : Int) < tc) = false := decide_eq_false (by have := hci (by omega); omega)
                  obtain ⟨_, _, _, _, _, t3, eA, ht3, _, x4, _, _, _, _⟩ := (HS.out.below hblr).at_ (i := i - 1) (by omega)
                  cases eA
                  have hcf := cross_far (HALL.out.2 _ t3 ht3) HSP.out HR.out.symm
                  obtain ⟨td3, tc3, tdi3, tk3⟩ := t3
                  simp only at x4 hcf
                  subst hcf
                  have i5 : IntKind.i64.wrap ((i : Int) - 1) = (i : Int) - 1 := IntWalk.i64_in _ (by omega)
                  have i6 : (0 : Int) ≤ (i : Int) - 1 := by omega
                  have i7 : ((i : Int) - 1).toNat = i - 1 := by omega
                  have i8 : (i : Int) - 1 < 12 := by omega
                  have i9 : (1 : Int) ≤ (i : Int) := by omega
                  clear e3 e4 hci ht3
                  go_wp2_with fail
                  go_quiet ((go_at_call 25; exact quiet_draws (HX.out _)))
                  go_wp2_with fail
                  go_quiet (fail)
                  go_wp2_with fail
                  go_roundw
                  case rel => exact ⟨i + 1, by omega, by go_num, below_drewN hblr _⟩
                  case measure => simp [intOf]; omega
                · subst hr0
                  have e5 : (i : Int) % 3 = 2 := by rw [e4]; rfl
                  obtain ⟨_, _, _, _, _, t3, eA, ht3, _, x4, _, _, _, _⟩ := (HS.out.below hblr).at_ (i := i - 1) (by omega)
                  cases eA
                  have hcf := cross_half (HALL.out.2 _ t3 ht3) HSP.out HG.out.1 HR.out.symm
                  obtain ⟨td3, tc3, tdi3, tk3⟩ := t3
                  simp only at x4 hcf
                  have d1 : decide (tc < tc3) = false := decide_eq_false (by omega)
                  have i5 : IntKind.i64.wrap ((i : Int) - 1) = (i : Int) - 1 := IntWalk.i64_in _ (by omega)
                  have i6 : (0 : Int) ≤ (i : Int) - 1 := by omega
                  have i7 : ((i : Int) - 1).toNat = i - 1 := by omega
                  have i8 : (i : Int) - 1 < 12 := by omega
                  have i9 : (1 : Int) ≤ (i : Int) := by omega
                  clear e3 e4 hci ht3 hcf
                  go_wp2_with fail
                  go_quiet (fail)
                  go_wp2_with fail
                  go_quiet (fail)
                  go_wp2_with fail
                  go_roundw
                  case rel => exact ⟨i + 1, by omega, by go_num, below_drewN hblr _⟩
                  case measure => simp [intOf]; omega
          · go_wp2_with fail
            go_ret
            exact ⟨rfl, hbw⟩
      · have hx1 : (x != 0) = true := by simpa using hx
        have hx2 : (x == 0) = false := by simpa using hx
        clear hx
        go_wp2_with fail
        go_ret
        exact ⟨rfl, hbw2⟩
    · have hq1 : ((q : Int) != (n : Int)) = true := by simp; omega
      have hq2 : ((q : Int) == (n : Int)) = false := by simp; omega
      clear h hE hS hq
      go_enter Tryd.func7, Tryd.ntmps7
      go_wp2_with fail
      with_reducible refine HK.out.mono ?_
      rintro e' w1 ⟨rfl, hb1⟩
      go_wp2_with fail
      with_reducible refine (HF.out _).mono ?_
      rintro e' w' ⟨rfl, rfl⟩
      go_wp2_with fail
      go_ret
      exact ⟨rfl, hb1⟩
  · have HF := Lib.hid (show ∀ V, Calls Tryd.prog 14 #[.slice A n c, .slice B m d] V fun e w' => e = .returned (.bool false) ∧ V = w' from fun V => by
      have h1 := few_any A B n c m d V
      have h2 : (decide (n ≤ 24) && decide (m ≤ 80)) = false := by simp; omega
      rw [h2] at h1
      exact h1)
    clear h hE hf hS
    go_enter Tryd.func7, Tryd.ntmps7
    go_wp2_with fail
    with_reducible refine HK.out.mono ?_
    rintro e' w1 ⟨rfl, hb1⟩
    go_wp2_with fail
    with_reducible refine (HF.out _).mono ?_
    rintro e' w' ⟨rfl, rfl⟩
    go_wp2_with fail
    go_ret
    exact ⟨rfl, hb1⟩
end Go.Proofs.YtjphjbchhhembaaDoor
