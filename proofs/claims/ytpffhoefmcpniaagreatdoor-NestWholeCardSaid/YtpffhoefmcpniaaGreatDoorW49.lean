/- Parts of the proof: NeE. -/
import Derived.Test.YtpffhoefmcpniaaGreatDoorW1
import Derived.Test.YtpffhoefmcpniaaGreatDoorW22
import Derived.Test.YtpffhoefmcpniaaGreatDoorW47
import Derived.Test.YtpffhoefmcpniaaGreatDoorW48
/- NestWhole: the walk. -/
namespace Go.Proofs.YtpffhoefmcpniaaGreatDoor
open Go.RowKit

attribute [local go_sem ↓] Go.wp_at_zero Go.wp_at_succ

/-- The graph is changed in its own blocks F alone; it is N but for weights. -/
structure WhV (w v : World) (F : Nat → Prop) (g : Nat) (N : NetD) (V : World) (M : NetD) : Prop where
  kept : Kept (fun b => ¬ F b) v V
  size : v.heap.size ≤ V.heap.size
  bel : Below w.heap.size w V
  gr : GrO V F g M
  same : SameW N M
theorem WhV.set {w v V V' : World} {F : Nat → Prop} {g : Nat} {N M : NetD} (h : WhV w v F g N V M) (hF : ∀ b, F b → w.heap.size ≤ b) {a : Nat} {x y z u : Int} (ha : M.ar[a]? = some (x, y, z)) (g1 : GrO V' F g (M.setW a x y u)) (g2 : Kept (fun b => ¬ F b) V V') (g3 : V.heap.size ≤ V'.heap.size) (g4 : ∀ B, (∀ b, F b → B ≤ b) → Below B V V') : WhV w v F g N V' (M.setW a x y u) :=
  ⟨h.kept.trans g2 h.size, Nat.le_trans h.size g3, h.bel.trans (g4 _ hF), g1, h.same.set u ha⟩
theorem wh_bok {n : Nat} (h : 1 ≤ n) : BndOk (nats (whB n)) := by
  unfold whB
  split
  · exact bok_one (Nat.le_refl 1)
  · exact bok_two (Nat.le_refl 1) (by omega)
theorem wh_mx {n : Nat} (h : 1 ≤ n) (h2 : n ≤ 1000000) : ∀ b ∈ natsOf (nats (whB n)), b ≤ 9223372036854775807 := by
  intro b hb
  rw [natsOf_nats] at hb
  unfold whB at hb
  split at hb
  · simp at hb; omega
  · simp at hb; omega
theorem wh_ones (N : NetD) {n : Nat} : (pcs N 1 (List.range n)).length = n := wh_one N
theorem whl_pos (n : Nat) : 1 ≤ (whB n).length ∧ (whB n).length ≤ 6 := by unfold whB; split <;> simp
theorem wh_rows {N : NetD} {n : Nat} (hn : N.vs.length = n) : ∀ l ∈ rowsN N (whB n), l.length ≤ 1000000 ∨ 1000000 < n := fun l hl => by
  have := ((rows_partOk N (whl_pos n).1 (whl_pos n).2).lvl l hl).len
  omega
theorem wh_of {N : NetD} {n : Nat} (hn : N.vs.length = n) (h1 : 1 ≤ n) (h2 : n ≤ 1000000) (Q : Option Addr) (L cq : Nat) (hL : (whB n).length = L) (V : World) (hT : RdT V Q L (rowsN N (whB n))) :
    Calls Tryz.prog 23 #[.agg #[.slice Q L cq], .int .i64 (L : Int), .int .i64 0] V fun e w' => ∃ A k, e = .returned (.slice A n k) ∧ RdI w' A n (nats (List.range n)) ∧ n ≤ k ∧ k ≤ 9223372036854775807 ∧ Below V.heap.size V w' := by
  have hr := wh_last N hn.symm h1
  rw [hL] at hr
  have hl1 := (whl_pos n).1
  have hl6 := (whl_pos n).2
  have hlen : (rowN n [List.range n]).length = n := (rowN_is (one_cov h1)).len
  have h := partOf14_ok Q L cq (L - 1) 0 _ _ V hT hr (by omega) (by omega)
  rw [hlen, one_mem h1, List.length_range, show ((L - 1 : Nat) : Int) + 1 = (L : Int) by omega] at h
  exact h
theorem wh_cntL {N : NetD} {n : Nat} (hn : N.vs.length = n) (h1 : 1 ≤ n) (h2 : n ≤ 1000000) (Q : Option Addr) (L cq : Nat) (hL : (whB n).length = L) (V : World) (hT : RdT V Q L (rowsN N (whB n))) :
    Calls Tryz.prog 22 #[.agg #[.slice Q L cq], .int .i64 (L : Int)] V fun e w' => e = .returned (.int .i64 1) ∧ Below V.heap.size V w' := by
  have hr := wh_last N hn.symm h1
  rw [hL] at hr
  have hl1 := (whl_pos n).1
  have hl6 := (whl_pos n).2
  have h := count_ok Q L cq (L - 1) _ _ V hT hr (by omega) (fun x hx => by
    have h := rows_rng N (whB n) _ (List.mem_of_getElem? hr) x hx
    omega)
  rw [one_most h1, show ((L - 1 : Nat) : Int) + 1 = (L : Int) by omega] at h
  exact h
theorem wh_cnt1 {N : NetD} {n : Nat} (hn : N.vs.length = n) (h1 : 1 ≤ n) (h2 : n ≤ 1000000) (Q : Option Addr) (L cq : Nat) (hL : (whB n).length = L) (V : World) (hT : RdT V Q L (rowsN N (whB n))) :
    Calls Tryz.prog 22 #[.agg #[.slice Q L cq], .int .i64 1] V fun e w' => e = .returned (.int .i64 (n : Int)) ∧ Below V.heap.size V w' := by
  have hr := wh_r0 N hn.symm h1
  have hl6 := (whl_pos n).2
  have h := count_ok Q L cq 0 _ _ V hT hr (by omega) (fun x hx => by
    have h := rows_rng N (whB n) _ (List.mem_of_getElem? hr) x hx
    omega)
  rw [pc1_most, wh_one] at h
  exact h
theorem wh_of1 {N : NetD} {n i : Nat} {v : List Nat} (hn : N.vs.length = n) (h1 : 1 ≤ n) (h2 : n ≤ 1000000) (Q : Option Addr) (L cq : Nat) (hL : (whB n).length = L) (V : World) (hT : RdT V Q L (rowsN N (whB n))) (hv : (pcs N 1 (List.range n))[i]? = some v) :
    Calls Tryz.prog 23 #[.agg #[.slice Q L cq], .int .i64 1, .int .i64 (i : Int)] V fun e w' => ∃ A k, e = .returned (.slice A v.length k) ∧ RdI w' A v.length (nats v) ∧ v.length ≤ k ∧ k ≤ 9223372036854775807 ∧ Below V.heap.size V w' := by
  have hr := wh_r0 N hn.symm h1
  have hl6 := (whl_pos n).2
  have hlen : (rowN n (pcs N 1 (List.range n))).length = n := (rowN_is (pc1_cov N)).len
  have h := partOf14_ok Q L cq 0 (i : Int) _ _ V hT hr (by omega) (by omega)
  rw [hlen, pc1_mem N hv] at h
  exact h
theorem wh_pcs {N M : NetD} {n : Nat} (hn : N.vs.length = n) (hS : SameW N M) (g k : Nat) (A : Option Addr) (V : World) (hG : RdGr V g M) (hA : RdI V A n (nats (List.range n))) :
    Calls Tryz.prog 19 #[.pointer (some ⟨g, 0, none⟩), .slice A n k, .int .i64 1] V fun e w' => ∃ A c, e = .returned (.tuple #[.slice A n c, .nilIface]) ∧ RdT w' A n (rowsP (pcs N 1 (List.range n))) ∧ Below V.heap.size V w' := by
  have hv : VrtOk M.vs.length (nats (List.range n)) := vok_of (by rw [hS.vs, hn]; exact range_ok n)
  have h := nestPieces_ok g 1 n k M A _ V hG hA hv (by omega) (by omega)
  rw [natsOf_nats, hS.pcs] at h
  refine Calls.mono h ?_
  rintro e w' ⟨A, c, h1, h2, _, _, h5⟩
  rw [wh_one] at h1 h2
  exact ⟨A, c, h1, h2, h5⟩
set_option maxRecDepth 20000 in
set_option maxHeartbeats 8000000 in
theorem nestWhole_walk (A B C : Option Addr) (n m k c d e : Nat) (N : NetD) (AW : Option Addr) (lw cw : Nat) (ws : List Int) (w : World) (h : RdNet w A B C n m k N) (hk : k ≤ 9223372036854775807) (hw : RdI w AW lw ws) (hlw : lw ≤ 4000000000000000000) (hg : w.cell? ⟨0, 0, none⟩ = some errT) :
    Calls Tryz.prog 7 #[.agg #[.slice A n c, .slice B m d, .slice C k e], .slice AW lw cw] w fun r w' => r = .returned (.bool true) ∧ Below w.heap.size w w' := by
  have HH := Lib.hid h
  have HGE := Lib.hid hg
  have HW := Lib.hid hw
  have hnl : N.vs.length = n := h.1.1
  have hml : N.ar.length = m := h.2.1.1
  clear h hg hw
  go_enter Tryz.func7, Tryz.ntmps7
  go_wp2_with fail
  (refine calls_named ?_; intro w1 hw1)
  have hb1 : Below w.heap.size w w1 := by rw [hw1]; exact bELt
  have hX1 : Blk w1 w.heap.size 26 #[.slice A n c, .slice B m d, .slice C k e] := by rw [hw1]; exact bLNt
  clear hw1
  with_reducible refine (known14_ok w1 (Below.cellOf hb1 (Nat.le_refl _) HGE.out)).mono ?_
  rintro r w2 ⟨rfl, hb2⟩
  have hX2 := hX1.below hb2 hX1.lt
  have HB2 := Lib.hid (Bel.step hb1 hb2)
  have x0 := hX2.cell 0
  have x1 := hX2.cell 1
  have x2 := hX2.cell 2
  simp only [List.getElem?_toArray, List.getElem?_cons_zero, List.getElem?_cons_succ] at x0 x1 x2
  clear hX1 hb1 hb2
  go_wp2_with fail
  with_reducible refine (small_any A B C n m k c d e N w2 (HH.out.below HB2.out) hk).mono ?_
  rintro r w3 ⟨⟨b, rfl, hG⟩, hb3⟩
  have HB3 := Lib.hid (Bel.step HB2.out hb3)
  have hX3 := hX2.below hb3 hX2.lt
  clear x0 x1 x2 hX2 hb3
  have x0 := hX3.cell 0
  have x1 := hX3.cell 1
  have x2 := hX3.cell 2
  simp only [List.getElem?_toArray, List.getElem?_cons_zero, List.getElem?_cons_succ] at x0 x1 x2
  cases b with
  | false =>
    clear hG
    go_wp2_with fail
    go_ret
    exact ⟨rfl, HB3.out⟩
  | true =>
  have hsm := hG rfl
  have hok := hsm.ok
  have hn24 := hsm.v
  have hm90 := hsm.a
  rw [hnl] at hn24
  rw [hml] at hm90
  clear hG hsm
  by_cases hn0 : n = 0
  · have e1 : ((n : Int) == 0) = true := by simp [hn0]
    clear hn0
    go_wp2_with fail
    go_ret
    exact ⟨rfl, HB3.out⟩
  have e1 : ((n : Int) == 0) = false := beq_eq_false_iff_ne.2 (by omega)
  have h1n : 1 ≤ n := by omega
  go_wp2_with fail
  with_reducible refine (made8_ok A B C n m k c d e N w3 (HH.out.below HB3.out) hok).mono ?_
  rintro r w4 ⟨g, rfl, hGr, hb4⟩
  obtain ⟨F, hF⟩ : ∃ F : Nat → Prop, F = fun b => w3.heap.size ≤ b ∧ b < w4.heap.size := ⟨_, rfl⟩
  have HFB := Lib.hid (show ∀ b, F b → w3.heap.size ≤ b ∧ b < w4.heap.size from fun b hb => by rw [hF] at hb; exact hb)
  rw [← hF] at hGr
  have HG4 := Lib.hid hGr
  have HB4 := Lib.hid (Bel.step HB3.out hb4)
  have hX4 := hX3.below hb4 hX3.lt
  have hz3 : w.heap.size < w3.heap.size := hX3.lt
  clear hF hGr hb4 x0 x1 x2 hX3 HB2
  have x0 := hX4.cell 0
  have x1 := hX4.cell 1
  have x2 := hX4.cell 2
  simp only [List.getElem?_toArray, List.getElem?_cons_zero, List.getElem?_cons_succ] at x0 x1 x2
  have hlt4 := hX4.lt
  have hFo : ∀ b, F b → w.heap.size ≤ b := fun b hb => by have := (HFB.out b hb).1; omega
  have HFO := Lib.hid hFo
  clear hFo
  by_cases hn1 : n = 1
  · have e2 : ((n : Int) == 1) = true := by simp [hn1]
    have hwb : whB n = [1] := by rw [hn1]; rfl
    clear hn1
    go_wp2_with fail
    (refine calls_named ?_; intro w5 hw5)
    have hb5 : Below w4.heap.size w4 w5 := by rw [hw5]; exact bELt
    have h5 : Blk w5 (w4.heap.size + 1) 3 (ints (nats (whB n))) := by rw [hw5, hwb]; exact bLNt
    clear hw5
    have HI5 := Lib.hid h5
    have HB5 := Lib.hid (Bel.step HB4.out hb5)
    have HX5 := Lib.hid (hX4.below hb5 hX4.lt)
    have HG5 := Lib.hid (HG4.out.below hb5)
    have hz45 := hb5.size
    clear h5 hb5
    have HP5 := Lib.hid (show Calls Tryz.prog 11 #[.pointer (some ⟨g, 0, none⟩), .slice (some ⟨w4.heap.size + 1, 0, none⟩) 1 1] w5 (BuPostM (rowsN N (whB n)) 1 w5) from by
      have h := nestBuild_m g 1 1 N (some ⟨w4.heap.size + 1, 0, none⟩) (nats (whB n)) w5 HG5.out.rd (HI5.out.rdI (by rw [hwb]; rfl)) (wh_bok h1n) (wh_mx h1n (by omega))
      rw [natsOf_nats] at h
      exact h)
    clear x0 x1 x2
    with_reducible refine HP5.out.mono ?_
    rintro r w6 ⟨Q, rfl, hT, hb6, hTm⟩
    have HT6 := Lib.hid hTm
    have HB6 := Lib.hid (Bel.step HB5.out hb6)
    have HX6 := Lib.hid (HX5.out.below hb6 HX5.out.lt)
    have HI6 := Lib.hid (HI5.out.below hb6 HI5.out.lt)
    have HG6 := Lib.hid (HG5.out.below hb6)
    have hz56 := hb6.size
    clear hT hTm hb6 HP5 hX4
    go_wp2_with fail
    (refine wp_named ?_; intro w7 hw7)
    have hb7 : Below w6.heap.size w6 w7 := by rw [hw7]; exact bELt
    have hP7 : Blk w7 w6.heap.size 34 #[.slice Q 1 1] := by rw [hw7]; exact bLNt
    have HX7 := Lib.hid (HX6.out.below hb7 HX6.out.lt)
    have HI7 := Lib.hid (HI6.out.below hb7 HI6.out.lt)
    have HP7 := Lib.hid hP7
    have hk6 : Le (msk w6 (fun b => w5.heap.size ≤ b)) (msk w7 (fun b => w5.heap.size ≤ b)) := (Kept.below hb7).msk
    have HT7 := Lib.hid (HT6.out.le hk6)
    have HS7 := Lib.hid (show WhV w w7 F g N w7 N from ⟨Kept.refl _ _, Nat.le_refl _, Bel.step HB6.out hb7, HG6.out.below hb7, SameW.refl N⟩)
    have hz67 := hb7.size
    clear hw7 hb7 hP7 hk6
    have HRD := Lib.hid (show ∀ V, Kept (fun b => ¬ F b) w7 V → Blk V w6.heap.size 34 #[.slice Q 1 1] ∧ Blk V w.heap.size 26 #[.slice A n c, .slice B m d, .slice C k e] ∧ RdI V (some ⟨w4.heap.size + 1, 0, none⟩) 1 (nats (whB n)) ∧ RdT V Q 1 (rowsN N (whB n)) from fun V hV => by
      have hb : ∀ {g' : Nat} {t : TypeId} {cs : Array Value}, Blk w7 g' t cs → ¬ F g' → Blk V g' t cs := fun h hg => (hV _ hg h.lt).trans h
      refine ⟨hb HP7.out (fun hf => by have := (HFB.out _ hf).2; omega), hb HX7.out (fun hf => by have := (HFB.out _ hf).1; omega), (hb HI7.out (fun hf => by have := (HFB.out _ hf).2; omega)).rdI (by rw [hwb]; rfl), ?_⟩
      exact HT7.out.le (((hV.mono (G' := fun b => w5.heap.size ≤ b) (fun b h1 h2 => by have := (HFB.out b h2).2; omega)).msk).trans (msk_le _ _)))
    go_loopw [9] (fun q V => ∃ (i : Nat) (M : NetD), i ≤ lw ∧ q = .int .i64 i ∧ WhV w w7 F g N V M) (fun q _ => lw - (intOf q).toNat)
    case atStart => exact ⟨0, N, Nat.zero_le _, rfl, HS7.out⟩
    case round =>
      obtain ⟨i, M, hi, rfl, hS⟩ := hrel
      have HS := Lib.hid hS
      have x1 : wr.cell? ⟨w.heap.size, 1, none⟩ = some (.slice B m d) := by rw [(HRD.out wr hS.kept).2.1.cell]; rfl
      clear hS
      by_cases hlt : i < lw
      · have j1 : (i : Int) < (lw : Int) := by omega
        by_cases him : i < m
        · have j2 : (i : Int) < (m : Int) := by omega
          have j3 : (0 : Int) ≤ (i : Int) := by omega
          obtain ⟨wb, wo, z, rfl, hz, hcz⟩ := (HW.out.below HS.out.bel).at_ hlt
          have hML : M.ar.length = m := by
            have := congrArg List.length HS.out.same.ends
            simp only [List.length_map] at this
            rw [this]; exact hml
          obtain ⟨⟨tx, ty, tz⟩, hta⟩ : ∃ t, M.ar[i]? = some t := ⟨_, List.getElem?_eq_getElem (by omega)⟩
          have HTA := Lib.hid hta
          have HLT := Lib.hid hlt
          clear hz hta hML
          cases hu : wOk z with
          | true =>
            have HSET := Lib.hid (gSet_ok g i tx ty tz z M F wr HS.out.gr HTA.out hu)
            have HWT := Lib.hid (show Calls Tryz.prog 25 #[.int .i64 z] wr fun e w' => e = .returned (.bool true) ∧ wr = w' from by have := refWeight_any z wr; rw [hu] at this; exact this)
            go_wp2_with fail
            with_reducible refine HWT.out.mono ?_
            rintro r w' ⟨rfl, rfl⟩
            go_wp2_with fail
            with_reducible refine HSET.out.mono ?_
            rintro r w8 ⟨rfl, g1, g2, g3, g4⟩
            have HS8 := Lib.hid (HS.out.set HFO.out HTA.out g1 g2 g3 g4)
            clear g1 g2 g3 g4 HSET
            go_wp2_with fail
            go_roundw
            case rel => exact ⟨i + 1, _, by have := HLT.out; omega, by go_num, HS8.out⟩
            case measure => have := HLT.out; simp [intOf]; omega
          | false =>
            have HWT := Lib.hid (show Calls Tryz.prog 25 #[.int .i64 z] wr fun e w' => e = .returned (.bool false) ∧ wr = w' from by have := refWeight_any z wr; rw [hu] at this; exact this)
            go_wp2_with fail
            with_reducible refine HWT.out.mono ?_
            rintro r w' ⟨rfl, rfl⟩
            go_wp2_with fail
            go_roundw
            case rel => exact ⟨i + 1, M, by have := HLT.out; omega, by go_num, HS.out⟩
            case measure => have := HLT.out; simp [intOf]; omega
        · have j2 : ¬ (i : Int) < (m : Int) := by omega
          as_aux_lemma =>
            obtain ⟨W0, rfl⟩ : ∃ W, W = wr := ⟨_, rfl⟩
            have hG9 := HS.out.gr.rd
            obtain ⟨hP8, hX8, hI8, hT8⟩ := HRD.out W0 HS.out.kept
            have HB2 := Lib.hid (show Calls Tryz.prog 11 #[.pointer (some ⟨g, 0, none⟩), .slice (some ⟨w4.heap.size + 1, 0, none⟩) 1 1] W0 (BuPost (rowsN N (whB n)) 1 W0) from by
              have h := nestBuild_ok g 1 1 M (some ⟨w4.heap.size + 1, 0, none⟩) (nats (whB n)) W0 hG9 hI8 (wh_bok h1n) (wh_mx h1n (by omega))
              rw [natsOf_nats, HS.out.same.rows] at h
              exact h)
            have HX8 := Lib.hid hX8
            have HP8 := Lib.hid hP8
            have HT8 := Lib.hid hT8
            have HGR := Lib.hid hG9
            have HSM := Lib.hid HS.out.same
            have HBL := Lib.hid HS.out.bel
            clear hG9 hP8 hX8 hI8 hT8 HS HRD HFO
            go_wp2_with fail
            clear x1
            with_reducible refine HB2.out.mono ?_
            rintro r w9 ⟨Q2, rfl, hT9, hb9⟩
            have HT9 := Lib.hid hT9
            have HB9 := Lib.hid hb9
            have hz9 := hb9.size
            have hP9 := HP8.out.below hb9 HP8.out.lt
            have p0 : w9.cell? ⟨w6.heap.size, 0, none⟩ = some (.slice Q 1 1) := by rw [hP9.cell]; rfl
            have hlt9 := hP9.lt
            clear hT9 hb9 HB2 hP9
            go_wp2_with fail
            (refine calls_named ?_; intro wa hwa)
            have hba : Below w9.heap.size w9 wa := by rw [hwa]; exact bELt
            have hPa : Blk wa w9.heap.size 34 #[.slice Q2 1 1] := by rw [hwa]; exact bLNt
            have HPa := Lib.hid hPa
            have HBa := Lib.hid (Bel.step HB9.out hba)
            have HTa := Lib.hid (HT9.out.below hba)
            have HOF := Lib.hid (show Calls Tryz.prog 23 #[.agg #[.slice Q 1 1], .int .i64 1, .int .i64 0] wa _ from wh_of hnl h1n (by omega) Q 1 1 (by rw [hwb]; rfl) wa (HT8.out.below HBa.out))
            clear hwa hba hPa p0 hlt9
            with_reducible refine HOF.out.mono ?_
            rintro r wb ⟨A10, k10, rfl, hrb, _, _, hbb⟩
            have HBb := Lib.hid (Bel.step HBa.out hbb)
            have HPb := Lib.hid (HPa.out.below hbb HPa.out.lt)
            have HTb := Lib.hid (HTa.out.below hbb)
            have HPC := Lib.hid (wh_pcs hnl HSM.out g k10 A10 wb (HGR.out.below HBb.out) hrb)
            clear HOF hrb hbb
            go_wp2_with fail
            with_reducible refine HPC.out.mono ?_
            rintro r wc ⟨A11, k11, rfl, hTc, hbc⟩
            have HBc := Lib.hid (Bel.step HBb.out hbc)
            have HTc := Lib.hid (HTb.out.below hbc)
            have HQc := Lib.hid hTc
            have hPc := HPb.out.below hbc HPb.out.lt
            have hPq := HP8.out.below HBc.out HP8.out.lt
            have hXc := HX8.out.below HBc.out HX8.out.lt
            have p0 : wc.cell? ⟨w6.heap.size, 0, none⟩ = some (.slice Q 1 1) := by rw [hPq.cell]; rfl
            have p1 : wc.cell? ⟨w9.heap.size, 0, none⟩ = some (.slice Q2 1 1) := by rw [hPc.cell]; rfl
            have p2 : wc.cell? ⟨w.heap.size, 0, none⟩ = some (.slice A n c) := by rw [hXc.cell]; rfl
            have HSX := Lib.hid (show ∀ V, Below wc.heap.size wc V → V.cell? ⟨w6.heap.size, 0, none⟩ = some (.slice Q 1 1) ∧ V.cell? ⟨w9.heap.size, 0, none⟩ = some (.slice Q2 1 1) ∧ V.cell? ⟨w.heap.size, 0, none⟩ = some (.slice A n c) from fun V hV => ⟨Below.cellOf hV (Nat.le_refl _) p0, Below.cellOf hV (Nat.le_refl _) p1, Below.cellOf hV (Nat.le_refl _) p2⟩)
            have HTQ := Lib.hid (show ∀ V, Below wc.heap.size wc V → RdT V Q 1 (rowsN N (whB n)) from fun V hV => HT8.out.below (Bel.step HBc.out hV))
            have HLB := Lib.hid (show (whB n).length = 1 by rw [hwb]; rfl)
            have HC1 := Lib.hid (show ∀ V, Below wc.heap.size wc V → Calls Tryz.prog 22 #[.agg #[.slice Q 1 1], .int .i64 1] V _ from fun V hV => wh_cnt1 hnl h1n (by omega) Q 1 1 HLB.out V (HTQ.out V hV))
            have HCL := Lib.hid (show ∀ V, Below wc.heap.size wc V → Calls Tryz.prog 22 #[.agg #[.slice Q 1 1], .int .i64 1] V _ from fun V hV => wh_cntL hnl h1n (by omega) Q 1 1 HLB.out V (HTQ.out V hV))
            have HSP := Lib.hid (show ∀ V, Below wc.heap.size wc V → Calls Tryz.prog 16 #[.agg #[.slice Q 1 1], .agg #[.slice Q2 1 1]] V _ from fun V hV => samePart_same Q Q2 1 1 1 (rowsN N (whB n)) V (HTQ.out V hV) (HTc.out.below hV) (by omega) (fun l hl => by have := wh_rows hnl l hl; omega))
            have HBW := Lib.hid (HBL.out.trans (HBc.out.mono HBL.out.size))
            clear hTc hbc hPc hPq hXc p0 p1 p2 HPC
            go_wp2_with fail
            refine wp_region_held_drew (S := fun V => Below wc.heap.size wc V) (by kernel_rfl) (Below.refl _ _).drew (fun _ => ?_)
            refine tk 0 88 (h := ⟨_, tv, ?_⟩)
            simp only [pE, List.set]
            refine tk 1 89 (h := ⟨_, tv, ?_⟩)
            simp only [pE, List.set]
            refine tk 2 90 (h := ⟨_, tv, ?_⟩)
            simp only [pE, List.set]
            refine tk 3 91 (h := ⟨_, tv, ?_⟩)
            simp only [pE, List.set]
            refine tk 4 92 (h := ⟨_, tv, ?_⟩)
            simp only [pE, List.set]
            refine tk 5 93 (h := ⟨_, tv, ?_⟩)
            simp only [pE, List.set]
            refine tk 6 94 (h := ⟨_, tv, ?_⟩)
            simp only [pE, List.set]
            refine tk 7 95 (h := ⟨_, tv, ?_⟩)
            simp only [pE, List.set]
            refine tk 8 96 (h := ⟨_, tv, ?_⟩)
            simp only [pE, List.set]
            refine tk 9 97 (h := ⟨_, tv, ?_⟩)
            simp only [pE, List.set]
            refine tk 10 98 (h := ⟨_, tv, ?_⟩)
            simp only [pE, List.set]
            refine tk 11 99 (h := ⟨_, tv, ?_⟩)
            simp only [pE, List.set]
            refine tk 13 101 (h := ⟨_, tv, ?_⟩)
            simp only [pE, List.set]
            refine wpAnyH_ready (rs := [12]) (by kernel_rfl) (by simp) ?_
            refine AllReadyH.cons (o := _) rfl (fun K hK => ?_) AllReadyH.nil
            go_simp
            with_reducible refine (partOf_any Q 1 1 _).mono ?_
            rintro e V1 ⟨rfl, hv1⟩
            have hv1 : Below wc.heap.size wc V1 := (Below.refl _ _).drew.trans hv1
            go_simp
            refine hK.out _ _ hv1 (fun _ => ?_)
            clear hK K
            refine wpAnyH_ready (rs := [14]) (by kernel_rfl) (by simp) ?_
            refine AllReadyH.cons (o := _) rfl (fun K hK => ?_) AllReadyH.nil
            go_simp
            with_reducible refine (partOf_any Q2 1 1 _).mono ?_
            rintro e V2 ⟨rfl, hv2⟩
            have hv2 : Below wc.heap.size wc V2 := Bel.step hv1 hv2
            go_simp
            refine hK.out _ _ hv2 (fun _ => ?_)
            clear hK K
            refine wpAnyH_ready (rs := [15]) (by kernel_rfl) (by simp) ?_
            refine AllReadyH.cons (o := _) rfl (fun K hK => ?_) AllReadyH.nil
            go_simp
            with_reducible refine (HSP.out _ hv2).mono ?_
            rintro e V3 ⟨rfl, hv3⟩
            have hv3 : Below wc.heap.size wc V3 := Bel.step hv2 hv3
            go_simp
            refine hK.out _ _ hv3 (fun _ => ?_)
            clear hK K
            refine tk 16 104 (h := ⟨_, tv, ?_⟩)
            simp only [pE, List.set]
            refine tk 17 105 (h := ⟨_, tv, ?_⟩)
            simp only [pE, List.set]
            refine tk 18 106 (h := ⟨_, tv, ?_⟩)
            simp only [pE, List.set]
            refine tk 19 107 (h := ⟨_, tv, ?_⟩)
            simp only [pE, List.set]
            refine tk 21 109 (h := ⟨_, tv, ?_⟩)
            simp only [pE, List.set]
            refine tk 22 110 (h := ⟨_, tv, ?_⟩)
            simp only [pE, List.set]
            refine tk 23 111 (h := ⟨_, tv, ?_⟩)
            simp only [pE, List.set]
            refine wpAnyH_ready (rs := [20]) (by kernel_rfl) (by simp) ?_
            refine AllReadyH.cons (o := _) rfl (fun K hK => ?_) AllReadyH.nil
            go_simp
            with_reducible refine (HC1.out _ hv3).mono ?_
            rintro e V4 ⟨rfl, hv4⟩
            have hv4 : Below wc.heap.size wc V4 := Bel.step hv3 hv4
            go_simp
            refine hK.out _ _ hv4 (fun _ => ?_)
            clear hK K
            refine tk 24 112 (h := ⟨_, tv, ?_⟩)
            simp only [pE, List.set]
            refine tk 25 113 (h := ⟨_, tv, ?_⟩)
            simp only [pE, List.set]
            refine tk 26 114 (h := ⟨_, tv, ?_⟩)
            simp only [pE, List.set]
            refine tk 27 115 (h := ⟨_, tv, ?_⟩)
            simp only [pE, List.set]
            refine tk 28 116 (h := ⟨_, tv, ?_⟩)
            simp only [pE, List.set]
            refine tk 29 117 (h := ⟨_, tv, ?_⟩)
            simp only [pE, List.set]
            refine wpAnyH_ready (rs := [30]) (by kernel_rfl) (by simp) ?_
            refine AllReadyH.cons (o := _) rfl (fun K hK => ?_) AllReadyH.nil
            go_simp
            with_reducible refine (HCL.out _ hv4).mono ?_
            rintro e V5 ⟨rfl, hv5⟩
            have hv5 : Below wc.heap.size wc V5 := Bel.step hv4 hv5
            go_simp
            refine hK.out _ _ hv5 (fun _ => ?_)
            clear hK K
            refine tk 31 119 (h := ⟨_, tv, ?_⟩)
            simp only [pE, List.set]
            refine tk 32 120 (h := ⟨_, tv, ?_⟩)
            simp only [pE, List.set]
            refine tk 33 121 (h := ⟨_, tv, ?_⟩)
            simp only [pE, List.set]
            refine tk 34 122 (h := ⟨_, tv, ?_⟩)
            simp only [pE, List.set]
            refine tk 35 123 (h := ⟨_, tv, ?_⟩)
            simp only [pE, List.set]
            refine tk 36 124 (h := ⟨_, tv, ?_⟩)
            simp only [pE, List.set]
            refine tk 37 125 (h := ⟨_, tv, ?_⟩)
            simp only [pE, List.set]
            refine tk 38 126 (h := ⟨_, tv, ?_⟩)
            simp only [pE, List.set]
            refine tk 39 127 (h := ⟨_, tv, ?_⟩)
            simp only [pE, List.set]
            refine tk 40 128 (h := ⟨_, tv, ?_⟩)
            simp only [pE, List.set]
            refine wpAnyH_done (by kernel_rfl) ?_ _
            have HV5 := Lib.hid hv5
            clear hv1 hv2 hv3 hv4 hv5 HC1 HCL HSP
            go_wp2_with fail
            go_loopw [14] (fun q W => Below V5.heap.size V5 W ∧ ∃ i : Nat, i ≤ n ∧ q = .int .i64 (i : Int)) (fun q _ => n - (intOf q).toNat)
            case atStart => exact ⟨Below.refl _ _, 0, Nat.zero_le _, rfl⟩
            case round =>
              obtain ⟨hbl, i, hi, rfl⟩ := hrel
              have HR := Lib.hid (Bel.step HV5.out hbl)
              have HRL := Lib.hid hbl
              clear hbl
              by_cases hil : i < n
              · obtain ⟨v, hv⟩ : ∃ v, (pcs N 1 (List.range n))[i]? = some v := ⟨_, List.getElem?_eq_getElem (by rw [wh_one]; exact hil)⟩
                obtain ⟨qb, qo, A12, n12, c12, l12, rfl, hl12, cl, hr12, _, _⟩ := (HQc.out.below HR.out).at_ hil
                obtain rfl : l12 = nats v := by
                  have : (rowsP (pcs N 1 (List.range n)))[i]? = some (nats v) := by simp [rowsP, hv]
                  rw [this] at hl12
                  exact (Option.some.inj hl12).symm
                obtain rfl : v.length = n12 := by have := hr12.1; simpa [nats] using this
                have hvl : v.length ≤ 1 := pcs_le N (Nat.le_refl 1) _ v (List.mem_of_getElem? hv)
                have HOI := Lib.hid (show ∀ V, Below wc.heap.size wc V → Calls Tryz.prog 23 #[.agg #[.slice Q 1 1], .int .i64 1, .int .i64 (i : Int)] V _ from fun V hV => wh_of1 hnl h1n (by omega) Q 1 1 HLB.out V (HTQ.out V hV) hv)
                have HR12 := Lib.hid hr12
                obtain ⟨p0, _, _⟩ := HSX.out wr HR.out
                have i1 : (0 : Int) ≤ (i : Int) := by omega
                have i2 : (i : Int) < (n : Int) := by omega
                have HI := Lib.hid hil
                have HSX0 := HSX
                clear HSX
                have HSX := Lib.hid (show ∀ V, Below wr.heap.size wr V → V.cell? ⟨qb, qo + i, none⟩ = some (.slice A12 v.length c12) ∧ V.cell? ⟨w6.heap.size, 0, none⟩ = some (.slice Q 1 1) ∧ (0 : Int) ≤ (i : Int) ∧ (i : Int) < (n : Int) from fun V hV => ⟨Below.cellOf hV (Nat.le_refl _) cl, Below.cellOf hV (Nat.le_refl _) p0, i1, i2⟩)
                clear hv hl12 hr12 cl p0 hil
                go_wp2_with fail
                refine wp_region_held_drew (S := fun V => Below wr.heap.size wr V) (by kernel_rfl) (Below.refl _ _).drew (fun _ => ?_)
                refine tk 0 135 (h := ⟨_, tv, ?_⟩)
                simp only [pE, List.set]
                refine tk 1 136 (h := ⟨_, tv, ?_⟩)
                simp only [pE, List.set]
                refine tk 2 137 (h := ⟨_, tv, ?_⟩)
                simp only [pE, List.set]
                refine tk 3 138 (h := ⟨_, tv, ?_⟩)
                simp only [pE, List.set]
                refine tk 4 139 (h := ⟨_, tv, ?_⟩)
                simp only [pE, List.set]
                refine tk 5 140 (h := ⟨_, tv, ?_⟩)
                simp only [pE, List.set]
                refine wpAnyH_ready (rs := [6]) (by kernel_rfl) (by simp) ?_
                refine AllReadyH.cons (o := _) rfl (fun K hK => ?_) AllReadyH.nil
                go_simp
                with_reducible refine (HOI.out _ HR.out.drew).mono ?_
                rintro e X1 ⟨A13, k13, rfl, hr13, _, _, hx1⟩
                have hx1 : Below wr.heap.size wr X1 := (Below.refl _ _).drew.trans hx1
                have HSI := Lib.hid (sameInts_any A12 A13 v.length v.length c12 k13 (nats v) (nats v) X1 (HR12.out.below hx1) hr13 (by omega) (by omega))
                go_simp
                refine hK.out _ _ hx1 (fun _ => ?_)
                clear hK K hr13
                refine wpAnyH_ready (rs := [7]) (by kernel_rfl) (by simp) ?_
                refine AllReadyH.cons (o := _) rfl (fun K hK => ?_) AllReadyH.nil
                go_simp
                with_reducible refine HSI.out.mono ?_
                rintro e X2 ⟨rfl, kx, rfl⟩
                have hx2 : Below wr.heap.size wr (X1.drewN kx) := below_drewN hx1 kx
                rw [decide_eq_true (rfl : nats v = nats v)]
                go_simp
                refine hK.out _ _ hx2 (fun _ => ?_)
                clear hK K HSI HOI
                refine tk 8 143 (h := ⟨_, tv, ?_⟩)
                simp only [pE, List.set]
                refine wpAnyH_done (by kernel_rfl) ?_ _
                have HX2 := Lib.hid (Bel.step HRL.out hx2)
                clear hx1 hx2
                go_wp2_with fail
                go_roundw
                case rel => exact ⟨HX2.out, i + 1, by have := HI.out; omega, by go_num⟩
                case measure => have := HI.out; simp [intOf]; omega
              · obtain rfl : i = n := by omega
                have HE := Lib.hid (HBW.out.trans (HR.out.mono HBW.out.size))
                go_wp2_with fail
                go_ret
                exact ⟨rfl, HE.out⟩
      · have j1 : ¬ (i : Int) < (lw : Int) := by omega
        as_aux_lemma =>
          obtain ⟨W0, rfl⟩ : ∃ W, W = wr := ⟨_, rfl⟩
          have hG9 := HS.out.gr.rd
          obtain ⟨hP8, hX8, hI8, hT8⟩ := HRD.out W0 HS.out.kept
          have HB2 := Lib.hid (show Calls Tryz.prog 11 #[.pointer (some ⟨g, 0, none⟩), .slice (some ⟨w4.heap.size + 1, 0, none⟩) 1 1] W0 (BuPost (rowsN N (whB n)) 1 W0) from by
            have h := nestBuild_ok g 1 1 M (some ⟨w4.heap.size + 1, 0, none⟩) (nats (whB n)) W0 hG9 hI8 (wh_bok h1n) (wh_mx h1n (by omega))
            rw [natsOf_nats, HS.out.same.rows] at h
            exact h)
          have HX8 := Lib.hid hX8
          have HP8 := Lib.hid hP8
          have HT8 := Lib.hid hT8
          have HGR := Lib.hid hG9
          have HSM := Lib.hid HS.out.same
          have HBL := Lib.hid HS.out.bel
          clear hG9 hP8 hX8 hI8 hT8 HS HRD HFO
          go_wp2_with fail
          clear x1
          with_reducible refine HB2.out.mono ?_
          rintro r w9 ⟨Q2, rfl, hT9, hb9⟩
          have HT9 := Lib.hid hT9
          have HB9 := Lib.hid hb9
          have hz9 := hb9.size
          have hP9 := HP8.out.below hb9 HP8.out.lt
          have p0 : w9.cell? ⟨w6.heap.size, 0, none⟩ = some (.slice Q 1 1) := by rw [hP9.cell]; rfl
          have hlt9 := hP9.lt
          clear hT9 hb9 HB2 hP9
          go_wp2_with fail
          (refine calls_named ?_; intro wa hwa)
          have hba : Below w9.heap.size w9 wa := by rw [hwa]; exact bELt
          have hPa : Blk wa w9.heap.size 34 #[.slice Q2 1 1] := by rw [hwa]; exact bLNt
          have HPa := Lib.hid hPa
          have HBa := Lib.hid (Bel.step HB9.out hba)
          have HTa := Lib.hid (HT9.out.below hba)
          have HOF := Lib.hid (show Calls Tryz.prog 23 #[.agg #[.slice Q 1 1], .int .i64 1, .int .i64 0] wa _ from wh_of hnl h1n (by omega) Q 1 1 (by rw [hwb]; rfl) wa (HT8.out.below HBa.out))
          clear hwa hba hPa p0 hlt9
          with_reducible refine HOF.out.mono ?_
          rintro r wb ⟨A10, k10, rfl, hrb, _, _, hbb⟩
          have HBb := Lib.hid (Bel.step HBa.out hbb)
          have HPb := Lib.hid (HPa.out.below hbb HPa.out.lt)
          have HTb := Lib.hid (HTa.out.below hbb)
          have HPC := Lib.hid (wh_pcs hnl HSM.out g k10 A10 wb (HGR.out.below HBb.out) hrb)
          clear HOF hrb hbb
          go_wp2_with fail
          with_reducible refine HPC.out.mono ?_
          rintro r wc ⟨A11, k11, rfl, hTc, hbc⟩
          have HBc := Lib.hid (Bel.step HBb.out hbc)
          have HTc := Lib.hid (HTb.out.below hbc)
          have HQc := Lib.hid hTc
          have hPc := HPb.out.below hbc HPb.out.lt
          have hPq := HP8.out.below HBc.out HP8.out.lt
          have hXc := HX8.out.below HBc.out HX8.out.lt
          have p0 : wc.cell? ⟨w6.heap.size, 0, none⟩ = some (.slice Q 1 1) := by rw [hPq.cell]; rfl
          have p1 : wc.cell? ⟨w9.heap.size, 0, none⟩ = some (.slice Q2 1 1) := by rw [hPc.cell]; rfl
          have p2 : wc.cell? ⟨w.heap.size, 0, none⟩ = some (.slice A n c) := by rw [hXc.cell]; rfl
          have HSX := Lib.hid (show ∀ V, Below wc.heap.size wc V → V.cell? ⟨w6.heap.size, 0, none⟩ = some (.slice Q 1 1) ∧ V.cell? ⟨w9.heap.size, 0, none⟩ = some (.slice Q2 1 1) ∧ V.cell? ⟨w.heap.size, 0, none⟩ = some (.slice A n c) from fun V hV => ⟨Below.cellOf hV (Nat.le_refl _) p0, Below.cellOf hV (Nat.le_refl _) p1, Below.cellOf hV (Nat.le_refl _) p2⟩)
          have HTQ := Lib.hid (show ∀ V, Below wc.heap.size wc V → RdT V Q 1 (rowsN N (whB n)) from fun V hV => HT8.out.below (Bel.step HBc.out hV))
          have HLB := Lib.hid (show (whB n).length = 1 by rw [hwb]; rfl)
          have HC1 := Lib.hid (show ∀ V, Below wc.heap.size wc V → Calls Tryz.prog 22 #[.agg #[.slice Q 1 1], .int .i64 1] V _ from fun V hV => wh_cnt1 hnl h1n (by omega) Q 1 1 HLB.out V (HTQ.out V hV))
          have HCL := Lib.hid (show ∀ V, Below wc.heap.size wc V → Calls Tryz.prog 22 #[.agg #[.slice Q 1 1], .int .i64 1] V _ from fun V hV => wh_cntL hnl h1n (by omega) Q 1 1 HLB.out V (HTQ.out V hV))
          have HSP := Lib.hid (show ∀ V, Below wc.heap.size wc V → Calls Tryz.prog 16 #[.agg #[.slice Q 1 1], .agg #[.slice Q2 1 1]] V _ from fun V hV => samePart_same Q Q2 1 1 1 (rowsN N (whB n)) V (HTQ.out V hV) (HTc.out.below hV) (by omega) (fun l hl => by have := wh_rows hnl l hl; omega))
          have HBW := Lib.hid (HBL.out.trans (HBc.out.mono HBL.out.size))
          clear hTc hbc hPc hPq hXc p0 p1 p2 HPC
          go_wp2_with fail
          refine wp_region_held_drew (S := fun V => Below wc.heap.size wc V) (by kernel_rfl) (Below.refl _ _).drew (fun _ => ?_)
          refine tk 0 88 (h := ⟨_, tv, ?_⟩)
          simp only [pE, List.set]
          refine tk 1 89 (h := ⟨_, tv, ?_⟩)
          simp only [pE, List.set]
          refine tk 2 90 (h := ⟨_, tv, ?_⟩)
          simp only [pE, List.set]
          refine tk 3 91 (h := ⟨_, tv, ?_⟩)
          simp only [pE, List.set]
          refine tk 4 92 (h := ⟨_, tv, ?_⟩)
          simp only [pE, List.set]
          refine tk 5 93 (h := ⟨_, tv, ?_⟩)
          simp only [pE, List.set]
          refine tk 6 94 (h := ⟨_, tv, ?_⟩)
          simp only [pE, List.set]
          refine tk 7 95 (h := ⟨_, tv, ?_⟩)
          simp only [pE, List.set]
          refine tk 8 96 (h := ⟨_, tv, ?_⟩)
          simp only [pE, List.set]
          refine tk 9 97 (h := ⟨_, tv, ?_⟩)
          simp only [pE, List.set]
          refine tk 10 98 (h := ⟨_, tv, ?_⟩)
          simp only [pE, List.set]
          refine tk 11 99 (h := ⟨_, tv, ?_⟩)
          simp only [pE, List.set]
          refine tk 13 101 (h := ⟨_, tv, ?_⟩)
          simp only [pE, List.set]
          refine wpAnyH_ready (rs := [12]) (by kernel_rfl) (by simp) ?_
          refine AllReadyH.cons (o := _) rfl (fun K hK => ?_) AllReadyH.nil
          go_simp
          with_reducible refine (partOf_any Q 1 1 _).mono ?_
          rintro e V1 ⟨rfl, hv1⟩
          have hv1 : Below wc.heap.size wc V1 := (Below.refl _ _).drew.trans hv1
          go_simp
          refine hK.out _ _ hv1 (fun _ => ?_)
          clear hK K
          refine wpAnyH_ready (rs := [14]) (by kernel_rfl) (by simp) ?_
          refine AllReadyH.cons (o := _) rfl (fun K hK => ?_) AllReadyH.nil
          go_simp
          with_reducible refine (partOf_any Q2 1 1 _).mono ?_
          rintro e V2 ⟨rfl, hv2⟩
          have hv2 : Below wc.heap.size wc V2 := Bel.step hv1 hv2
          go_simp
          refine hK.out _ _ hv2 (fun _ => ?_)
          clear hK K
          refine wpAnyH_ready (rs := [15]) (by kernel_rfl) (by simp) ?_
          refine AllReadyH.cons (o := _) rfl (fun K hK => ?_) AllReadyH.nil
          go_simp
          with_reducible refine (HSP.out _ hv2).mono ?_
          rintro e V3 ⟨rfl, hv3⟩
          have hv3 : Below wc.heap.size wc V3 := Bel.step hv2 hv3
          go_simp
          refine hK.out _ _ hv3 (fun _ => ?_)
          clear hK K
          refine tk 16 104 (h := ⟨_, tv, ?_⟩)
          simp only [pE, List.set]
          refine tk 17 105 (h := ⟨_, tv, ?_⟩)
          simp only [pE, List.set]
          refine tk 18 106 (h := ⟨_, tv, ?_⟩)
          simp only [pE, List.set]
          refine tk 19 107 (h := ⟨_, tv, ?_⟩)
          simp only [pE, List.set]
          refine tk 21 109 (h := ⟨_, tv, ?_⟩)
          simp only [pE, List.set]
          refine tk 22 110 (h := ⟨_, tv, ?_⟩)
          simp only [pE, List.set]
          refine tk 23 111 (h := ⟨_, tv, ?_⟩)
          simp only [pE, List.set]
          refine wpAnyH_ready (rs := [20]) (by kernel_rfl) (by simp) ?_
          refine AllReadyH.cons (o := _) rfl (fun K hK => ?_) AllReadyH.nil
          go_simp
          with_reducible refine (HC1.out _ hv3).mono ?_
          rintro e V4 ⟨rfl, hv4⟩
          have hv4 : Below wc.heap.size wc V4 := Bel.step hv3 hv4
          go_simp
          refine hK.out _ _ hv4 (fun _ => ?_)
          clear hK K
          refine tk 24 112 (h := ⟨_, tv, ?_⟩)
          simp only [pE, List.set]
          refine tk 25 113 (h := ⟨_, tv, ?_⟩)
          simp only [pE, List.set]
          refine tk 26 114 (h := ⟨_, tv, ?_⟩)
          simp only [pE, List.set]
          refine tk 27 115 (h := ⟨_, tv, ?_⟩)
          simp only [pE, List.set]
          refine tk 28 116 (h := ⟨_, tv, ?_⟩)
          simp only [pE, List.set]
          refine tk 29 117 (h := ⟨_, tv, ?_⟩)
          simp only [pE, List.set]
          refine wpAnyH_ready (rs := [30]) (by kernel_rfl) (by simp) ?_
          refine AllReadyH.cons (o := _) rfl (fun K hK => ?_) AllReadyH.nil
          go_simp
          with_reducible refine (HCL.out _ hv4).mono ?_
          rintro e V5 ⟨rfl, hv5⟩
          have hv5 : Below wc.heap.size wc V5 := Bel.step hv4 hv5
          go_simp
          refine hK.out _ _ hv5 (fun _ => ?_)
          clear hK K
          refine tk 31 119 (h := ⟨_, tv, ?_⟩)
          simp only [pE, List.set]
          refine tk 32 120 (h := ⟨_, tv, ?_⟩)
          simp only [pE, List.set]
          refine tk 33 121 (h := ⟨_, tv, ?_⟩)
          simp only [pE, List.set]
          refine tk 34 122 (h := ⟨_, tv, ?_⟩)
          simp only [pE, List.set]
          refine tk 35 123 (h := ⟨_, tv, ?_⟩)
          simp only [pE, List.set]
          refine tk 36 124 (h := ⟨_, tv, ?_⟩)
          simp only [pE, List.set]
          refine tk 37 125 (h := ⟨_, tv, ?_⟩)
          simp only [pE, List.set]
          refine tk 38 126 (h := ⟨_, tv, ?_⟩)
          simp only [pE, List.set]
          refine tk 39 127 (h := ⟨_, tv, ?_⟩)
          simp only [pE, List.set]
          refine tk 40 128 (h := ⟨_, tv, ?_⟩)
          simp only [pE, List.set]
          refine wpAnyH_done (by kernel_rfl) ?_ _
          have HV5 := Lib.hid hv5
          clear hv1 hv2 hv3 hv4 hv5 HC1 HCL HSP
          go_wp2_with fail
          go_loopw [14] (fun q W => Below V5.heap.size V5 W ∧ ∃ i : Nat, i ≤ n ∧ q = .int .i64 (i : Int)) (fun q _ => n - (intOf q).toNat)
          case atStart => exact ⟨Below.refl _ _, 0, Nat.zero_le _, rfl⟩
          case round =>
            obtain ⟨hbl, i, hi, rfl⟩ := hrel
            have HR := Lib.hid (Bel.step HV5.out hbl)
            have HRL := Lib.hid hbl
            clear hbl
            by_cases hil : i < n
            · obtain ⟨v, hv⟩ : ∃ v, (pcs N 1 (List.range n))[i]? = some v := ⟨_, List.getElem?_eq_getElem (by rw [wh_one]; exact hil)⟩
              obtain ⟨qb, qo, A12, n12, c12, l12, rfl, hl12, cl, hr12, _, _⟩ := (HQc.out.below HR.out).at_ hil
              obtain rfl : l12 = nats v := by
                have : (rowsP (pcs N 1 (List.range n)))[i]? = some (nats v) := by simp [rowsP, hv]
                rw [this] at hl12
                exact (Option.some.inj hl12).symm
              obtain rfl : v.length = n12 := by have := hr12.1; simpa [nats] using this
              have hvl : v.length ≤ 1 := pcs_le N (Nat.le_refl 1) _ v (List.mem_of_getElem? hv)
              have HOI := Lib.hid (show ∀ V, Below wc.heap.size wc V → Calls Tryz.prog 23 #[.agg #[.slice Q 1 1], .int .i64 1, .int .i64 (i : Int)] V _ from fun V hV => wh_of1 hnl h1n (by omega) Q 1 1 HLB.out V (HTQ.out V hV) hv)
              have HR12 := Lib.hid hr12
              obtain ⟨p0, _, _⟩ := HSX.out wr HR.out
              have i1 : (0 : Int) ≤ (i : Int) := by omega
              have i2 : (i : Int) < (n : Int) := by omega
              have HI := Lib.hid hil
              have HSX0 := HSX
              clear HSX
              have HSX := Lib.hid (show ∀ V, Below wr.heap.size wr V → V.cell? ⟨qb, qo + i, none⟩ = some (.slice A12 v.length c12) ∧ V.cell? ⟨w6.heap.size, 0, none⟩ = some (.slice Q 1 1) ∧ (0 : Int) ≤ (i : Int) ∧ (i : Int) < (n : Int) from fun V hV => ⟨Below.cellOf hV (Nat.le_refl _) cl, Below.cellOf hV (Nat.le_refl _) p0, i1, i2⟩)
              clear hv hl12 hr12 cl p0 hil
              go_wp2_with fail
              refine wp_region_held_drew (S := fun V => Below wr.heap.size wr V) (by kernel_rfl) (Below.refl _ _).drew (fun _ => ?_)
              refine tk 0 135 (h := ⟨_, tv, ?_⟩)
              simp only [pE, List.set]
              refine tk 1 136 (h := ⟨_, tv, ?_⟩)
              simp only [pE, List.set]
              refine tk 2 137 (h := ⟨_, tv, ?_⟩)
              simp only [pE, List.set]
              refine tk 3 138 (h := ⟨_, tv, ?_⟩)
              simp only [pE, List.set]
              refine tk 4 139 (h := ⟨_, tv, ?_⟩)
              simp only [pE, List.set]
              refine tk 5 140 (h := ⟨_, tv, ?_⟩)
              simp only [pE, List.set]
              refine wpAnyH_ready (rs := [6]) (by kernel_rfl) (by simp) ?_
              refine AllReadyH.cons (o := _) rfl (fun K hK => ?_) AllReadyH.nil
              go_simp
              with_reducible refine (HOI.out _ HR.out.drew).mono ?_
              rintro e X1 ⟨A13, k13, rfl, hr13, _, _, hx1⟩
              have hx1 : Below wr.heap.size wr X1 := (Below.refl _ _).drew.trans hx1
              have HSI := Lib.hid (sameInts_any A12 A13 v.length v.length c12 k13 (nats v) (nats v) X1 (HR12.out.below hx1) hr13 (by omega) (by omega))
              go_simp
              refine hK.out _ _ hx1 (fun _ => ?_)
              clear hK K hr13
              refine wpAnyH_ready (rs := [7]) (by kernel_rfl) (by simp) ?_
              refine AllReadyH.cons (o := _) rfl (fun K hK => ?_) AllReadyH.nil
              go_simp
              with_reducible refine HSI.out.mono ?_
              rintro e X2 ⟨rfl, kx, rfl⟩
              have hx2 : Below wr.heap.size wr (X1.drewN kx) := below_drewN hx1 kx
              rw [decide_eq_true (rfl : nats v = nats v)]
              go_simp
              refine hK.out _ _ hx2 (fun _ => ?_)
              clear hK K HSI HOI
              refine tk 8 143 (h := ⟨_, tv, ?_⟩)
              simp only [pE, List.set]
              refine wpAnyH_done (by kernel_rfl) ?_ _
              have HX2 := Lib.hid (Bel.step HRL.out hx2)
              clear hx1 hx2
              go_wp2_with fail
              go_roundw
              case rel => exact ⟨HX2.out, i + 1, by have := HI.out; omega, by go_num⟩
              case measure => have := HI.out; simp [intOf]; omega
            · obtain rfl : i = n := by omega
              have HE := Lib.hid (HBW.out.trans (HR.out.mono HBW.out.size))
              go_wp2_with fail
              go_ret
              exact ⟨rfl, HE.out⟩
  · have e2 : ((n : Int) == 1) = false := beq_eq_false_iff_ne.2 (by omega)
    have hwb : whB n = [1, n] := by unfold whB; rw [if_neg hn1]
    go_wp2_with fail
    (refine calls_named ?_; intro w5 hw5)
    have hb5 : Below w4.heap.size w4 w5 := by rw [hw5]; exact bELt
    have h5 : Blk w5 w4.heap.size 3 (ints (nats (whB n))) := by rw [hw5, hwb]; exact bLNt
    clear hw5
    have HI5 := Lib.hid h5
    have HB5 := Lib.hid (Bel.step HB4.out hb5)
    have HX5 := Lib.hid (hX4.below hb5 hX4.lt)
    have HG5 := Lib.hid (HG4.out.below hb5)
    have hz45 := hb5.size
    clear h5 hb5
    have HP5 := Lib.hid (show Calls Tryz.prog 11 #[.pointer (some ⟨g, 0, none⟩), .slice (some ⟨w4.heap.size, 0, none⟩) 2 2] w5 (BuPostM (rowsN N (whB n)) 2 w5) from by
      have h := nestBuild_m g 2 2 N (some ⟨w4.heap.size, 0, none⟩) (nats (whB n)) w5 HG5.out.rd (HI5.out.rdI (by rw [hwb]; rfl)) (wh_bok h1n) (wh_mx h1n (by omega))
      rw [natsOf_nats] at h
      exact h)
    clear x0 x1 x2
    with_reducible refine HP5.out.mono ?_
    rintro r w6 ⟨Q, rfl, hT, hb6, hTm⟩
    have HT6 := Lib.hid hTm
    have HB6 := Lib.hid (Bel.step HB5.out hb6)
    have HX6 := Lib.hid (HX5.out.below hb6 HX5.out.lt)
    have HI6 := Lib.hid (HI5.out.below hb6 HI5.out.lt)
    have HG6 := Lib.hid (HG5.out.below hb6)
    have hz56 := hb6.size
    clear hT hTm hb6 HP5 hX4
    go_wp2_with fail
    (refine wp_named ?_; intro w7 hw7)
    have hb7 : Below w6.heap.size w6 w7 := by rw [hw7]; exact bELt
    have hP7 : Blk w7 w6.heap.size 34 #[.slice Q 2 2] := by rw [hw7]; exact bLNt
    have HX7 := Lib.hid (HX6.out.below hb7 HX6.out.lt)
    have HI7 := Lib.hid (HI6.out.below hb7 HI6.out.lt)
    have HP7 := Lib.hid hP7
    have hk6 : Le (msk w6 (fun b => w5.heap.size ≤ b)) (msk w7 (fun b => w5.heap.size ≤ b)) := (Kept.below hb7).msk
    have HT7 := Lib.hid (HT6.out.le hk6)
    have HS7 := Lib.hid (show WhV w w7 F g N w7 N from ⟨Kept.refl _ _, Nat.le_refl _, Bel.step HB6.out hb7, HG6.out.below hb7, SameW.refl N⟩)
    have hz67 := hb7.size
    clear hw7 hb7 hP7 hk6
    have HRD := Lib.hid (show ∀ V, Kept (fun b => ¬ F b) w7 V → Blk V w6.heap.size 34 #[.slice Q 2 2] ∧ Blk V w.heap.size 26 #[.slice A n c, .slice B m d, .slice C k e] ∧ RdI V (some ⟨w4.heap.size, 0, none⟩) 2 (nats (whB n)) ∧ RdT V Q 2 (rowsN N (whB n)) from fun V hV => by
      have hb : ∀ {g' : Nat} {t : TypeId} {cs : Array Value}, Blk w7 g' t cs → ¬ F g' → Blk V g' t cs := fun h hg => (hV _ hg h.lt).trans h
      refine ⟨hb HP7.out (fun hf => by have := (HFB.out _ hf).2; omega), hb HX7.out (fun hf => by have := (HFB.out _ hf).1; omega), (hb HI7.out (fun hf => by have := (HFB.out _ hf).2; omega)).rdI (by rw [hwb]; rfl), ?_⟩
      exact HT7.out.le (((hV.mono (G' := fun b => w5.heap.size ≤ b) (fun b h1 h2 => by have := (HFB.out b h2).2; omega)).msk).trans (msk_le _ _)))
    go_loopw [9] (fun q V => ∃ (i : Nat) (M : NetD), i ≤ lw ∧ q = .int .i64 i ∧ WhV w w7 F g N V M) (fun q _ => lw - (intOf q).toNat)
    case atStart => exact ⟨0, N, Nat.zero_le _, rfl, HS7.out⟩
    case round =>
      obtain ⟨i, M, hi, rfl, hS⟩ := hrel
      have HS := Lib.hid hS
      have x1 : wr.cell? ⟨w.heap.size, 1, none⟩ = some (.slice B m d) := by rw [(HRD.out wr hS.kept).2.1.cell]; rfl
      clear hS
      by_cases hlt : i < lw
      · have j1 : (i : Int) < (lw : Int) := by omega
        by_cases him : i < m
        · have j2 : (i : Int) < (m : Int) := by omega
          have j3 : (0 : Int) ≤ (i : Int) := by omega
          obtain ⟨wb, wo, z, rfl, hz, hcz⟩ := (HW.out.below HS.out.bel).at_ hlt
          have hML : M.ar.length = m := by
            have := congrArg List.length HS.out.same.ends
            simp only [List.length_map] at this
            rw [this]; exact hml
          obtain ⟨⟨tx, ty, tz⟩, hta⟩ : ∃ t, M.ar[i]? = some t := ⟨_, List.getElem?_eq_getElem (by omega)⟩
          have HTA := Lib.hid hta
          have HLT := Lib.hid hlt
          clear hz hta hML
          cases hu : wOk z with
          | true =>
            have HSET := Lib.hid (gSet_ok g i tx ty tz z M F wr HS.out.gr HTA.out hu)
            have HWT := Lib.hid (show Calls Tryz.prog 25 #[.int .i64 z] wr fun e w' => e = .returned (.bool true) ∧ wr = w' from by have := refWeight_any z wr; rw [hu] at this; exact this)
            go_wp2_with fail
            with_reducible refine HWT.out.mono ?_
            rintro r w' ⟨rfl, rfl⟩
            go_wp2_with fail
            with_reducible refine HSET.out.mono ?_
            rintro r w8 ⟨rfl, g1, g2, g3, g4⟩
            have HS8 := Lib.hid (HS.out.set HFO.out HTA.out g1 g2 g3 g4)
            clear g1 g2 g3 g4 HSET
            go_wp2_with fail
            go_roundw
            case rel => exact ⟨i + 1, _, by have := HLT.out; omega, by go_num, HS8.out⟩
            case measure => have := HLT.out; simp [intOf]; omega
          | false =>
            have HWT := Lib.hid (show Calls Tryz.prog 25 #[.int .i64 z] wr fun e w' => e = .returned (.bool false) ∧ wr = w' from by have := refWeight_any z wr; rw [hu] at this; exact this)
            go_wp2_with fail
            with_reducible refine HWT.out.mono ?_
            rintro r w' ⟨rfl, rfl⟩
            go_wp2_with fail
            go_roundw
            case rel => exact ⟨i + 1, M, by have := HLT.out; omega, by go_num, HS.out⟩
            case measure => have := HLT.out; simp [intOf]; omega
        · have j2 : ¬ (i : Int) < (m : Int) := by omega
          as_aux_lemma =>
            obtain ⟨W0, rfl⟩ : ∃ W, W = wr := ⟨_, rfl⟩
            have hG9 := HS.out.gr.rd
            obtain ⟨hP8, hX8, hI8, hT8⟩ := HRD.out W0 HS.out.kept
            have HB2 := Lib.hid (show Calls Tryz.prog 11 #[.pointer (some ⟨g, 0, none⟩), .slice (some ⟨w4.heap.size, 0, none⟩) 2 2] W0 (BuPost (rowsN N (whB n)) 2 W0) from by
              have h := nestBuild_ok g 2 2 M (some ⟨w4.heap.size, 0, none⟩) (nats (whB n)) W0 hG9 hI8 (wh_bok h1n) (wh_mx h1n (by omega))
              rw [natsOf_nats, HS.out.same.rows] at h
              exact h)
            have HX8 := Lib.hid hX8
            have HP8 := Lib.hid hP8
            have HT8 := Lib.hid hT8
            have HGR := Lib.hid hG9
            have HSM := Lib.hid HS.out.same
            have HBL := Lib.hid HS.out.bel
            clear hG9 hP8 hX8 hI8 hT8 HS HRD HFO
            go_wp2_with fail
            clear x1
            with_reducible refine HB2.out.mono ?_
            rintro r w9 ⟨Q2, rfl, hT9, hb9⟩
            have HT9 := Lib.hid hT9
            have HB9 := Lib.hid hb9
            have hz9 := hb9.size
            have hP9 := HP8.out.below hb9 HP8.out.lt
            have p0 : w9.cell? ⟨w6.heap.size, 0, none⟩ = some (.slice Q 2 2) := by rw [hP9.cell]; rfl
            have hlt9 := hP9.lt
            clear hT9 hb9 HB2 hP9
            go_wp2_with fail
            (refine calls_named ?_; intro wa hwa)
            have hba : Below w9.heap.size w9 wa := by rw [hwa]; exact bELt
            have hPa : Blk wa w9.heap.size 34 #[.slice Q2 2 2] := by rw [hwa]; exact bLNt
            have HPa := Lib.hid hPa
            have HBa := Lib.hid (Bel.step HB9.out hba)
            have HTa := Lib.hid (HT9.out.below hba)
            have HOF := Lib.hid (show Calls Tryz.prog 23 #[.agg #[.slice Q 2 2], .int .i64 2, .int .i64 0] wa _ from wh_of hnl h1n (by omega) Q 2 2 (by rw [hwb]; rfl) wa (HT8.out.below HBa.out))
            clear hwa hba hPa p0 hlt9
            with_reducible refine HOF.out.mono ?_
            rintro r wb ⟨A10, k10, rfl, hrb, _, _, hbb⟩
            have HBb := Lib.hid (Bel.step HBa.out hbb)
            have HPb := Lib.hid (HPa.out.below hbb HPa.out.lt)
            have HTb := Lib.hid (HTa.out.below hbb)
            have HPC := Lib.hid (wh_pcs hnl HSM.out g k10 A10 wb (HGR.out.below HBb.out) hrb)
            clear HOF hrb hbb
            go_wp2_with fail
            with_reducible refine HPC.out.mono ?_
            rintro r wc ⟨A11, k11, rfl, hTc, hbc⟩
            have HBc := Lib.hid (Bel.step HBb.out hbc)
            have HTc := Lib.hid (HTb.out.below hbc)
            have HQc := Lib.hid hTc
            have hPc := HPb.out.below hbc HPb.out.lt
            have hPq := HP8.out.below HBc.out HP8.out.lt
            have hXc := HX8.out.below HBc.out HX8.out.lt
            have p0 : wc.cell? ⟨w6.heap.size, 0, none⟩ = some (.slice Q 2 2) := by rw [hPq.cell]; rfl
            have p1 : wc.cell? ⟨w9.heap.size, 0, none⟩ = some (.slice Q2 2 2) := by rw [hPc.cell]; rfl
            have p2 : wc.cell? ⟨w.heap.size, 0, none⟩ = some (.slice A n c) := by rw [hXc.cell]; rfl
            have HSX := Lib.hid (show ∀ V, Below wc.heap.size wc V → V.cell? ⟨w6.heap.size, 0, none⟩ = some (.slice Q 2 2) ∧ V.cell? ⟨w9.heap.size, 0, none⟩ = some (.slice Q2 2 2) ∧ V.cell? ⟨w.heap.size, 0, none⟩ = some (.slice A n c) from fun V hV => ⟨Below.cellOf hV (Nat.le_refl _) p0, Below.cellOf hV (Nat.le_refl _) p1, Below.cellOf hV (Nat.le_refl _) p2⟩)
            have HTQ := Lib.hid (show ∀ V, Below wc.heap.size wc V → RdT V Q 2 (rowsN N (whB n)) from fun V hV => HT8.out.below (Bel.step HBc.out hV))
            have HLB := Lib.hid (show (whB n).length = 2 by rw [hwb]; rfl)
            have HC1 := Lib.hid (show ∀ V, Below wc.heap.size wc V → Calls Tryz.prog 22 #[.agg #[.slice Q 2 2], .int .i64 1] V _ from fun V hV => wh_cnt1 hnl h1n (by omega) Q 2 2 HLB.out V (HTQ.out V hV))
            have HCL := Lib.hid (show ∀ V, Below wc.heap.size wc V → Calls Tryz.prog 22 #[.agg #[.slice Q 2 2], .int .i64 2] V _ from fun V hV => wh_cntL hnl h1n (by omega) Q 2 2 HLB.out V (HTQ.out V hV))
            have HSP := Lib.hid (show ∀ V, Below wc.heap.size wc V → Calls Tryz.prog 16 #[.agg #[.slice Q 2 2], .agg #[.slice Q2 2 2]] V _ from fun V hV => samePart_same Q Q2 2 2 2 (rowsN N (whB n)) V (HTQ.out V hV) (HTc.out.below hV) (by omega) (fun l hl => by have := wh_rows hnl l hl; omega))
            have HBW := Lib.hid (HBL.out.trans (HBc.out.mono HBL.out.size))
            clear hTc hbc hPc hPq hXc p0 p1 p2 HPC
            go_wp2_with fail
            refine wp_region_held_drew (S := fun V => Below wc.heap.size wc V) (by kernel_rfl) (Below.refl _ _).drew (fun _ => ?_)
            refine tk 0 88 (h := ⟨_, tv, ?_⟩)
            simp only [pE, List.set]
            refine tk 1 89 (h := ⟨_, tv, ?_⟩)
            simp only [pE, List.set]
            refine tk 2 90 (h := ⟨_, tv, ?_⟩)
            simp only [pE, List.set]
            refine tk 3 91 (h := ⟨_, tv, ?_⟩)
            simp only [pE, List.set]
            refine tk 4 92 (h := ⟨_, tv, ?_⟩)
            simp only [pE, List.set]
            refine tk 5 93 (h := ⟨_, tv, ?_⟩)
            simp only [pE, List.set]
            refine tk 6 94 (h := ⟨_, tv, ?_⟩)
            simp only [pE, List.set]
            refine tk 7 95 (h := ⟨_, tv, ?_⟩)
            simp only [pE, List.set]
            refine tk 8 96 (h := ⟨_, tv, ?_⟩)
            simp only [pE, List.set]
            refine tk 9 97 (h := ⟨_, tv, ?_⟩)
            simp only [pE, List.set]
            refine tk 10 98 (h := ⟨_, tv, ?_⟩)
            simp only [pE, List.set]
            refine tk 11 99 (h := ⟨_, tv, ?_⟩)
            simp only [pE, List.set]
            refine tk 13 101 (h := ⟨_, tv, ?_⟩)
            simp only [pE, List.set]
            refine wpAnyH_ready (rs := [12]) (by kernel_rfl) (by simp) ?_
            refine AllReadyH.cons (o := _) rfl (fun K hK => ?_) AllReadyH.nil
            go_simp
            with_reducible refine (partOf_any Q 2 2 _).mono ?_
            rintro e V1 ⟨rfl, hv1⟩
            have hv1 : Below wc.heap.size wc V1 := (Below.refl _ _).drew.trans hv1
            go_simp
            refine hK.out _ _ hv1 (fun _ => ?_)
            clear hK K
            refine wpAnyH_ready (rs := [14]) (by kernel_rfl) (by simp) ?_
            refine AllReadyH.cons (o := _) rfl (fun K hK => ?_) AllReadyH.nil
            go_simp
            with_reducible refine (partOf_any Q2 2 2 _).mono ?_
            rintro e V2 ⟨rfl, hv2⟩
            have hv2 : Below wc.heap.size wc V2 := Bel.step hv1 hv2
            go_simp
            refine hK.out _ _ hv2 (fun _ => ?_)
            clear hK K
            refine wpAnyH_ready (rs := [15]) (by kernel_rfl) (by simp) ?_
            refine AllReadyH.cons (o := _) rfl (fun K hK => ?_) AllReadyH.nil
            go_simp
            with_reducible refine (HSP.out _ hv2).mono ?_
            rintro e V3 ⟨rfl, hv3⟩
            have hv3 : Below wc.heap.size wc V3 := Bel.step hv2 hv3
            go_simp
            refine hK.out _ _ hv3 (fun _ => ?_)
            clear hK K
            refine tk 16 104 (h := ⟨_, tv, ?_⟩)
            simp only [pE, List.set]
            refine tk 17 105 (h := ⟨_, tv, ?_⟩)
            simp only [pE, List.set]
            refine tk 18 106 (h := ⟨_, tv, ?_⟩)
            simp only [pE, List.set]
            refine tk 19 107 (h := ⟨_, tv, ?_⟩)
            simp only [pE, List.set]
            refine tk 21 109 (h := ⟨_, tv, ?_⟩)
            simp only [pE, List.set]
            refine tk 22 110 (h := ⟨_, tv, ?_⟩)
            simp only [pE, List.set]
            refine tk 23 111 (h := ⟨_, tv, ?_⟩)
            simp only [pE, List.set]
            refine wpAnyH_ready (rs := [20]) (by kernel_rfl) (by simp) ?_
            refine AllReadyH.cons (o := _) rfl (fun K hK => ?_) AllReadyH.nil
            go_simp
            with_reducible refine (HC1.out _ hv3).mono ?_
            rintro e V4 ⟨rfl, hv4⟩
            have hv4 : Below wc.heap.size wc V4 := Bel.step hv3 hv4
            go_simp
            refine hK.out _ _ hv4 (fun _ => ?_)
            clear hK K
            refine tk 24 112 (h := ⟨_, tv, ?_⟩)
            simp only [pE, List.set]
            refine tk 25 113 (h := ⟨_, tv, ?_⟩)
            simp only [pE, List.set]
            refine tk 26 114 (h := ⟨_, tv, ?_⟩)
            simp only [pE, List.set]
            refine tk 27 115 (h := ⟨_, tv, ?_⟩)
            simp only [pE, List.set]
            refine tk 28 116 (h := ⟨_, tv, ?_⟩)
            simp only [pE, List.set]
            refine tk 29 117 (h := ⟨_, tv, ?_⟩)
            simp only [pE, List.set]
            refine wpAnyH_ready (rs := [30]) (by kernel_rfl) (by simp) ?_
            refine AllReadyH.cons (o := _) rfl (fun K hK => ?_) AllReadyH.nil
            go_simp
            with_reducible refine (HCL.out _ hv4).mono ?_
            rintro e V5 ⟨rfl, hv5⟩
            have hv5 : Below wc.heap.size wc V5 := Bel.step hv4 hv5
            go_simp
            refine hK.out _ _ hv5 (fun _ => ?_)
            clear hK K
            refine tk 31 119 (h := ⟨_, tv, ?_⟩)
            simp only [pE, List.set]
            refine tk 32 120 (h := ⟨_, tv, ?_⟩)
            simp only [pE, List.set]
            refine tk 33 121 (h := ⟨_, tv, ?_⟩)
            simp only [pE, List.set]
            refine tk 34 122 (h := ⟨_, tv, ?_⟩)
            simp only [pE, List.set]
            refine tk 35 123 (h := ⟨_, tv, ?_⟩)
            simp only [pE, List.set]
            refine tk 36 124 (h := ⟨_, tv, ?_⟩)
            simp only [pE, List.set]
            refine tk 37 125 (h := ⟨_, tv, ?_⟩)
            simp only [pE, List.set]
            refine tk 38 126 (h := ⟨_, tv, ?_⟩)
            simp only [pE, List.set]
            refine tk 39 127 (h := ⟨_, tv, ?_⟩)
            simp only [pE, List.set]
            refine tk 40 128 (h := ⟨_, tv, ?_⟩)
            simp only [pE, List.set]
            refine wpAnyH_done (by kernel_rfl) ?_ _
            have HV5 := Lib.hid hv5
            clear hv1 hv2 hv3 hv4 hv5 HC1 HCL HSP
            go_wp2_with fail
            go_loopw [14] (fun q W => Below V5.heap.size V5 W ∧ ∃ i : Nat, i ≤ n ∧ q = .int .i64 (i : Int)) (fun q _ => n - (intOf q).toNat)
            case atStart => exact ⟨Below.refl _ _, 0, Nat.zero_le _, rfl⟩
            case round =>
              obtain ⟨hbl, i, hi, rfl⟩ := hrel
              have HR := Lib.hid (Bel.step HV5.out hbl)
              have HRL := Lib.hid hbl
              clear hbl
              by_cases hil : i < n
              · obtain ⟨v, hv⟩ : ∃ v, (pcs N 1 (List.range n))[i]? = some v := ⟨_, List.getElem?_eq_getElem (by rw [wh_one]; exact hil)⟩
                obtain ⟨qb, qo, A12, n12, c12, l12, rfl, hl12, cl, hr12, _, _⟩ := (HQc.out.below HR.out).at_ hil
                obtain rfl : l12 = nats v := by
                  have : (rowsP (pcs N 1 (List.range n)))[i]? = some (nats v) := by simp [rowsP, hv]
                  rw [this] at hl12
                  exact (Option.some.inj hl12).symm
                obtain rfl : v.length = n12 := by have := hr12.1; simpa [nats] using this
                have hvl : v.length ≤ 1 := pcs_le N (Nat.le_refl 1) _ v (List.mem_of_getElem? hv)
                have HOI := Lib.hid (show ∀ V, Below wc.heap.size wc V → Calls Tryz.prog 23 #[.agg #[.slice Q 2 2], .int .i64 1, .int .i64 (i : Int)] V _ from fun V hV => wh_of1 hnl h1n (by omega) Q 2 2 HLB.out V (HTQ.out V hV) hv)
                have HR12 := Lib.hid hr12
                obtain ⟨p0, _, _⟩ := HSX.out wr HR.out
                have i1 : (0 : Int) ≤ (i : Int) := by omega
                have i2 : (i : Int) < (n : Int) := by omega
                have HI := Lib.hid hil
                have HSX0 := HSX
                clear HSX
                have HSX := Lib.hid (show ∀ V, Below wr.heap.size wr V → V.cell? ⟨qb, qo + i, none⟩ = some (.slice A12 v.length c12) ∧ V.cell? ⟨w6.heap.size, 0, none⟩ = some (.slice Q 2 2) ∧ (0 : Int) ≤ (i : Int) ∧ (i : Int) < (n : Int) from fun V hV => ⟨Below.cellOf hV (Nat.le_refl _) cl, Below.cellOf hV (Nat.le_refl _) p0, i1, i2⟩)
                clear hv hl12 hr12 cl p0 hil
                go_wp2_with fail
                refine wp_region_held_drew (S := fun V => Below wr.heap.size wr V) (by kernel_rfl) (Below.refl _ _).drew (fun _ => ?_)
                refine tk 0 135 (h := ⟨_, tv, ?_⟩)
                simp only [pE, List.set]
                refine tk 1 136 (h := ⟨_, tv, ?_⟩)
                simp only [pE, List.set]
                refine tk 2 137 (h := ⟨_, tv, ?_⟩)
                simp only [pE, List.set]
                refine tk 3 138 (h := ⟨_, tv, ?_⟩)
                simp only [pE, List.set]
                refine tk 4 139 (h := ⟨_, tv, ?_⟩)
                simp only [pE, List.set]
                refine tk 5 140 (h := ⟨_, tv, ?_⟩)
                simp only [pE, List.set]
                refine wpAnyH_ready (rs := [6]) (by kernel_rfl) (by simp) ?_
                refine AllReadyH.cons (o := _) rfl (fun K hK => ?_) AllReadyH.nil
                go_simp
                with_reducible refine (HOI.out _ HR.out.drew).mono ?_
                rintro e X1 ⟨A13, k13, rfl, hr13, _, _, hx1⟩
                have hx1 : Below wr.heap.size wr X1 := (Below.refl _ _).drew.trans hx1
                have HSI := Lib.hid (sameInts_any A12 A13 v.length v.length c12 k13 (nats v) (nats v) X1 (HR12.out.below hx1) hr13 (by omega) (by omega))
                go_simp
                refine hK.out _ _ hx1 (fun _ => ?_)
                clear hK K hr13
                refine wpAnyH_ready (rs := [7]) (by kernel_rfl) (by simp) ?_
                refine AllReadyH.cons (o := _) rfl (fun K hK => ?_) AllReadyH.nil
                go_simp
                with_reducible refine HSI.out.mono ?_
                rintro e X2 ⟨rfl, kx, rfl⟩
                have hx2 : Below wr.heap.size wr (X1.drewN kx) := below_drewN hx1 kx
                rw [decide_eq_true (rfl : nats v = nats v)]
                go_simp
                refine hK.out _ _ hx2 (fun _ => ?_)
                clear hK K HSI HOI
                refine tk 8 143 (h := ⟨_, tv, ?_⟩)
                simp only [pE, List.set]
                refine wpAnyH_done (by kernel_rfl) ?_ _
                have HX2 := Lib.hid (Bel.step HRL.out hx2)
                clear hx1 hx2
                go_wp2_with fail
                go_roundw
                case rel => exact ⟨HX2.out, i + 1, by have := HI.out; omega, by go_num⟩
                case measure => have := HI.out; simp [intOf]; omega
              · obtain rfl : i = n := by omega
                have HE := Lib.hid (HBW.out.trans (HR.out.mono HBW.out.size))
                go_wp2_with fail
                go_ret
                exact ⟨rfl, HE.out⟩
      · have j1 : ¬ (i : Int) < (lw : Int) := by omega
        as_aux_lemma =>
          obtain ⟨W0, rfl⟩ : ∃ W, W = wr := ⟨_, rfl⟩
          have hG9 := HS.out.gr.rd
          obtain ⟨hP8, hX8, hI8, hT8⟩ := HRD.out W0 HS.out.kept
          have HB2 := Lib.hid (show Calls Tryz.prog 11 #[.pointer (some ⟨g, 0, none⟩), .slice (some ⟨w4.heap.size, 0, none⟩) 2 2] W0 (BuPost (rowsN N (whB n)) 2 W0) from by
            have h := nestBuild_ok g 2 2 M (some ⟨w4.heap.size, 0, none⟩) (nats (whB n)) W0 hG9 hI8 (wh_bok h1n) (wh_mx h1n (by omega))
            rw [natsOf_nats, HS.out.same.rows] at h
            exact h)
          have HX8 := Lib.hid hX8
          have HP8 := Lib.hid hP8
          have HT8 := Lib.hid hT8
          have HGR := Lib.hid hG9
          have HSM := Lib.hid HS.out.same
          have HBL := Lib.hid HS.out.bel
          clear hG9 hP8 hX8 hI8 hT8 HS HRD HFO
          go_wp2_with fail
          clear x1
          with_reducible refine HB2.out.mono ?_
          rintro r w9 ⟨Q2, rfl, hT9, hb9⟩
          have HT9 := Lib.hid hT9
          have HB9 := Lib.hid hb9
          have hz9 := hb9.size
          have hP9 := HP8.out.below hb9 HP8.out.lt
          have p0 : w9.cell? ⟨w6.heap.size, 0, none⟩ = some (.slice Q 2 2) := by rw [hP9.cell]; rfl
          have hlt9 := hP9.lt
          clear hT9 hb9 HB2 hP9
          go_wp2_with fail
          (refine calls_named ?_; intro wa hwa)
          have hba : Below w9.heap.size w9 wa := by rw [hwa]; exact bELt
          have hPa : Blk wa w9.heap.size 34 #[.slice Q2 2 2] := by rw [hwa]; exact bLNt
          have HPa := Lib.hid hPa
          have HBa := Lib.hid (Bel.step HB9.out hba)
          have HTa := Lib.hid (HT9.out.below hba)
          have HOF := Lib.hid (show Calls Tryz.prog 23 #[.agg #[.slice Q 2 2], .int .i64 2, .int .i64 0] wa _ from wh_of hnl h1n (by omega) Q 2 2 (by rw [hwb]; rfl) wa (HT8.out.below HBa.out))
          clear hwa hba hPa p0 hlt9
          with_reducible refine HOF.out.mono ?_
          rintro r wb ⟨A10, k10, rfl, hrb, _, _, hbb⟩
          have HBb := Lib.hid (Bel.step HBa.out hbb)
          have HPb := Lib.hid (HPa.out.below hbb HPa.out.lt)
          have HTb := Lib.hid (HTa.out.below hbb)
          have HPC := Lib.hid (wh_pcs hnl HSM.out g k10 A10 wb (HGR.out.below HBb.out) hrb)
          clear HOF hrb hbb
          go_wp2_with fail
          with_reducible refine HPC.out.mono ?_
          rintro r wc ⟨A11, k11, rfl, hTc, hbc⟩
          have HBc := Lib.hid (Bel.step HBb.out hbc)
          have HTc := Lib.hid (HTb.out.below hbc)
          have HQc := Lib.hid hTc
          have hPc := HPb.out.below hbc HPb.out.lt
          have hPq := HP8.out.below HBc.out HP8.out.lt
          have hXc := HX8.out.below HBc.out HX8.out.lt
          have p0 : wc.cell? ⟨w6.heap.size, 0, none⟩ = some (.slice Q 2 2) := by rw [hPq.cell]; rfl
          have p1 : wc.cell? ⟨w9.heap.size, 0, none⟩ = some (.slice Q2 2 2) := by rw [hPc.cell]; rfl
          have p2 : wc.cell? ⟨w.heap.size, 0, none⟩ = some (.slice A n c) := by rw [hXc.cell]; rfl
          have HSX := Lib.hid (show ∀ V, Below wc.heap.size wc V → V.cell? ⟨w6.heap.size, 0, none⟩ = some (.slice Q 2 2) ∧ V.cell? ⟨w9.heap.size, 0, none⟩ = some (.slice Q2 2 2) ∧ V.cell? ⟨w.heap.size, 0, none⟩ = some (.slice A n c) from fun V hV => ⟨Below.cellOf hV (Nat.le_refl _) p0, Below.cellOf hV (Nat.le_refl _) p1, Below.cellOf hV (Nat.le_refl _) p2⟩)
          have HTQ := Lib.hid (show ∀ V, Below wc.heap.size wc V → RdT V Q 2 (rowsN N (whB n)) from fun V hV => HT8.out.below (Bel.step HBc.out hV))
          have HLB := Lib.hid (show (whB n).length = 2 by rw [hwb]; rfl)
          have HC1 := Lib.hid (show ∀ V, Below wc.heap.size wc V → Calls Tryz.prog 22 #[.agg #[.slice Q 2 2], .int .i64 1] V _ from fun V hV => wh_cnt1 hnl h1n (by omega) Q 2 2 HLB.out V (HTQ.out V hV))
          have HCL := Lib.hid (show ∀ V, Below wc.heap.size wc V → Calls Tryz.prog 22 #[.agg #[.slice Q 2 2], .int .i64 2] V _ from fun V hV => wh_cntL hnl h1n (by omega) Q 2 2 HLB.out V (HTQ.out V hV))
          have HSP := Lib.hid (show ∀ V, Below wc.heap.size wc V → Calls Tryz.prog 16 #[.agg #[.slice Q 2 2], .agg #[.slice Q2 2 2]] V _ from fun V hV => samePart_same Q Q2 2 2 2 (rowsN N (whB n)) V (HTQ.out V hV) (HTc.out.below hV) (by omega) (fun l hl => by have := wh_rows hnl l hl; omega))
          have HBW := Lib.hid (HBL.out.trans (HBc.out.mono HBL.out.size))
          clear hTc hbc hPc hPq hXc p0 p1 p2 HPC
          go_wp2_with fail
          refine wp_region_held_drew (S := fun V => Below wc.heap.size wc V) (by kernel_rfl) (Below.refl _ _).drew (fun _ => ?_)
          refine tk 0 88 (h := ⟨_, tv, ?_⟩)
          simp only [pE, List.set]
          refine tk 1 89 (h := ⟨_, tv, ?_⟩)
          simp only [pE, List.set]
          refine tk 2 90 (h := ⟨_, tv, ?_⟩)
          simp only [pE, List.set]
          refine tk 3 91 (h := ⟨_, tv, ?_⟩)
          simp only [pE, List.set]
          refine tk 4 92 (h := ⟨_, tv, ?_⟩)
          simp only [pE, List.set]
          refine tk 5 93 (h := ⟨_, tv, ?_⟩)
          simp only [pE, List.set]
          refine tk 6 94 (h := ⟨_, tv, ?_⟩)
          simp only [pE, List.set]
          refine tk 7 95 (h := ⟨_, tv, ?_⟩)
          simp only [pE, List.set]
          refine tk 8 96 (h := ⟨_, tv, ?_⟩)
          simp only [pE, List.set]
          refine tk 9 97 (h := ⟨_, tv, ?_⟩)
          simp only [pE, List.set]
          refine tk 10 98 (h := ⟨_, tv, ?_⟩)
          simp only [pE, List.set]
          refine tk 11 99 (h := ⟨_, tv, ?_⟩)
          simp only [pE, List.set]
          refine tk 13 101 (h := ⟨_, tv, ?_⟩)
          simp only [pE, List.set]
          refine wpAnyH_ready (rs := [12]) (by kernel_rfl) (by simp) ?_
          refine AllReadyH.cons (o := _) rfl (fun K hK => ?_) AllReadyH.nil
          go_simp
          with_reducible refine (partOf_any Q 2 2 _).mono ?_
          rintro e V1 ⟨rfl, hv1⟩
          have hv1 : Below wc.heap.size wc V1 := (Below.refl _ _).drew.trans hv1
          go_simp
          refine hK.out _ _ hv1 (fun _ => ?_)
          clear hK K
          refine wpAnyH_ready (rs := [14]) (by kernel_rfl) (by simp) ?_
          refine AllReadyH.cons (o := _) rfl (fun K hK => ?_) AllReadyH.nil
          go_simp
          with_reducible refine (partOf_any Q2 2 2 _).mono ?_
          rintro e V2 ⟨rfl, hv2⟩
          have hv2 : Below wc.heap.size wc V2 := Bel.step hv1 hv2
          go_simp
          refine hK.out _ _ hv2 (fun _ => ?_)
          clear hK K
          refine wpAnyH_ready (rs := [15]) (by kernel_rfl) (by simp) ?_
          refine AllReadyH.cons (o := _) rfl (fun K hK => ?_) AllReadyH.nil
          go_simp
          with_reducible refine (HSP.out _ hv2).mono ?_
          rintro e V3 ⟨rfl, hv3⟩
          have hv3 : Below wc.heap.size wc V3 := Bel.step hv2 hv3
          go_simp
          refine hK.out _ _ hv3 (fun _ => ?_)
          clear hK K
          refine tk 16 104 (h := ⟨_, tv, ?_⟩)
          simp only [pE, List.set]
          refine tk 17 105 (h := ⟨_, tv, ?_⟩)
          simp only [pE, List.set]
          refine tk 18 106 (h := ⟨_, tv, ?_⟩)
          simp only [pE, List.set]
          refine tk 19 107 (h := ⟨_, tv, ?_⟩)
          simp only [pE, List.set]
          refine tk 21 109 (h := ⟨_, tv, ?_⟩)
          simp only [pE, List.set]
          refine tk 22 110 (h := ⟨_, tv, ?_⟩)
          simp only [pE, List.set]
          refine tk 23 111 (h := ⟨_, tv, ?_⟩)
          simp only [pE, List.set]
          refine wpAnyH_ready (rs := [20]) (by kernel_rfl) (by simp) ?_
          refine AllReadyH.cons (o := _) rfl (fun K hK => ?_) AllReadyH.nil
          go_simp
          with_reducible refine (HC1.out _ hv3).mono ?_
          rintro e V4 ⟨rfl, hv4⟩
          have hv4 : Below wc.heap.size wc V4 := Bel.step hv3 hv4
          go_simp
          refine hK.out _ _ hv4 (fun _ => ?_)
          clear hK K
          refine tk 24 112 (h := ⟨_, tv, ?_⟩)
          simp only [pE, List.set]
          refine tk 25 113 (h := ⟨_, tv, ?_⟩)
          simp only [pE, List.set]
          refine tk 26 114 (h := ⟨_, tv, ?_⟩)
          simp only [pE, List.set]
          refine tk 27 115 (h := ⟨_, tv, ?_⟩)
          simp only [pE, List.set]
          refine tk 28 116 (h := ⟨_, tv, ?_⟩)
          simp only [pE, List.set]
          refine tk 29 117 (h := ⟨_, tv, ?_⟩)
          simp only [pE, List.set]
          refine wpAnyH_ready (rs := [30]) (by kernel_rfl) (by simp) ?_
          refine AllReadyH.cons (o := _) rfl (fun K hK => ?_) AllReadyH.nil
          go_simp
          with_reducible refine (HCL.out _ hv4).mono ?_
          rintro e V5 ⟨rfl, hv5⟩
          have hv5 : Below wc.heap.size wc V5 := Bel.step hv4 hv5
          go_simp
          refine hK.out _ _ hv5 (fun _ => ?_)
          clear hK K
          refine tk 31 119 (h := ⟨_, tv, ?_⟩)
          simp only [pE, List.set]
          refine tk 32 120 (h := ⟨_, tv, ?_⟩)
          simp only [pE, List.set]
          refine tk 33 121 (h := ⟨_, tv, ?_⟩)
          simp only [pE, List.set]
          refine tk 34 122 (h := ⟨_, tv, ?_⟩)
          simp only [pE, List.set]
          refine tk 35 123 (h := ⟨_, tv, ?_⟩)
          simp only [pE, List.set]
          refine tk 36 124 (h := ⟨_, tv, ?_⟩)
          simp only [pE, List.set]
          refine tk 37 125 (h := ⟨_, tv, ?_⟩)
          simp only [pE, List.set]
          refine tk 38 126 (h := ⟨_, tv, ?_⟩)
          simp only [pE, List.set]
          refine tk 39 127 (h := ⟨_, tv, ?_⟩)
          simp only [pE, List.set]
          refine tk 40 128 (h := ⟨_, tv, ?_⟩)
          simp only [pE, List.set]
          refine wpAnyH_done (by kernel_rfl) ?_ _
          have HV5 := Lib.hid hv5
          clear hv1 hv2 hv3 hv4 hv5 HC1 HCL HSP
          go_wp2_with fail
          go_loopw [14] (fun q W => Below V5.heap.size V5 W ∧ ∃ i : Nat, i ≤ n ∧ q = .int .i64 (i : Int)) (fun q _ => n - (intOf q).toNat)
          case atStart => exact ⟨Below.refl _ _, 0, Nat.zero_le _, rfl⟩
          case round =>
            obtain ⟨hbl, i, hi, rfl⟩ := hrel
            have HR := Lib.hid (Bel.step HV5.out hbl)
            have HRL := Lib.hid hbl
            clear hbl
            by_cases hil : i < n
            · obtain ⟨v, hv⟩ : ∃ v, (pcs N 1 (List.range n))[i]? = some v := ⟨_, List.getElem?_eq_getElem (by rw [wh_one]; exact hil)⟩
              obtain ⟨qb, qo, A12, n12, c12, l12, rfl, hl12, cl, hr12, _, _⟩ := (HQc.out.below HR.out).at_ hil
              obtain rfl : l12 = nats v := by
                have : (rowsP (pcs N 1 (List.range n)))[i]? = some (nats v) := by simp [rowsP, hv]
                rw [this] at hl12
                exact (Option.some.inj hl12).symm
              obtain rfl : v.length = n12 := by have := hr12.1; simpa [nats] using this
              have hvl : v.length ≤ 1 := pcs_le N (Nat.le_refl 1) _ v (List.mem_of_getElem? hv)
              have HOI := Lib.hid (show ∀ V, Below wc.heap.size wc V → Calls Tryz.prog 23 #[.agg #[.slice Q 2 2], .int .i64 1, .int .i64 (i : Int)] V _ from fun V hV => wh_of1 hnl h1n (by omega) Q 2 2 HLB.out V (HTQ.out V hV) hv)
              have HR12 := Lib.hid hr12
              obtain ⟨p0, _, _⟩ := HSX.out wr HR.out
              have i1 : (0 : Int) ≤ (i : Int) := by omega
              have i2 : (i : Int) < (n : Int) := by omega
              have HI := Lib.hid hil
              have HSX0 := HSX
              clear HSX
              have HSX := Lib.hid (show ∀ V, Below wr.heap.size wr V → V.cell? ⟨qb, qo + i, none⟩ = some (.slice A12 v.length c12) ∧ V.cell? ⟨w6.heap.size, 0, none⟩ = some (.slice Q 2 2) ∧ (0 : Int) ≤ (i : Int) ∧ (i : Int) < (n : Int) from fun V hV => ⟨Below.cellOf hV (Nat.le_refl _) cl, Below.cellOf hV (Nat.le_refl _) p0, i1, i2⟩)
              clear hv hl12 hr12 cl p0 hil
              go_wp2_with fail
              refine wp_region_held_drew (S := fun V => Below wr.heap.size wr V) (by kernel_rfl) (Below.refl _ _).drew (fun _ => ?_)
              refine tk 0 135 (h := ⟨_, tv, ?_⟩)
              simp only [pE, List.set]
              refine tk 1 136 (h := ⟨_, tv, ?_⟩)
              simp only [pE, List.set]
              refine tk 2 137 (h := ⟨_, tv, ?_⟩)
              simp only [pE, List.set]
              refine tk 3 138 (h := ⟨_, tv, ?_⟩)
              simp only [pE, List.set]
              refine tk 4 139 (h := ⟨_, tv, ?_⟩)
              simp only [pE, List.set]
              refine tk 5 140 (h := ⟨_, tv, ?_⟩)
              simp only [pE, List.set]
              refine wpAnyH_ready (rs := [6]) (by kernel_rfl) (by simp) ?_
              refine AllReadyH.cons (o := _) rfl (fun K hK => ?_) AllReadyH.nil
              go_simp
              with_reducible refine (HOI.out _ HR.out.drew).mono ?_
              rintro e X1 ⟨A13, k13, rfl, hr13, _, _, hx1⟩
              have hx1 : Below wr.heap.size wr X1 := (Below.refl _ _).drew.trans hx1
              have HSI := Lib.hid (sameInts_any A12 A13 v.length v.length c12 k13 (nats v) (nats v) X1 (HR12.out.below hx1) hr13 (by omega) (by omega))
              go_simp
              refine hK.out _ _ hx1 (fun _ => ?_)
              clear hK K hr13
              refine wpAnyH_ready (rs := [7]) (by kernel_rfl) (by simp) ?_
              refine AllReadyH.cons (o := _) rfl (fun K hK => ?_) AllReadyH.nil
              go_simp
              with_reducible refine HSI.out.mono ?_
              rintro e X2 ⟨rfl, kx, rfl⟩
              have hx2 : Below wr.heap.size wr (X1.drewN kx) := below_drewN hx1 kx
              rw [decide_eq_true (rfl : nats v = nats v)]
              go_simp
              refine hK.out _ _ hx2 (fun _ => ?_)
              clear hK K HSI HOI
              refine tk 8 143 (h := ⟨_, tv, ?_⟩)
              simp only [pE, List.set]
              refine wpAnyH_done (by kernel_rfl) ?_ _
              have HX2 := Lib.hid (Bel.step HRL.out hx2)
              clear hx1 hx2
              go_wp2_with fail
              go_roundw
              case rel => exact ⟨HX2.out, i + 1, by have := HI.out; omega, by go_num⟩
              case measure => have := HI.out; simp [intOf]; omega
            · obtain rfl : i = n := by omega
              have HE := Lib.hid (HBW.out.trans (HR.out.mono HBW.out.size))
              go_wp2_with fail
              go_ret
              exact ⟨rfl, HE.out⟩
end Go.Proofs.YtpffhoefmcpniaaGreatDoor
