/- Parts of the proof: NeK, NeG, Si, Nf8, Open. -/
import Derived.Test.YtpffhoefmcpniaaGreatDoorB1
import Derived.Test.YtpffhoefmcpniaaGreatDoorB2
import Derived.Test.YtpffhoefmcpniaaGreatDoorB11
import Derived.Test.YtpffhoefmcpniaaGreatDoorB21
import Derived.Test.YtpffhoefmcpniaaGreatDoorB25
import Derived.Test.YtpffhoefmcpniaaGreatDoorB35
import Derived.Test.YtpffhoefmcpniaaGreatDoorB38
import Derived.Test.YtpffhoefmcpniaaGreatDoorB39
import Derived.Test.YtpffhoefmcpniaaGreatDoorB40
import Derived.Test.YtpffhoefmcpniaaGreatDoorRows
import Derived.ProofKit
import Derived.OpenShut
import Derived.Deep.Slices
import Derived.SizedLaws
namespace Go.Proofs.YtpffhoefmcpniaaGreatDoor
open Go.RowKit

theorem natsOf_nats (l : List Nat) : natsOf (nats l) = l := by
 unfold natsOf nats
 rw [List.map_map]
 conv => rhs; rw [← List.map_id l]
 apply List.map_congr_left
 intro x _
 simp
theorem rows_cnt (N : NetD) {bs : List Nat} (hp : ∀ b ∈ bs, 1 ≤ b) : ∀ (i : Nat) l y, (rowsN N bs)[i]? = some l → (nats bs)[i]? = some y → ∀ x ∈ cntI l (mostN l).toNat, x ≤ y := by
 intro i l y hl hy x hx
 have hi : i < bs.length := by
  have := (List.getElem?_eq_some_iff.1 hl).1
  rwa [rowsN_len] at this
 rw [rowsN_get N bs i hi] at hl
 have hl := (Option.some.inj hl).symm
 have hbi : bs[i]? = some bs[i] := List.getElem?_eq_getElem hi
 have ey : y = ((bs[i] : Nat) : Int) := by
  simp only [nats, List.getElem?_map, hbi] at hy
  exact (Option.some.inj hy).symm
 have hd := downP_drop N hbi
 have hcv : Cov N.vs.length (downP N (bs.drop i)) := by rw [hd]; exact nxt_cov (downP_perm N _).1 (downP_perm N _).2
 have hrow : IsRow N.vs.length (downP N (bs.drop i)) l := by rw [hl]; exact rowN_is hcv
 rw [hrow.most hcv] at hx
 unfold cntI at hx
 obtain ⟨c, hc, rfl⟩ := List.mem_map.1 hx
 have hc : c < (downP N (bs.drop i)).length := by have := List.mem_range.1 hc; omega
 have hq := List.getElem?_eq_getElem hc
 rw [hrow.countP hcv hq, ey]
 have hm := List.getElem_mem hc
 have hle : ∀ q ∈ downP N (bs.drop i), q.length ≤ bs[i] := by rw [hd]; exact nxt_le N (hp _ (List.getElem_mem hi))
 have := hle _ hm
 omega
theorem ring_pcs : (pcs ringN 2 [0, 1, 2]).length = 2 := by
 have h2 : 2 ≤ ([0, 1, 2] : List Nat).length := by decide
 have h3 : ([0, 1, 2] : List Nat).length = 3 := rfl
 rw [pcs_two ringN (by decide) h2]
 have a1 := hlf_len ringN true h2
 have a2 := hlf_len ringN false h2
 rw [h3] at a1 a2
 rw [pcs_one ringN (by omega) (.inl (by omega)), pcs_one ringN (by omega) (.inl (by omega))]
 rfl
theorem ring_d3 : downP ringN [3] = [List.range 3] := by
 show nxt ringN 3 (allV 3) = _
 show pcs ringN 3 (List.range 3) ++ [] = _
 rw [pcs_one ringN (by decide) (.inl (by decide))]
 rfl
theorem ring_d1 : (downP ringN [1, 3]).length = 3 := by
 show (nxt ringN 1 (downP ringN [3])).length = 3
 exact nxt_ones (downP_perm ringN [3]).1 (downP_perm ringN [3]).2
theorem ring_row (bs : List Nat) (b : Nat) : mostN (rowN 3 (downP ringN (b :: bs))) = ((downP ringN (b :: bs)).length : Int) := by
 have hc := downP_cov ringN b bs
 exact (rowN_is hc).most hc
theorem ring_r0 : (rowsN ringN [1, 3])[0]? = some (rowN 3 (downP ringN [1, 3])) := rowsN_get ringN [1, 3] 0 (by decide)
theorem ring_r1 : (rowsN ringN [1, 3])[1]? = some (rowN 3 (downP ringN [3])) := rowsN_get ringN [1, 3] 1 (by decide)
theorem ring_c0 : mostN (rowN 3 (downP ringN [1, 3])) = 3 := by rw [ring_row, ring_d1]; rfl
theorem ring_c1 : mostN (rowN 3 (downP ringN [3])) = 1 := by rw [ring_row, ring_d3]; rfl
theorem rows_rng (N : NetD) (bs : List Nat) : ∀ l ∈ rowsN N bs, ∀ x ∈ l, 0 ≤ x ∧ x < N.vs.length := by
 intro l hl x hx
 by_cases h : 1 ≤ bs.length ∧ bs.length ≤ 6
 · have := (rows_partOk N h.1 h.2).lvl l hl
   exact ⟨this.lo x hx, this.hi x hx⟩
 · obtain ⟨i, hi, e⟩ := List.getElem_of_mem hl
   rw [rowsN_len] at hi
   have hg := rowsN_get N bs i hi
   have hcv : Cov N.vs.length (downP N (bs.drop i)) := by rw [downP_drop N (List.getElem?_eq_getElem hi)]; exact nxt_cov (downP_perm N _).1 (downP_perm N _).2
   have e2 : l = rowN N.vs.length (downP N (bs.drop i)) := by
    have := List.getElem?_eq_getElem (show i < (rowsN N bs).length by rw [rowsN_len]; exact hi)
    rw [hg, e] at this
    exact (Option.some.inj this).symm
   have hlv := (rowN_is hcv).lvl hcv
   rw [← e2] at hlv
   exact ⟨hlv.lo x hx, hlv.hi x hx⟩
end Go.Proofs.YtpffhoefmcpniaaGreatDoor

namespace Go.Proofs.YtpffhoefmcpniaaGreatDoor
open Go.RowKit

attribute [local go_sem ↓] Go.wp_at_zero Go.wp_at_succ

theorem k_vok : VrtOk ringN.vs.length (nats [0, 1, 2]) := by
 intro j hj
 rcases j with _ | _ | _ | j
 · exact ⟨0, rfl, by decide, by decide, fun y h => by simp at h⟩
 · exact ⟨1, rfl, by decide, by decide, fun y _ h => by cases h; decide⟩
 · exact ⟨2, rfl, by decide, by decide, fun y _ h => by cases h; decide⟩
 · simp [nats] at hj
   omega
theorem k_bok : BndOk (nats [1, 3]) := ⟨by decide, by decide, fun i hi => by
 rcases i with _ | _ | i
 · exact ⟨1, rfl, by decide, fun a h => absurd rfl h⟩
 · exact ⟨3, rfl, by decide, fun a _ h => by cases h; decide⟩
 · simp [nats] at hi
   omega⟩
theorem k_bbad : BndBad (nats [2, 2]) 1 1 := .inr (.inr ⟨by decide, by decide, 1, by decide, fun j hj => by
 obtain rfl : j = 0 := by omega
 exact ⟨2, rfl, by decide, fun a h => absurd rfl h⟩, fun ⟨b, h1, _, h3⟩ => by
 cases h1
 have := h3 2 (by decide) rfl
 revert this
 decide, rfl, rfl⟩)
theorem k_bnil : BndBad [] 0 1 := .inl ⟨rfl, rfl, rfl⟩
theorem k_vbad : VrtBad ringN.vs.length 5 6 (nats [1, 1]) 1 6 := ⟨by decide, fun j hj => by
 obtain rfl : j = 0 := by omega
 exact ⟨1, rfl, by decide, by decide, fun a h => absurd rfl h⟩, 1, rfl, .inr ⟨by decide, by decide, by decide, rfl, 1, rfl, by decide⟩⟩
set_option maxHeartbeats 8000000 in
set_option maxRecDepth 20000 in
theorem known14_ok (w : World) (hg : w.cell? ⟨0, 0, none⟩ = some errT) : Calls Tryz.prog 8 #[] w fun e w' => e = .returned (.bool true) ∧ Below w.heap.size w w' := by
 have HGE := Lib.hid hg
 clear hg
 go_enter Tryz.func8, Tryz.ntmps8
 go_wp2_with fail
 with_reducible refine (ring_any w).mono ?_
 rintro e w1 ⟨A, B, C, rfl, hN, hb1⟩
 have HM := Lib.hid (made8_ok A B C 3 4 3 3 4 3 ringN w1 hN ringN_ok)
 clear hN
 go_wp2_with fail
 with_reducible refine HM.out.mono ?_
 rintro e w2 ⟨g, rfl, hG, hb2⟩
 have HG2 := Lib.hid hG.rd
 have HB2 := Lib.hid (Bel.step hb1 hb2)
 clear hG hb1 hb2 HM
 go_wp2_with fail
 (refine calls_named ?_; intro w3 hw3)
 have hb3 : Below w2.heap.size w2 w3 := by rw [hw3]; exact bELt
 have h3 : RdI w3 (some ⟨w2.heap.size, 0, none⟩) 3 (nats [0, 1, 2]) := by rw [hw3]; exact (Blk.new w2 3 (ints (nats [0, 1, 2]))).rdI rfl
 have HP3 := Lib.hid (show Calls Tryz.prog 19 #[.pointer (some ⟨g, 0, none⟩), .slice (some ⟨w2.heap.size, 0, none⟩) 3 3, .int .i64 2] w3 (PcPost (pcs ringN 2 (natsOf (nats [0, 1, 2]))) w3) from nestPieces_ok g 2 3 3 ringN _ (nats [0, 1, 2]) w3 (HG2.out.below hb3) h3 k_vok (by omega) (by omega))
 have HB3 := Lib.hid (Bel.step HB2.out hb3)
 have HG3 := Lib.hid (HG2.out.below hb3)
 clear hw3 hb3 h3
 with_reducible refine HP3.out.mono ?_
 rintro e w4 ⟨A4, c4, he, _, _, _, hb4⟩
 rw [natsOf_nats, ring_pcs] at he
 subst he
 have HB4 := Lib.hid (Bel.step HB3.out hb4)
 have HG4 := Lib.hid (HG3.out.below hb4)
 clear hb4 HP3
 go_wp2_with fail
 (refine calls_named ?_; intro w5 hw5)
 have hb5 : Below w4.heap.size w4 w5 := by rw [hw5]; exact bELt
 have h5 : RdI w5 (some ⟨w4.heap.size, 0, none⟩) 2 (nats [1, 3]) := by rw [hw5]; exact (Blk.new w4 3 (ints (nats [1, 3]))).rdI rfl
 have HP5 := Lib.hid (nestBuild_ok g 2 2 ringN _ (nats [1, 3]) w5 (HG4.out.below hb5) h5 k_bok (by rw [natsOf_nats]; decide))
 have HB5 := Lib.hid (Bel.step HB4.out hb5)
 have HG5 := Lib.hid (HG4.out.below hb5)
 clear hw5 hb5 h5
 with_reducible refine HP5.out.mono ?_
 rintro e w6 ⟨Q, rfl, hT, hb6⟩
 rw [natsOf_nats] at hT
 have HB6 := Lib.hid (Bel.step HB5.out hb6)
 have HG6 := Lib.hid (HG5.out.below hb6)
 have HT6 := Lib.hid hT
 clear hb6 HP5 hT
 go_wp2_with fail
 (refine calls_named ?_; intro w7 hw7)
 have hb7 : Below w6.heap.size w6 w7 := by rw [hw7]; exact bELt
 have q7 : Blk w7 w6.heap.size 34 #[.slice Q 2 2] := by rw [hw7]; exact bLNt
 have h7 : RdI w7 (some ⟨w6.heap.size + 1, 0, none⟩) 2 (nats [2, 2]) := by
  have hb : Blk w7 (w6.heap.size + 1) 3 (ints (nats [2, 2])) := by rw [hw7]; exact bLNt
  exact hb.rdI rfl
 have HP7 := Lib.hid (nestBuild_bad g 2 2 _ (nats [2, 2]) 1 1 w7 h7 k_bbad)
 have HB7 := Lib.hid (Bel.step HB6.out hb7)
 have HG7 := Lib.hid (HG6.out.below hb7)
 have HT7 := Lib.hid (HT6.out.below hb7)
 have HQ7 := Lib.hid q7
 clear hw7 hb7 h7 q7
 with_reducible refine HP7.out.mono ?_
 rintro e w8 ⟨v8, rfl, hc8, hb8⟩
 obtain ⟨tv8, xv8, rfl⟩ := chain_not_nil hc8
 have HB8 := Lib.hid (Bel.step HB7.out hb8)
 have HG8 := Lib.hid (HG7.out.below hb8)
 have HT8 := Lib.hid (HT7.out.below hb8)
 have HQ8 := Lib.hid (HQ7.out.below hb8 HQ7.out.lt)
 have HC8 := Lib.hid hc8
 clear hb8 HP7 hc8
 go_wp2_with fail
 (refine calls_named ?_; intro w9 hw9)
 have hb9 : Below w8.heap.size w8 w9 := by rw [hw9]; exact bELt
 have h9 : RdI w9 (some ⟨w8.heap.size + 1, 0, none⟩) 2 (nats [1, 1]) := by
  have hb : Blk w9 (w8.heap.size + 1) 3 (ints (nats [1, 1])) := by rw [hw9]; exact bLNt
  exact hb.rdI rfl
 have HP9 := Lib.hid (show Calls Tryz.prog 19 #[.pointer (some ⟨g, 0, none⟩), .slice (some ⟨w8.heap.size + 1, 0, none⟩) 2 2, .int .i64 2] w9 _ from nestPieces_bad g 2 2 2 1 6 ringN _ (nats [1, 1]) w9 (HG8.out.below hb9) h9 k_vbad (by omega) (by omega))
 have HB9 := Lib.hid (Bel.step HB8.out hb9)
 have HT9 := Lib.hid (HT8.out.below hb9)
 have HQ9 := Lib.hid (HQ8.out.below hb9 HQ8.out.lt)
 have HC9 := Lib.hid (HC8.out.below hb9)
 clear hw9 hb9 h9
 with_reducible refine HP9.out.mono ?_
 rintro e wa ⟨va, rfl, hca, hba⟩
 obtain ⟨tva, xva, rfl⟩ := chain_not_nil hca
 have HBa := Lib.hid (Bel.step HB9.out hba)
 have HTa := Lib.hid (HT9.out.below hba)
 have HQa := Lib.hid (HQ9.out.below hba HQ9.out.lt)
 have HC8a := Lib.hid (HC9.out.below hba)
 have HCa := Lib.hid hca
 have d0 : wa.cell? ⟨w6.heap.size, 0, none⟩ = some (.slice Q 2 2) := by rw [HQa.out.cell]; rfl
 clear hba HP9 hca
 go_wp2_with fail
 (refine calls_named ?_; intro wb hwb)
 have hbb : Below wa.heap.size wa wb := by rw [hwb]; exact bELt
 have hbi : RdI wb (some ⟨wa.heap.size, 0, none⟩) 2 (nats [1, 3]) := by
  have hb : Blk wb wa.heap.size 3 (ints (nats [1, 3])) := by rw [hwb]; exact bLNt
  exact hb.rdI rfl
 have HPb := Lib.hid (show Calls Tryz.prog 18 #[.int .i64 3, .agg #[.slice Q 2 2], .slice (some ⟨wa.heap.size, 0, none⟩) 2 2] wb _ from partCheckB_ok Q _ 3 2 2 2 (rowsN ringN [1, 3]) (nats [1, 3]) wb (HTa.out.below hbb) (rows_partOk ringN (by decide) (by decide)) (by omega) hbi (rows_cnt ringN (by decide)))
 have HBb := Lib.hid (Bel.step HBa.out hbb)
 have HTb := Lib.hid (HTa.out.below hbb)
 have HQb := Lib.hid (HQa.out.below hbb HQa.out.lt)
 have HC8b := Lib.hid (HC8a.out.below hbb)
 have HCb := Lib.hid (HCa.out.below hbb)
 clear hwb hbb hbi d0
 with_reducible refine HPb.out.mono ?_
 rintro e wc ⟨rfl, hbc⟩
 have HBc := Lib.hid (Bel.step HBb.out hbc)
 have HTc := Lib.hid (HTb.out.below hbc)
 have HQc := Lib.hid (HQb.out.below hbc HQb.out.lt)
 have HC8c := Lib.hid (HC8b.out.below hbc)
 have HCc := Lib.hid (HCb.out.below hbc)
 have d0 : wc.cell? ⟨w6.heap.size, 0, none⟩ = some (.slice Q 2 2) := by rw [HQc.out.cell]; rfl
 have HK0 := Lib.hid (show Calls Tryz.prog 22 #[.agg #[.slice Q 2 2], .int .i64 1] wc _ from count_ok Q 2 2 0 (rowsN ringN [1, 3]) _ wc HTc.out ring_r0 (by omega) (fun x hx => by
  have h := rows_rng ringN [1, 3] _ (List.mem_of_getElem? ring_r0) x hx
  have h3 : ringN.vs.length = 3 := rfl
  omega))
 clear hbc HPb
 go_wp2_with fail
 with_reducible refine HK0.out.mono ?_
 rintro e wd ⟨rfl, hbd⟩
 rw [ring_c0]
 have HBd := Lib.hid (Bel.step HBc.out hbd)
 have HTd := Lib.hid (HTc.out.below hbd)
 have HQd := Lib.hid (HQc.out.below hbd HQc.out.lt)
 have HC8d := Lib.hid (HC8c.out.below hbd)
 have HCd := Lib.hid (HCc.out.below hbd)
 clear d0
 have d0 : wd.cell? ⟨w6.heap.size, 0, none⟩ = some (.slice Q 2 2) := by rw [HQd.out.cell]; rfl
 have HK1 := Lib.hid (show Calls Tryz.prog 22 #[.agg #[.slice Q 2 2], .int .i64 2] wd _ from count_ok Q 2 2 1 (rowsN ringN [1, 3]) _ wd HTd.out ring_r1 (by omega) (fun x hx => by
  have h := rows_rng ringN [1, 3] _ (List.mem_of_getElem? ring_r1) x hx
  have h3 : ringN.vs.length = 3 := rfl
  omega))
 clear hbd HK0
 go_wp2_with fail
 with_reducible refine HK1.out.mono ?_
 rintro e we ⟨rfl, hbe⟩
 rw [ring_c1]
 have HBe := Lib.hid (Bel.step HBd.out hbe)
 have HC8e := Lib.hid (HC8d.out.below hbe)
 have HCe := Lib.hid (HCd.out.below hbe)
 clear d0 hbe HK1
 go_wp2_with fail
 with_reducible refine (refAt_any (⟨#[110, 101, 115, 116]⟩ : ByteArray) 1 1 we).mono ?_
 rintro e wf ⟨_, rfl, ⟨A5, n5, m5, rfl, hr5, hn5⟩, hbf⟩
 have HBf := Lib.hid (Bel.step HBe.out hbf)
 have HCf := Lib.hid (HCe.out.below hbf)
 have HTL := Lib.hid (tells_any (.iface tv8 xv8) A5 n5 m5 _ 1 wf (HC8e.out.below hbf) hr5 (by omega) (Below.cellOf HBf.out (Nat.le_refl _) HGE.out) (by omega))
 clear hbf hr5
 go_wp2_with fail
 with_reducible refine HTL.out.mono ?_
 rintro e wg ⟨rfl, hbg⟩
 have HBg := Lib.hid (Bel.step HBf.out hbg)
 have HCg := Lib.hid (HCf.out.below hbg)
 clear hbg HTL
 go_wp2_with fail
 with_reducible refine (refAt_any (⟨#[118, 101, 114, 116]⟩ : ByteArray) 1 6 wg).mono ?_
 rintro e wh ⟨_, rfl, ⟨A6, n6, m6, rfl, hr6, hn6⟩, hbh⟩
 have HBh := Lib.hid (Bel.step HBg.out hbh)
 have HTL := Lib.hid (tells_any (.iface tva xva) A6 n6 m6 _ 6 wh (HCg.out.below hbh) hr6 (by omega) (Below.cellOf HBh.out (Nat.le_refl _) HGE.out) (by omega))
 clear hbh hr6
 go_wp2_with fail
 with_reducible refine HTL.out.mono ?_
 rintro e wi ⟨rfl, hbi⟩
 have HBi := Lib.hid (Bel.step HBh.out hbi)
 clear hbi HTL
 go_wp2_with fail
 with_reducible refine (nestCheck_bad none 0 0 [] 0 1 wi (Rds.rdI (l := []) (by simpa [icells] using (Own.nil wi 0 1 3).rds)) k_bnil).mono ?_
 rintro e wj ⟨vj, rfl, hcj, hbj⟩
 obtain ⟨tvj, xvj, rfl⟩ := chain_not_nil hcj
 have HBj := Lib.hid (Bel.step HBi.out hbj)
 have HCj := Lib.hid hcj
 clear hbj hcj
 go_wp2_with fail
 with_reducible refine (refAt_any (⟨#[110, 101, 115, 116]⟩ : ByteArray) 0 1 wj).mono ?_
 rintro e wk ⟨_, rfl, ⟨A7, n7, m7, rfl, hr7, hn7⟩, hbk⟩
 have HBk := Lib.hid (Bel.step HBj.out hbk)
 have HTL := Lib.hid (tells_any (.iface tvj xvj) A7 n7 m7 _ 1 wk (HCj.out.below hbk) hr7 (by omega) (Below.cellOf HBk.out (Nat.le_refl _) HGE.out) (by omega))
 clear hbk hr7
 go_wp2_with fail
 with_reducible refine HTL.out.mono ?_
 rintro e wl ⟨rfl, hbl⟩
 have HBl := Lib.hid (Bel.step HBk.out hbl)
 clear hbl HTL
 go_wp2_with fail
 go_ret
 exact ⟨rfl, HBl.out⟩
end Go.Proofs.YtpffhoefmcpniaaGreatDoor

namespace Go.Proofs.YtpffhoefmcpniaaGreatDoor
open Go.RowKit

attribute [local go_sem ↓] Go.wp_at_zero Go.wp_at_succ

set_option maxHeartbeats 1000000 in
theorem sameInts_any (A B : Option Addr) (n m c d : Nat) (l l2 : List Int) (w : World) (h : RdI w A n l) (h2 : RdI w B m l2) (hn : n ≤ 1000000000) (hm : m ≤ 1000000000) :
 Calls Tryz.prog 24 #[.slice A n c, .slice B m d] w fun e w' => e = .returned (.bool (decide (l = l2))) ∧ ∃ k, w' = w.drewN k := by
 have HR := Lib.hid h
 have HR2 := Lib.hid h2
 have HL := Lib.hid h.1
 have HL2 := Lib.hid h2.1
 clear h h2
 by_cases hnm : n = m
 rotate_left
 · have e1 : ((n : Int) != (m : Int)) = true := by simp; omega
   have e2 : ((n : Int) == (m : Int)) = false := by simp; omega
   have HD := Lib.hid (show decide (l = l2) = false from decide_eq_false (fun e => hnm (by rw [← HL.out, ← HL2.out, e])))
   go_enter Tryz.func24, Tryz.ntmps24
   go_wp2_with fail
   go_ret
   exact ⟨ret_bool HD.out.symm, 0, rfl⟩
 subst hnm
 go_enter Tryz.func24, Tryz.ntmps24
 go_wp2_with fail
 go_loopw [5] (fun q W => (∃ k, W = w.drewN k) ∧ ∃ i : Nat, i ≤ n ∧ q = .int .i64 i ∧ ∀ j, j < i → l[j]? = l2[j]?) (fun q _ => n - (intOf q).toNat)
 case atStart => exact ⟨⟨0, rfl⟩, 0, Nat.zero_le _, rfl, fun _ h => absurd h (Nat.not_lt_zero _)⟩
 case round =>
  obtain ⟨hd, i, hi, rfl, hall⟩ := hrel
  have HD := Lib.hid hd
  have HA := Lib.hid hall
  clear hall
  by_cases hlt : i < n
  · obtain ⟨b, o, x, rfl, hx, hc⟩ := HR.out.at_ hlt
    obtain ⟨b', o', y, rfl, hy, hc'⟩ := HR2.out.at_ hlt
    have hc1 : wr.cell? ⟨b, o + i, none⟩ = some (.int .i64 x) := by obtain ⟨k, rfl⟩ := hd; exact hc
    have hc2 : wr.cell? ⟨b', o' + i, none⟩ = some (.int .i64 y) := by obtain ⟨k, rfl⟩ := hd; exact hc'
    have HX := Lib.hid hx
    have HY := Lib.hid hy
    have i1 : (0 : Int) ≤ (i : Int) := by omega
    have i2 : (i : Int) < (n : Int) := by omega
    clear hx hy hc hc' hd
    by_cases e : x = y
    · subst e
      go_wp2_with fail
      go_quiet (fail)
      go_wp2_with fail
      go_roundw
      case rel =>
       obtain ⟨k, e⟩ := HD.out
       refine ⟨⟨k + nq, by rw [e, World.drewN_drewN]⟩, i + 1, by omega, by go_num, fun j hj => ?_⟩
       by_cases ej : j = i
       · subst ej
         rw [HX.out, HY.out]
       · exact HA.out j (by omega)
      case measure => simp [intOf]; omega
    · have e1 : (x != y) = true := by simpa using e
      have e2 : (x == y) = false := by simpa using e
      have HN := Lib.hid (show decide (l = l2) = false from decide_eq_false (fun ee => by
       have := HX.out
       rw [ee, HY.out] at this
       exact e (Option.some.inj this).symm))
      have HE := Lib.hid e
      clear e
      go_wp2_with fail
      go_quiet (fail)
      go_wp2_with fail
      go_ret
      obtain ⟨k, e⟩ := HD.out
      exact ⟨ret_bool HN.out.symm, k + nq, by rw [e, World.drewN_drewN]⟩
  · obtain rfl : n = i := by omega
    have HE := Lib.hid (show decide (l = l2) = true from decide_eq_true (List.ext_getElem? (fun j => by
     rcases Nat.lt_or_ge j n with h | h
     · exact HA.out j h
     · rw [List.getElem?_eq_none (by rw [HL.out]; exact h), List.getElem?_eq_none (by rw [HL2.out]; exact h)])))
    clear hd
    go_wp2_with fail
    go_ret
    exact ⟨ret_bool HE.out.symm, HD.out⟩
end Go.Proofs.YtpffhoefmcpniaaGreatDoor

namespace Go.Proofs.YtpffhoefmcpniaaGreatDoor
open Go.RowKit

attribute [local go_sem ↓] Go.wp_at_zero Go.wp_at_succ

set_option maxHeartbeats 1000000 in
theorem same14_ok (A B : Option Addr) (n ca cb : Nat) (ls : List (List Int)) (w : World) (h : RdT w A n ls) (h2 : RdT w B n ls) (hn : n ≤ 1000000) (hc : ∀ l ∈ ls, l.length ≤ 1000000) :
 Calls Tryz.prog 21 #[.slice A n ca, .slice B n cb] w fun e w' => e = .returned (.bool true) ∧ Below w.heap.size w w' := by
 have HT := Lib.hid h
 have HT2 := Lib.hid h2
 have HC := Lib.hid hc
 have e0 : ((n : Int) != (n : Int)) = false := by simp
 clear h h2 hc
 go_enter Tryz.func21, Tryz.ntmps21
 go_wp2_with fail
 go_loopw [5] (fun q W => Below w.heap.size w W ∧ ∃ i : Nat, i ≤ n ∧ q = .int .i64 (i : Int)) (fun q _ => n - (intOf q).toNat)
 case atStart => exact ⟨Below.refl _ _, 0, Nat.zero_le _, rfl⟩
 case round =>
  obtain ⟨hbl, i, hi, rfl⟩ := hrel
  by_cases hlt : i < n
  · obtain ⟨b, o, A1, n1, c1, l, rfl, hl, hcl, hr, _, _⟩ := (HT.out.below hbl).at_ hlt
    obtain ⟨b2, o2, A2, n2, c2, l2, rfl, hl2, hcl2, hr2, _, _⟩ := (HT2.out.below hbl).at_ hlt
    rw [hl] at hl2
    cases hl2
    have hnn : n2 = n1 := by rw [← hr.1, ← hr2.1]
    subst hnn
    have hn2 : n2 ≤ 1000000000 := by have := HC.out l (List.mem_of_getElem? hl); have := hr.1; omega
    have HSI := Lib.hid (show ∀ V, Below wr.heap.size wr V → Calls Tryz.prog 24 #[.slice A1 n2 c1, .slice A2 n2 c2] V fun e w' => e = .returned (.bool true) ∧ ∃ k, w' = V.drewN k from fun V hV => (sameInts_any A1 A2 n2 n2 c1 c2 l l V (hr.below hV) (hr2.below hV) hn2 hn2).mono (fun e w' h => ⟨by rw [h.1, decide_eq_true rfl], h.2⟩))
    have i1 : (0 : Int) ≤ (i : Int) := by omega
    have i2 : (i : Int) < (n : Int) := by omega
    clear hr hr2 hl
    go_wp2_with fail
    go_quiet ((go_at_call 24; exact quiet_draws (HSI.out _ bELt)))
    go_wp2_with fail
    go_roundw
    case rel => exact ⟨below_drewN hbl _, i + 1, by omega, by go_num⟩
    case measure => simp [intOf]; omega
  · obtain rfl : i = n := by omega
    go_wp2_with fail
    go_ret
    exact ⟨rfl, hbl⟩
theorem rdT_nil (w : World) : RdT w none 0 [] := ⟨rfl, fun i l h => by simp at h⟩
theorem rdT_nil_len : ∀ l ∈ ([] : List (List Int)), l.length ≤ 1000000 := fun l hl => by simp at hl
set_option maxRecDepth 20000 in
set_option maxHeartbeats 8000000 in
theorem nestPieces_walk (A B C : Option Addr) (n m k c d e : Nat) (N : NetD) (AV : Option Addr) (kv cv : Nat) (vs : List Int) (bd : Int) (w : World) (h : RdNet w A B C n m k N) (hk : k ≤ 9223372036854775807) (hv : RdI w AV kv vs) (hkv : kv ≤ 4000000000000000000) (hbd : -9223372036854775808 ≤ bd ∧ bd ≤ 9223372036854775807) (hg : w.cell? ⟨0, 0, none⟩ = some errT) :
 Calls Tryz.prog 4 #[.agg #[.slice A n c, .slice B m d, .slice C k e], .slice AV kv cv, .int .i64 bd] w fun r w' => r = .returned (.bool true) ∧ Below w.heap.size w w' := by
 have HH := Lib.hid h
 have HGE := Lib.hid hg
 have HV := Lib.hid hv
 have hnl : N.vs.length = n := h.1.1
 clear h hg hv
 go_enter Tryz.func4, Tryz.ntmps4
 go_wp2_with fail
 (refine calls_named ?_; intro w1 hw1)
 have hb1 : Below w.heap.size w w1 := by rw [hw1]; exact bELt
 have hX1 : Blk w1 w.heap.size 26 #[.slice A n c, .slice B m d, .slice C k e] := by rw [hw1]; exact bLNt
 clear hw1
 with_reducible refine (known14_ok w1 (Below.cellOf hb1 (Nat.le_refl _) HGE.out)).mono ?_
 rintro r w2 ⟨rfl, hb2⟩
 have hX2 := hX1.below hb2 hX1.lt
 have HB2 := Lib.hid (Bel.step hb1 hb2)
 have x0 := hX2.cell 0
 have x1 := hX2.cell 1
 have x2 := hX2.cell 2
 simp only [List.getElem?_toArray, List.getElem?_cons_zero, List.getElem?_cons_succ] at x0 x1 x2
 clear hX1 hb1 hb2
 go_wp2_with fail
 with_reducible refine (small_any A B C n m k c d e N w2 (HH.out.below HB2.out) hk).mono ?_
 rintro r w3 ⟨⟨b, rfl, hG⟩, hb3⟩
 have HB3 := Lib.hid (Bel.step HB2.out hb3)
 have hX3 := hX2.below hb3 hX2.lt
 clear x0 x1 x2 hX2 hb3
 have x0 := hX3.cell 0
 have x1 := hX3.cell 1
 have x2 := hX3.cell 2
 simp only [List.getElem?_toArray, List.getElem?_cons_zero, List.getElem?_cons_succ] at x0 x1 x2
 cases b with
 | false =>
  clear hG
  go_wp2_with fail
  go_ret
  exact ⟨rfl, HB3.out⟩
 | true =>
 have hsm := hG rfl
 have hok := hsm.ok
 have hn24 := hsm.v
 rw [hnl] at hn24
 clear hG hsm
 by_cases h40 : 40 < kv
 · have e1 : (kv : Int) > 40 := by omega
   go_wp2_with fail
   go_ret
   exact ⟨rfl, HB3.out⟩
 have e1 : ¬ (kv : Int) > 40 := by omega
 have HNK := Lib.hid hok
 go_wp2_with fail
 with_reducible refine (made8_ok A B C n m k c d e N w3 (HH.out.below HB3.out) hok).mono ?_
 rintro r w4 ⟨g, rfl, hGr, hb4⟩
 have HG4 := Lib.hid hGr.rd
 have HB4 := Lib.hid (Bel.step HB3.out hb4)
 have hX4 := hX3.below hb4 hX3.lt
 clear hGr hb4 x0 x1 x2 hX3 HB2 hok
 obtain ⟨W4, hW4⟩ : ∃ W, W = w4.alloc (.cells #[] 3) := ⟨_, rfl⟩
 have hO : Own W4 w4.heap.size 3 1 (some ⟨w4.heap.size, 0, none⟩) 0 0 [] := by rw [hW4]; exact lit0 (Nat.le_refl _)
 have hb44 : Below w4.heap.size w4 W4 := by rw [hW4]; exact bELt
 have hrd := (HV.out.below (Bel.step HB4.out hb44)).rdsI
 have hsz := hb44.size
 have HW4 := Lib.hid hW4
 clear hW4
 go_wp2_with (at_builtin; rw [← HW4.out]; with_reducible refine wpList_app rfl (.tmp 28) (.tmp 29) 27 rfl 3 _ 1 8 infoInt Tryz.underlying27 rfl (by omega) rfl rfl hO hrd (icells_one _) (by omega) (by omega) hsz ?_)
 intro A5 c5 w5 ho5 hg5 hat5
 have hb5 : Below w4.heap.size w4 w5 := Bel.grownOwn hb44 hg5 hO hsz
 have HV5 := Lib.hid (show RdI w5 A5 kv vs from ho5.rds.rdI)
 have HB5 := Lib.hid (Bel.step HB4.out hb5)
 have HG5 := Lib.hid (HG4.out.below hb5)
 have hX5 := hX4.below hb5 hX4.lt
 clear hO hrd hsz ho5 hg5 hat5 hb5 hb44 hX4 HG4 HB4
 by_cases hlow : bd < 1
 · have HPI := Lib.hid (nestPieces_low g kv c5 bd A5 w5 hlow)
   have HDP := Lib.hid (fun V (_ : Below w.heap.size w V) => refPieces_low A B C AV n m k c d e kv cv bd V hlow)
   have HNZ := Lib.hid (show (1 : Int) ≠ 0 by decide)
   go_wp2_with fail
   with_reducible refine HPI.out.mono ?_
   rintro r w6 ⟨v6, rfl, hc6, hb6⟩
   obtain ⟨tv6, xv6, rfl⟩ := chain_not_nil hc6
   have HC6 := Lib.hid hc6
   have HB6 := Lib.hid (Bel.step HB5.out hb6)
   have hX6 := hX5.below hb6 hX5.lt
   have HRP := Lib.hid (HDP.out w6 HB6.out)
   have x0 : w6.cell? ⟨w.heap.size, 0, none⟩ = some (.slice A n c) := by rw [hX6.cell]; rfl
   have x1 : w6.cell? ⟨w.heap.size, 1, none⟩ = some (.slice B m d) := by rw [hX6.cell]; rfl
   have x2 : w6.cell? ⟨w.heap.size, 2, none⟩ = some (.slice C k e) := by rw [hX6.cell]; rfl
   clear hc6 hb6 HPI HDP hX5 hX6
   go_wp2_with fail
   with_reducible refine HRP.out.mono ?_
   rintro r w7 ⟨A7, n7, m7, rfl, hr7, hn7, hb7⟩
   have HR7 := Lib.hid hr7
   have HB7 := Lib.hid (Bel.step HB6.out hb7)
   have HC7 := Lib.hid (HC6.out.below hb7)
   clear hr7 hb7 HRP x0 x1 x2
   go_wp2_with fail
   (refine calls_named ?_; intro w8 hw8)
   have hb8 : Below w7.heap.size w7 w8 := by rw [hw8]; exact bELt
   have HB8 := Lib.hid (Bel.step HB7.out hb8)
   have HTL := Lib.hid (tells_any (.iface tv6 xv6) A7 n7 m7 _ _ w8 (HC7.out.below hb8) (HR7.out.below hb8) HNZ.out (Below.cellOf HB8.out (Nat.le_refl _) HGE.out) (by omega))
   clear hw8 hb8
   with_reducible refine HTL.out.mono ?_
   rintro r w9 ⟨rfl, hb9⟩
   have HB9 := Lib.hid (Bel.step HB8.out hb9)
   clear hb9 HTL
   go_wp2_with fail
   with_reducible refine (same14_ok none none 0 0 0 [] w9 (rdT_nil _) (rdT_nil _) (by omega) rdT_nil_len).mono ?_
   rintro r wa ⟨rfl, hba⟩
   have HBa := Lib.hid (Bel.step HB9.out hba)
   clear hba
   go_wp2_with fail
   go_ret
   exact ⟨rfl, HBa.out⟩
 obtain ⟨bn, rfl⟩ : ∃ bn : Nat, bd = (bn : Int) := ⟨bd.toNat, by omega⟩
 rcases vrt_or N.vs.length 5 6 vs with hvo | ⟨i0, c0_, hvb⟩
 · have HPI := Lib.hid (nestPieces_ok g bn kv c5 N A5 vs w5 HG5.out HV5.out hvo (by omega) (by omega))
   have HDP := Lib.hid (fun V (hV : Below w.heap.size w V) => refPieces_ok A B C AV n m k c d e kv cv bn N vs V (HH.out.below hV) HNK.out (HV.out.below hV) hvo (by omega) (by omega))
   have hql : (pcs N bn (natsOf vs)).length ≤ 1000000 := by have h1 := pcs_len_le N bn hvo.ok; have h2 := hvo.ok.len; omega
   have HRL := Lib.hid (show ∀ l ∈ rowsP (pcs N bn (natsOf vs)), l.length ≤ 1000000 from fun l hl => by
    obtain ⟨p, hp, rfl⟩ := List.mem_map.1 hl
    have h1 := (pcs_ok N bn _ hvo.ok p hp).1.len
    simp only [nats, List.length_map]
    omega)
   generalize pcs N bn (natsOf vs) = q at *
   go_wp2_with fail
   with_reducible refine HPI.out.mono ?_
   rintro r w6 ⟨A6, c6, rfl, hT6, _, _, hb6⟩
   have HT6 := Lib.hid hT6
   have HB6 := Lib.hid (Bel.step HB5.out hb6)
   have hX6 := hX5.below hb6 hX5.lt
   have HRP := Lib.hid (HDP.out w6 HB6.out)
   have x0 : w6.cell? ⟨w.heap.size, 0, none⟩ = some (.slice A n c) := by rw [hX6.cell]; rfl
   have x1 : w6.cell? ⟨w.heap.size, 1, none⟩ = some (.slice B m d) := by rw [hX6.cell]; rfl
   have x2 : w6.cell? ⟨w.heap.size, 2, none⟩ = some (.slice C k e) := by rw [hX6.cell]; rfl
   clear hT6 hb6 HPI HDP hX5 hX6
   go_wp2_with fail
   with_reducible refine HRP.out.mono ?_
   rintro r w7 ⟨A7, c7, rfl, hT7, hb7⟩
   have HT7 := Lib.hid hT7
   have HB7 := Lib.hid (Bel.step HB6.out hb7)
   have HT67 := Lib.hid (HT6.out.below hb7)
   clear hT7 hb7 HRP x0 x1 x2
   go_wp2_with fail
   (refine calls_named ?_; intro w8 hw8)
   have hb8 : Below w7.heap.size w7 w8 := by rw [hw8]; exact bELt
   have HB8 := Lib.hid (Bel.step HB7.out hb8)
   have HT78 := Lib.hid (HT7.out.below hb8)
   have HT68 := Lib.hid (HT67.out.below hb8)
   clear hw8 hb8
   with_reducible refine (tells_nil none 0 0 w8).mono ?_
   rintro r w9 ⟨rfl, hb9⟩
   have HB9 := Lib.hid (Bel.step HB8.out hb9)
   have HSM := Lib.hid (same14_ok A6 A7 q.length c6 c7 _ w9 (HT68.out.below hb9) (HT78.out.below hb9) (by omega) HRL.out)
   clear hb9
   go_wp2_with fail
   with_reducible refine HSM.out.mono ?_
   rintro r wa ⟨rfl, hba⟩
   have HBa := Lib.hid (Bel.step HB9.out hba)
   clear hba
   go_wp2_with fail
   go_ret
   exact ⟨rfl, HBa.out⟩
 · have HPI := Lib.hid (nestPieces_bad g bn kv c5 i0 c0_ N A5 vs w5 HG5.out HV5.out hvb (by omega) (by omega))
   have HDP := Lib.hid (fun V (hV : Below w.heap.size w V) => refPieces_bad A B C AV n m k c d e kv cv bn i0 c0_ N vs V (HH.out.below hV) (HV.out.below hV) hvb (by omega) (by omega))
   have HNZ := Lib.hid (show c0_ ≠ 0 by
    obtain ⟨_, _, _, _, hb⟩ := hvb
    rcases hb with ⟨_, rfl⟩ | ⟨_, _, _, rfl, _⟩ <;> decide)
   go_wp2_with fail
   with_reducible refine HPI.out.mono ?_
   rintro r w6 ⟨v6, rfl, hc6, hb6⟩
   obtain ⟨tv6, xv6, rfl⟩ := chain_not_nil hc6
   have HC6 := Lib.hid hc6
   have HB6 := Lib.hid (Bel.step HB5.out hb6)
   have hX6 := hX5.below hb6 hX5.lt
   have HRP := Lib.hid (HDP.out w6 HB6.out)
   have x0 : w6.cell? ⟨w.heap.size, 0, none⟩ = some (.slice A n c) := by rw [hX6.cell]; rfl
   have x1 : w6.cell? ⟨w.heap.size, 1, none⟩ = some (.slice B m d) := by rw [hX6.cell]; rfl
   have x2 : w6.cell? ⟨w.heap.size, 2, none⟩ = some (.slice C k e) := by rw [hX6.cell]; rfl
   clear hc6 hb6 HPI HDP hX5 hX6
   go_wp2_with fail
   with_reducible refine HRP.out.mono ?_
   rintro r w7 ⟨A7, n7, m7, rfl, hr7, hn7, hb7⟩
   have HR7 := Lib.hid hr7
   have HB7 := Lib.hid (Bel.step HB6.out hb7)
   have HC7 := Lib.hid (HC6.out.below hb7)
   clear hr7 hb7 HRP x0 x1 x2
   go_wp2_with fail
   (refine calls_named ?_; intro w8 hw8)
   have hb8 : Below w7.heap.size w7 w8 := by rw [hw8]; exact bELt
   have HB8 := Lib.hid (Bel.step HB7.out hb8)
   have HTL := Lib.hid (tells_any (.iface tv6 xv6) A7 n7 m7 _ _ w8 (HC7.out.below hb8) (HR7.out.below hb8) HNZ.out (Below.cellOf HB8.out (Nat.le_refl _) HGE.out) (by omega))
   clear hw8 hb8
   with_reducible refine HTL.out.mono ?_
   rintro r w9 ⟨rfl, hb9⟩
   have HB9 := Lib.hid (Bel.step HB8.out hb9)
   clear hb9 HTL
   go_wp2_with fail
   with_reducible refine (same14_ok none none 0 0 0 [] w9 (rdT_nil _) (rdT_nil _) (by omega) rdT_nil_len).mono ?_
   rintro r wa ⟨rfl, hba⟩
   have HBa := Lib.hid (Bel.step HB9.out hba)
   clear hba
   go_wp2_with fail
   go_ret
   exact ⟨rfl, HBa.out⟩
end Go.Proofs.YtpffhoefmcpniaaGreatDoor

namespace Go.Proofs.YtpffhoefmcpniaaGreatDoor
open Go.ChangeShapes Go.WideShapes Go.ChangeAt Go.RowKit Go.Deep

theorem own_ : ownKnob Tryz.prog.godebug = none := by kernel_rfl
theorem laidOut_ : laidOutB Tryz.prog = true := by kernel_rfl

theorem list_of {α : Type} {p : Nat → α → Prop} : ∀ (n : Nat), (∀ i, i < n → ∃ a, p i a) → ∃ l : List α, l.length = n ∧ ∀ i a, l[i]? = some a → p i a
 | 0, _ => ⟨[], rfl, fun i a h => by simp at h⟩
 | n + 1, h => by
  obtain ⟨l, hl, hp⟩ := list_of n (fun i hi => h i (by omega))
  obtain ⟨a, ha⟩ := h n (by omega)
  refine ⟨l ++ [a], by simp [hl], fun i b hb => ?_⟩
  rcases Nat.lt_or_ge i n with h1 | h1
  · rw [List.getElem?_append_left (by omega)] at hb; exact hp i b hb
  · rw [List.getElem?_append_right (by omega), hl] at hb
    have : i = n := by
     rcases Nat.lt_or_ge (i - n) 1 with h2 | h2
     · omega
     · rw [List.getElem?_eq_none (by simpa using h2)] at hb; cases hb
    subst this
    simp at hb
    subst hb
    exact ha

section
variable {H : Type} {enc : TypeId × Value → H} {P : Program} {w : World} {base : Nat} {spare : Nat → Bool} {held : Bool}

theorem open_list {α : Type} {t e k : Nat} (ht : P.underlying t = some (.slice e)) (hk : P.cellsOf e = k) (hk0 : 0 < k) (Rel : List Value → α → Prop)
 (hel : ∀ (fuel : Nat) (cs : List Value) (x : DataW H × List MemPlace), DataW.trod enc P w base spare held fuel e cs = some x → ∃ a, Rel cs a)
 {A : Option Addr} {n c fuel : Nat} {x : DataW H × List MemPlace} (h : DataW.trod enc P w base spare held fuel t [.slice A n c] = some x) :
 ∃ l : List α, l.length = n ∧ n ≤ c ∧ c ≤ 9223372036854775807 ∧ (n = 0 ∨ ∃ el sp, x.1 = .slice el sp ∧ el.length = n) ∧
  ∀ i a, l[i]? = some a → ∃ b o vs, A = some ⟨b, o, none⟩ ∧ Rel vs a ∧ vs.length = k ∧ ∀ j v, vs[j]? = some v → w.cell? ⟨b, o + i * k + j, none⟩ = some v := by
 rcases open_slice ht h with ⟨h0, _⟩ | ⟨a, len, cap, m, n', D, Pl, hcs, hb, hl, hm, hmm, hx, hi⟩
 · simp only [List.cons.injEq, Value.slice.injEq, and_true] at h0
   obtain ⟨rfl, rfl, rfl⟩ := h0
   exact ⟨[], rfl, Nat.le_refl _, by omega, .inl rfl, fun i a h => by simp at h⟩
 · simp only [List.cons.injEq, Value.slice.injEq, and_true] at hcs
   obtain ⟨rfl, rfl, rfl⟩ := hcs
   have hlm : n ≤ m := by rw [hmm]; split <;> omega
   obtain ⟨l, hll, hlp⟩ := list_of (p := fun i (y : α) => ∃ vs, Rel vs y ∧ vs.length = k ∧ ∀ j v, vs[j]? = some v → w.cell? ((a.add (i * k)).add j) = some v) n (fun i hin => by
    obtain ⟨cs', hc, ht'⟩ := hi i (by omega)
    rw [hk] at hc
    obtain ⟨_, hlen, hat⟩ := World.cells?_some hc
    obtain ⟨y, hy⟩ := hel _ _ _ ht'
    refine ⟨y, cs', hy, hlen, fun j v hv => ?_⟩
    have hj : j < k := by rw [← hlen]; exact (List.getElem?_eq_some_iff.1 hv).1
    rw [hat j hj, hv])
   refine ⟨l, hll, hl, (by unfold maxLen at hm; omega), .inr ⟨_, _, by rw [hx], by simp⟩, fun i y hy => ?_⟩
   obtain ⟨vs, h1, h2, h3⟩ := hlp i y hy
   have hspot : a.spot = none := by
    have h4 := h3 0 vs[0] (List.getElem?_eq_getElem (by omega))
    have h5 := World.cell?_spot h4
    unfold Addr.add at h5
    by_cases h6 : i * k = 0
    · simpa [h6] using h5
    · have hl0 : l.length = n := hll
      have h7 : 0 < n := by
       have := (List.getElem?_eq_some_iff.1 hy).1
       omega
      obtain ⟨y0, hy0⟩ : ∃ y0, l[0]? = some y0 := ⟨l[0], List.getElem?_eq_getElem (by omega)⟩
      obtain ⟨vs0, g1, g2, g3⟩ := hlp 0 y0 hy0
      have g4 := World.cell?_spot (g3 0 vs0[0] (List.getElem?_eq_getElem (by omega)))
      simpa [Addr.add] using g4
   obtain ⟨b, o, sp⟩ := a
   simp only at hspot
   subst hspot
   refine ⟨b, o, vs, rfl, h1, h2, fun j v hv => ?_⟩
   have := h3 j v hv
   unfold Addr.add at this
   by_cases h6 : i * k = 0
   · by_cases h7 : j = 0
     · simpa [h6, h7] using this
     · simpa [h6, h7] using this
   · by_cases h7 : j = 0
     · simpa [h6, h7] using this
     · simpa [h6, h7] using this

theorem rel_int {k : IntKind} {e : Nat} (he : P.underlying e = some (.int k)) (fuel : Nat) (cs : List Value) (x : DataW H × List MemPlace) (h : DataW.trod enc P w base spare held fuel e cs = some x) :
 ∃ n : Int, cs = [.int k n] ∧ (Lit.int k n).wf = true := by
 obtain ⟨n, h1, _, h3⟩ := DataW.trod_int he h
 exact ⟨n, h1, h3⟩
theorem rel_bool {e : Nat} (he : P.underlying e = some .bool) (fuel : Nat) (cs : List Value) (x : DataW H × List MemPlace) (h : DataW.trod enc P w base spare held fuel e cs = some x) :
 ∃ n : Bool, cs = [.bool n] := by
 obtain ⟨n, h1, _⟩ := DataW.trod_bool he h
 exact ⟨n, h1⟩
theorem open_bools {t e : Nat} (ht : P.underlying t = some (.slice e)) (he : P.underlying e = some .bool) (hc : P.cellsOf e = 1)
 {A : Option Addr} {n c fuel : Nat} {x : DataW H × List MemPlace} (h : DataW.trod enc P w base spare held fuel t [.slice A n c] = some x) :
 ∃ l : List Bool, RdB w A n l ∧ n ≤ c ∧ c ≤ 9223372036854775807 ∧ (n = 0 ∨ ∃ el sp, x.1 = .slice el sp ∧ el.length = n) := by
 obtain ⟨l, hl, hnc, hcm, hsz, hr⟩ := open_list ht hc (by omega) (fun cs (p : Bool) => cs = [.bool p]) (rel_bool he) h
 refine ⟨l, ⟨hl, fun i p hp => ?_⟩, hnc, hcm, hsz⟩
 obtain ⟨b, o, vs, rfl, rfl, _, hv⟩ := hr i p hp
 exact ⟨b, o, rfl, by have := hv 0 _ rfl; simpa using this⟩
theorem open_intsK {k : IntKind} {t e : Nat} (ht : P.underlying t = some (.slice e)) (he : P.underlying e = some (.int k)) (hc : P.cellsOf e = 1)
 {A : Option Addr} {n c fuel : Nat} {x : DataW H × List MemPlace} (h : DataW.trod enc P w base spare held fuel t [.slice A n c] = some x) :
 ∃ l : List Int, RdK k w A n l ∧ n ≤ c ∧ c ≤ 9223372036854775807 ∧ (n = 0 ∨ ∃ el sp, x.1 = .slice el sp ∧ el.length = n) ∧ ∀ a ∈ l, (Lit.int k a).wf = true := by
 obtain ⟨l, hl, hnc, hcm, hsz, hr⟩ := open_list ht hc (by omega) (fun cs (p : Int) => cs = [.int k p] ∧ (Lit.int k p).wf = true) (rel_int he) h
 refine ⟨l, ⟨hl, fun i p hp => ?_⟩, hnc, hcm, hsz, fun a ha => ?_⟩
 · obtain ⟨b, o, vs, rfl, ⟨rfl, _⟩, _, hv⟩ := hr i p hp
   exact ⟨b, o, rfl, by have := hv 0 _ rfl; simpa using this⟩
 · obtain ⟨i, hi, e1⟩ := List.getElem_of_mem ha
   obtain ⟨b, o, vs, _, ⟨_, h2⟩, _, _⟩ := hr i a (by rw [List.getElem?_eq_getElem hi, e1])
   exact h2
end
end Go.Proofs.YtpffhoefmcpniaaGreatDoor
