/- Parts of the proof: Sc, Pn, Pw, Wh, On. -/
import Derived.Test.YtgkeolddpielpaaGreatM21
import Derived.Laws.MakeOwn
import Derived.Test.YtgkeolddpielpaaGreatShelf3
namespace Go.Proofs.YtgkeolddpielpaaGreat
open Go.RowKit

attribute [local go_sem ↓] Go.wp_at_zero Go.wp_at_succ

set_option maxHeartbeats 1000000 in
theorem sameCosts_any (A B : Option Addr) (n m c d : Nat) (l l2 : List Int) (w : World) (h : RdI w A n l) (h2 : RdI w B m l2) (hn : n ≤ 1000000000) (hm : m ≤ 1000000000) :
 Calls Tryz.prog 22 #[.slice A n c, .slice B m d] w fun e w' => e = .returned (.bool (decide (l = l2))) ∧ ∃ k, w' = w.drewN k := by
 have HR := Lib.hid h
 have HR2 := Lib.hid h2
 have HL := Lib.hid h.1
 have HL2 := Lib.hid h2.1
 clear h h2
 by_cases hnm : n = m
 rotate_left
 · have e1 : ((n : Int) != (m : Int)) = true := by simp; omega
   have e2 : ((n : Int) == (m : Int)) = false := by simp; omega
   have HD := Lib.hid (show decide (l = l2) = false from decide_eq_false (fun e => hnm (by rw [← HL.out, ← HL2.out, e])))
   go_enter Tryz.func22, Tryz.ntmps22
   go_wp2_with fail
   go_ret
   exact ⟨ret_bool HD.out.symm, 0, rfl⟩
 subst hnm
 go_enter Tryz.func22, Tryz.ntmps22
 go_wp2_with fail
 go_loopw [5] (fun q W => (∃ k, W = w.drewN k) ∧ ∃ i : Nat, i ≤ n ∧ q = .int .i64 i ∧ ∀ j, j < i → l[j]? = l2[j]?) (fun q _ => n - (intOf q).toNat)
 case atStart => exact ⟨⟨0, rfl⟩, 0, Nat.zero_le _, rfl, fun _ h => absurd h (Nat.not_lt_zero _)⟩
 case round =>
  obtain ⟨hd, i, hi, rfl, hall⟩ := hrel
  have HD := Lib.hid hd
  have HA := Lib.hid hall
  clear hall
  by_cases hlt : i < n
  · obtain ⟨b, o, x, rfl, hx, hc⟩ := HR.out.at_ hlt
    obtain ⟨b', o', y, rfl, hy, hc'⟩ := HR2.out.at_ hlt
    have hc1 : wr.cell? ⟨b, o + i, none⟩ = some (.int .i64 x) := by obtain ⟨k, rfl⟩ := hd; exact hc
    have hc2 : wr.cell? ⟨b', o' + i, none⟩ = some (.int .i64 y) := by obtain ⟨k, rfl⟩ := hd; exact hc'
    have HX := Lib.hid hx
    have HY := Lib.hid hy
    have i1 : (0 : Int) ≤ (i : Int) := by omega
    have i2 : (i : Int) < (n : Int) := by omega
    clear hx hy hc hc' hd
    by_cases e : x = y
    · subst e
      go_wp2_with fail
      go_quiet (fail)
      go_wp2_with fail
      go_roundw
      case rel =>
       obtain ⟨k, e⟩ := HD.out
       refine ⟨⟨k + nq, by rw [e, World.drewN_drewN]⟩, i + 1, by omega, by go_num, fun j hj => ?_⟩
       by_cases ej : j = i
       · subst ej
         rw [HX.out, HY.out]
       · exact HA.out j (by omega)
      case measure => simp [intOf]; omega
    · have e1 : (x != y) = true := by simpa using e
      have e2 : (x == y) = false := by simpa using e
      have HN := Lib.hid (show decide (l = l2) = false from decide_eq_false (fun ee => by
       have := HX.out
       rw [ee, HY.out] at this
       exact e (Option.some.inj this).symm))
      have HE := Lib.hid e
      clear e
      go_wp2_with fail
      go_quiet (fail)
      go_wp2_with fail
      go_ret
      obtain ⟨k, e⟩ := HD.out
      exact ⟨ret_bool HN.out.symm, k + nq, by rw [e, World.drewN_drewN]⟩
  · obtain rfl : n = i := by omega
    have HE := Lib.hid (show decide (l = l2) = true from decide_eq_true (List.ext_getElem? (fun j => by
     rcases Nat.lt_or_ge j n with h | h
     · exact HA.out j h
     · rw [List.getElem?_eq_none (by rw [HL.out]; exact h), List.getElem?_eq_none (by rw [HL2.out]; exact h)])))
    clear hd
    go_wp2_with fail
    go_ret
    exact ⟨ret_bool HE.out.symm, HD.out⟩
set_option maxHeartbeats 1000000 in
theorem eqCosts_any (A B : Option Addr) (n m c d : Nat) (l l2 : List Int) (w : World) (h : RdI w A n l) (h2 : RdI w B m l2) (hn : n ≤ 1000000000) (hm : m ≤ 1000000000) :
 Calls Tryz.prog 50 #[.slice A n c, .slice B m d] w fun e w' => e = .returned (.bool (decide (l = l2))) ∧ ∃ k, w' = w.drewN k := by
 have HR := Lib.hid h
 have HR2 := Lib.hid h2
 have HL := Lib.hid h.1
 have HL2 := Lib.hid h2.1
 clear h h2
 by_cases hnm : n = m
 rotate_left
 · have e1 : ((n : Int) != (m : Int)) = true := by simp; omega
   have e2 : ((n : Int) == (m : Int)) = false := by simp; omega
   have HD := Lib.hid (show decide (l = l2) = false from decide_eq_false (fun e => hnm (by rw [← HL.out, ← HL2.out, e])))
   go_enter Tryz.func50, Tryz.ntmps50
   go_wp2_with fail
   go_ret
   exact ⟨ret_bool HD.out.symm, 0, rfl⟩
 subst hnm
 go_enter Tryz.func50, Tryz.ntmps50
 go_wp2_with fail
 go_loopw [13] (fun q W => (∃ k, W = w.drewN k) ∧ ∃ i : Nat, i ≤ n ∧ q = .int .i64 i ∧ ∀ j, j < i → l[j]? = l2[j]?) (fun q _ => n - (intOf q).toNat)
 case atStart => exact ⟨⟨0, rfl⟩, 0, Nat.zero_le _, rfl, fun _ h => absurd h (Nat.not_lt_zero _)⟩
 case round =>
  obtain ⟨hd, i, hi, rfl, hall⟩ := hrel
  have HD := Lib.hid hd
  have HA := Lib.hid hall
  clear hall
  by_cases hlt : i < n
  · obtain ⟨b, o, x, rfl, hx, hc⟩ := HR.out.at_ hlt
    obtain ⟨b', o', y, rfl, hy, hc'⟩ := HR2.out.at_ hlt
    have hc1 : wr.cell? ⟨b, o + i, none⟩ = some (.int .i64 x) := by obtain ⟨k, rfl⟩ := hd; exact hc
    have hc2 : wr.cell? ⟨b', o' + i, none⟩ = some (.int .i64 y) := by obtain ⟨k, rfl⟩ := hd; exact hc'
    have HX := Lib.hid hx
    have HY := Lib.hid hy
    have i1 : (0 : Int) ≤ (i : Int) := by omega
    have i2 : (i : Int) < (n : Int) := by omega
    clear hx hy hc hc' hd
    by_cases e : x = y
    · subst e
      go_wp2_with fail
      go_quiet (fail)
      go_wp2_with fail
      go_roundw
      case rel =>
       obtain ⟨k, e⟩ := HD.out
       refine ⟨⟨k + nq, by rw [e, World.drewN_drewN]⟩, i + 1, by omega, by go_num, fun j hj => ?_⟩
       by_cases ej : j = i
       · subst ej
         rw [HX.out, HY.out]
       · exact HA.out j (by omega)
      case measure => simp [intOf]; omega
    · have e1 : (x != y) = true := by simpa using e
      have e2 : (x == y) = false := by simpa using e
      have HN := Lib.hid (show decide (l = l2) = false from decide_eq_false (fun ee => by
       have := HX.out
       rw [ee, HY.out] at this
       exact e (Option.some.inj this).symm))
      have HE := Lib.hid e
      clear e
      go_wp2_with fail
      go_quiet (fail)
      go_wp2_with fail
      go_ret
      obtain ⟨k, e⟩ := HD.out
      exact ⟨ret_bool HN.out.symm, k + nq, by rw [e, World.drewN_drewN]⟩
  · obtain rfl : n = i := by omega
    have HE := Lib.hid (show decide (l = l2) = true from decide_eq_true (List.ext_getElem? (fun j => by
     rcases Nat.lt_or_ge j n with h | h
     · exact HA.out j h
     · rw [List.getElem?_eq_none (by rw [HL.out]; exact h), List.getElem?_eq_none (by rw [HL2.out]; exact h)])))
    clear hd
    go_wp2_with fail
    go_ret
    exact ⟨ret_bool HE.out.symm, HD.out⟩
end Go.Proofs.YtgkeolddpielpaaGreat

namespace Go.Proofs.YtgkeolddpielpaaGreat
open Go.RowKit

attribute [local go_sem ↓] Go.wp_at_zero Go.wp_at_succ

set_option maxHeartbeats 1000000 in
theorem oPart_msk (o : Nat) (ar : List Tri) (ls : List (List Int)) (w : World) (h : RdOv w o ar ls) (hL : ls.length ≤ 1000000) (hc : ∀ l ∈ ls, l.length ≤ 1000000) :
 Calls Tryz.prog 78 #[.pointer (some ⟨o, 0, none⟩)] w fun e w' => ∃ Q' cq', e = .returned (.agg #[.slice Q' ls.length cq']) ∧ RdT (msk w' (fun b => w.heap.size ≤ b ∧ b < w'.heap.size)) Q' ls.length ls ∧ Below w.heap.size w w' := by
 obtain ⟨Q, F, T, G, S, L, m, cq, cf, ct, cg, cs, h⟩ := h
 have h0 := h.n0
 have hl : ls.length = L := h.part.1
 rw [hl] at hL ⊢
 have HT := Lib.hid h.part
 have HC := Lib.hid hc
 have hol := lt_of_cell h0
 simp only at hol
 clear h hc hl
 go_enter Tryz.func78, Tryz.ntmps78
 go_wp2_with fail
 (refine calls_named ?_; intro w1 hw1)
 have hb1 : Below w.heap.size w w1 := by rw [hw1]; exact bELt
 have hR1 : Blk w1 w.heap.size 79 #[.slice none 0 0] := by rw [hw1]; exact bLNt
 have hz1 : w.heap.size + 1 ≤ w1.heap.size := by rw [hw1]; simp
 clear hw1
 with_reducible refine (twin_any Q L cq ls _ (HT.out.below hb1) hL HC.out).mono ?_
 rintro e w2 ⟨Q', cq', rfl, hrw, _, _, hb2⟩
 have hR2 := hR1.below hb2 hR1.lt
 have r0 := hR2.cell 0
 simp only [List.getElem?_toArray, List.getElem?_cons_zero] at r0
 have f0 := hR2.frozen 0
 have hb2' := Bel.step hb1 hb2
 have HW := Lib.hid (show RdT (msk (w2.setCell ⟨w.heap.size, 0, none⟩ (.slice Q' L cq')) (fun b => w.heap.size ≤ b ∧ b < (w2.setCell ⟨w.heap.size, 0, none⟩ (.slice Q' L cq')).heap.size)) Q' L ls from
  hrw.le ((Kept.set w2 w.heap.size 0 (.slice Q' L cq') (by omega)).msk.trans (msk_mono (fun b hb => ⟨by omega, by have := hb.2; simpa [World.setCell] using this⟩))))
 have hbe : Below w.heap.size w (w2.setCell ⟨w.heap.size, 0, none⟩ (.slice Q' L cq')) := hb2'.setCell (Nat.le_refl _) _
 clear hrw hb2 hR1 hb1 h0
 go_wp2_with fail
 refine bodyPost_ret (v := .agg #[.slice Q' L cq']) (by simp [results, Tryz.results78, go_sem, r0]) rfl ?_
 exact ⟨_, _, rfl, HW.out, hbe⟩

set_option maxHeartbeats 1000000 in
theorem right_ok (w : World) (g o : Nat) (N : NetD) (ls : List (List Int)) (hg : RdGr w g N) (hok : NetOk N) (ho : RdOv w o N.ar ls) (hP : PartOk N.vs.length ls) (hNC : sumA (gatesOf N.ar ls) ≤ 1000000000) (A : Option Addr) (n c : Nat) (l want : List Int) (hl : RdI w A n l) (hn : n ≤ 1000000000) (hw : IsAll N ls want) :
 Calls Tryz.prog 21 #[.pointer (some ⟨g, 0, none⟩), .pointer (some ⟨o, 0, none⟩), .slice A n c] w fun e w' => e = .returned (.bool (decide (l = want))) ∧ Below w.heap.size w w' := by
 have HSZ := Lib.hid (oSize_any o N.ar ls w ho)
 have HAL := Lib.hid (all_ok w g o N ls hg hok ho hP hNC)
 have HR := Lib.hid hl
 have HW := Lib.hid hw
 obtain ⟨NC, hNCe⟩ : ∃ NC, NC = sumA (gatesOf N.ar ls) := ⟨_, rfl⟩
 rw [← hNCe] at HSZ hNC
 have HNC := Lib.hid hNCe
 clear hg ho hP hl hw hNCe
 by_cases hnn : n = NC
 · have e1 : ((n : Int) == (NC : Int)) = true := by simp; omega
   have HE := Lib.hid hnn
   clear hnn
   go_enter Tryz.func21, Tryz.ntmps21
   go_wp2_with fail
   with_reducible refine HSZ.out.mono ?_
   rintro e w' ⟨rfl, rfl⟩
   go_wp2_with fail
   with_reducible refine HAL.out.mono ?_
   rintro e w2 ⟨B, cl, rfl, hB, hblk, hcl, _, hdo, hb2⟩
   have HALL := Lib.hid (hdo.all hcl)
   have HEQ := Lib.hid (eqCosts_any A (some ⟨B, 0, none⟩) n (sumA (gatesOf N.ar ls)) c (sumA (gatesOf N.ar ls)) l cl w2 (HR.out.below hb2) (hblk.rdI hcl) hn (by rw [← HNC.out]; exact hNC))
   clear hB hblk hcl hdo HAL HSZ
   go_wp2_with fail
   with_reducible refine HEQ.out.mono ?_
   rintro e w3 ⟨rfl, kk, rfl⟩
   rw [HALL.out.uniq HW.out]
   go_wp2_with fail
   go_ret
   exact ⟨rfl, bELt⟩
 · have e1 : ((n : Int) == (NC : Int)) = false := by simp; omega
   have HE := Lib.hid (show decide (l = want) = false from decide_eq_false (fun e => hnn (by rw [← HR.out.1, e, HW.out.len, HNC.out])))
   clear hnn
   go_enter Tryz.func21, Tryz.ntmps21
   go_wp2_with fail
   with_reducible refine HSZ.out.mono ?_
   rintro e w' ⟨rfl, rfl⟩
   go_wp2_with fail
   go_ret
   exact ⟨ret_bool HE.out.symm, Below.refl _ _⟩
end Go.Proofs.YtgkeolddpielpaaGreat

namespace Go.Proofs.YtgkeolddpielpaaGreat
open Go.RowKit

attribute [local go_sem ↓] Go.wp_at_zero Go.wp_at_succ

theorem run_make0 (n : Nat) (hn : n ≤ 1000000000) (W : World) : (Instr.makeSlice 44 (.int .i64 0) (.int .i64 (n : Int))).run Tryz.prog W = .ok (.slice (some ⟨W.heap.size, 0, none⟩) 0 n) (W.alloc (.cells (zeros (.int .i64 0) n) 2)) := by
 obtain ⟨i, hi, hz, hs, hbb⟩ := info_parts infoI64
 have hb' : (i.bytes : Int) * (n : Int) ≤ 281474976710656 := by rw [hbb]; omega
 have hr := run_make (P := Tryz.prog) W 44 2 i (.int .i64 0) Tryz.underlying44 hi hz .i64 .i64 0 n (Int.le_refl _) (by omega) hb' (by omega)
 simp only [Int.toNat_natCast, Int.toNat_zero] at hr
 have hm : madeCells (Value.int .i64 0).cells (n * i.size) = zeros (.int .i64 0) n := by
  rw [hs, Nat.mul_one, show (Value.int .i64 0).cells = #[.int .i64 0] from rfl]
  apply Array.ext'
  rw [toList_madeCells_one]
  simp [zeros]
 rw [hm] at hr
 exact hr
theorem own_make0 (W : World) (B n : Nat) (hB : B ≤ W.heap.size) (hn : n ≤ 1000000000) : Own (W.alloc (.cells (zeros (.int .i64 0) n) 2)) B 2 1 (some ⟨W.heap.size, 0, none⟩) 0 n (icells []) :=
 World.ownsRow_made W _ n hB (by unfold maxLen; omega) (by simp [zeros])

structure PlV (w v : World) (F : Nat → Prop) (N : NetD) (ls : List (List Int)) (V : World) (A : Option Addr) (cp : Nat) (cl : List Int) : Prop where
 kept : Kept F v V
 size : v.heap.size ≤ V.heap.size
 bel : Below w.heap.size w V
 own : Own V w.heap.size 2 1 A cl.length cp (icells cl)
 dj : ∀ b, F b → b < v.heap.size ∧ blkOf A ≠ some b
 row : RowE N ls cl
section
variable {w v V V' : World} {F : Nat → Prop} {N : NetD} {ls : List (List Int)} {A : Option Addr} {cp : Nat} {cl : List Int}
theorem PlV.below (h : PlV w v F N ls V A cp cl) (hb : Below V.heap.size V V') : PlV w v F N ls V' A cp cl :=
 ⟨h.kept.trans (Kept.below hb) h.size, Nat.le_trans h.size hb.size, Bel.step h.bel hb, h.own.below hb, h.dj, h.row⟩
theorem PlV.le (h : PlV w v F N ls V A cp cl) : Le (msk v F) V := h.kept.msk.trans (msk_le _ _)
theorem PlV.inner (h : PlV w v F N ls V A cp cl) : PlV w V (fun b => b < V.heap.size ∧ blkOf A ≠ some b) N ls V A cp cl :=
 ⟨Kept.refl _ _, Nat.le_refl _, h.bel, h.own, fun _ hb => hb, h.row⟩
theorem PlV.outer {A' : Option Addr} {cp' : Nat} {cl' : List Int} (h : PlV w v F N ls V A cp cl) (g : PlV w V (fun b => b < V.heap.size ∧ blkOf A ≠ some b) N ls V' A' cp' cl') : PlV w v F N ls V' A' cp' cl' := by
 have hF : ∀ b, F b → b < V.heap.size ∧ blkOf A ≠ some b := fun b hb => ⟨by have := (h.dj b hb).1; have := h.size; omega, (h.dj b hb).2⟩
 exact ⟨h.kept.trans (g.kept.mono hF) h.size, Nat.le_trans h.size g.size, g.bel, g.own, fun b hb => ⟨(h.dj b hb).1, (g.dj b (hF b hb)).2⟩, g.row⟩
theorem PlV.push {A' : Option Addr} {cp' : Nat} {u : Int} (h : PlV w v F N ls V A cp cl) (ho : Own V' w.heap.size 2 1 A' (cl.length + 1) cp' (icells cl ++ icells [u])) (hg : V.grownBy V' (blkOf A)) (hat : blkOf A' = blkOf A ∨ blkOf A' = some V.heap.size) (he : EntV N ls cl.length u) :
 PlV w v F N ls V' A' cp' (cl ++ [u]) := by
 refine ⟨h.kept.trans (Kept.grown hg (fun b hb => (h.dj b hb).2)) h.size, Nat.le_trans h.size hg.size, ?_, by rw [icells_app, List.length_append]; exact ho, fun b hb => ⟨(h.dj b hb).1, ?_⟩, h.row.push he⟩
 · refine ⟨hg.os.trans h.bel.os, hg.tape.trans h.bel.tape, hg.output.trans h.bel.output, Nat.le_trans h.bel.size hg.size, fun k hk => ?_⟩
   rw [hg.block k (by have := h.bel.size; omega) (fun e => by have := (h.own.lt k e.symm).1; omega), h.bel.block k hk]
 · rcases hat with e | e
   · rw [e]; exact (h.dj b hb).2
   · rw [e]; intro e2; cases e2; have := (h.dj _ hb).1; have := h.size; omega
end
set_option maxHeartbeats 4000000 in
theorem plain_ok (w : World) (g o : Nat) (N : NetD) (ls : List (List Int)) (hg : RdGr w g N) (hok : NetOk N) (ho : RdOv w o N.ar ls) (hP : PartOk N.vs.length ls) (hNC : sumA (gatesOf N.ar ls) ≤ 1000000000) :
 Calls Tryz.prog 44 #[.pointer (some ⟨g, 0, none⟩), .pointer (some ⟨o, 0, none⟩)] w fun e w' => ∃ A c cl, e = .returned (.slice A cl.length c) ∧ RdI w' A cl.length cl ∧ IsAll N ls cl ∧ Below w.heap.size w w' := by
 have hL6 : ls.length ≤ 6 := hP.l6
 have hlv := hok.lv
 have hla := hok.la
 have HG := Lib.hid hg
 have HO := Lib.hid ho
 have HP := Lib.hid hP
 obtain ⟨NC, hNCe⟩ : ∃ NC, NC = sumA (gatesOf N.ar ls) := ⟨_, rfl⟩
 have HSZ := Lib.hid (oSize_any o N.ar ls w ho)
 rw [← hNCe] at HSZ hNC
 have HNC := Lib.hid hNCe
 obtain ⟨L, hL⟩ : ∃ L, L = ls.length := ⟨_, rfl⟩
 have HL := Lib.hid hL
 rw [← hL] at hL6
 have hmk := run_make0 NC (by omega)
 clear hg ho hP hNCe hL
 go_enter Tryz.func44, Tryz.ntmps44
 go_wp2_with fail
 with_reducible refine HSZ.out.mono ?_
 rintro e w' ⟨rfl, rfl⟩
 go_wp2_with fail
 (refine calls_named ?_; intro w1 hw1)
 have hb1 : Below w.heap.size w w1 := by rw [hw1]; exact bELt
 have hO1 : Own w1 w.heap.size 2 1 (some ⟨w.heap.size, 0, none⟩) 0 NC (icells []) := by rw [hw1]; exact own_make0 _ _ _ (Nat.le_refl _) (by omega)
 clear hw1 hmk HSZ
 have HPT := Lib.hid (oPart_msk o N.ar ls w1 (HO.out.below hb1) (by rw [← HL.out]; omega) (fun l hl => by have := (HP.out.lvl l hl).len; omega))
 rw [← HL.out] at HPT
 with_reducible refine HPT.out.mono ?_
 rintro e w2 ⟨Q, cq, rfl, hT, hb2⟩
 have HT2 := Lib.hid hT
 have HO2 := Lib.hid (hO1.below hb2)
 have HB2 := Lib.hid (Bel.step hb1 hb2)
 have hb2s := hb2.size
 have HB12 := Lib.hid hb2
 have hq1 : w.heap.size < w1.heap.size := (hO1.lt _ rfl).2
 clear hT hO1 hb1 hb2 HPT
 go_wp2_with fail
 (refine wp_named ?_; intro v1 hv1)
 have hbv : Below w2.heap.size w2 v1 := by rw [hv1]; exact bELt
 have hX1 : Blk v1 w2.heap.size 79 #[.slice Q L cq] := by rw [hv1]; exact Blk.new _ _ _
 clear hv1
 obtain ⟨F, hF⟩ : ∃ F : Nat → Prop, F = fun b => w1.heap.size ≤ b ∧ b < v1.heap.size := ⟨_, rfl⟩
 have HT := Lib.hid (show RdT (msk v1 F) Q L ls from HT2.out.le ((Kept.below hbv).msk.trans (msk_mono (fun b hb => by rw [hF]; exact ⟨hb.1, by have := hbv.size; omega⟩))))
 have hFp : F w2.heap.size := by rw [hF]; exact ⟨hb2s, hX1.lt⟩
 have HV0 := Lib.hid (show PlV w v1 F N ls v1 (some ⟨w.heap.size, 0, none⟩) NC [] from ⟨Kept.refl _ _, Nat.le_refl _, Bel.step HB2.out hbv, HO2.out.below hbv, fun b hb => by
  rw [hF] at hb
  refine ⟨hb.2, fun e => ?_⟩
  have e2 : w.heap.size = b := Option.some.inj e
  omega, fun k v hk => by simp at hk⟩)
 have HXF := Lib.hid (show ∀ V, Kept F v1 V → V.cell? ⟨w2.heap.size, 0, none⟩ = some (.slice Q L cq) from fun V hV => by
  have := hX1.cell 0
  simp only [List.getElem?_toArray, List.getElem?_cons_zero] at this
  exact hV.msk.trans (msk_le _ _) _ _ (msk_cell.2 ⟨hFp, this⟩))
 clear hF hbv HT2 HO2 HB2 HB12 hb2s hX1 hFp
 go_loopw [5, 7] (fun z q V => ∃ (i : Nat) (A : Option Addr) (cp : Nat) (cl : List Int), i ≤ L ∧ q = .int .i64 ((i : Int) + 1) ∧ z = .slice A cl.length cp ∧ cl.length = sumA ((gatesOf N.ar ls).take i) ∧ PlV w v1 F N ls V A cp cl) (fun _ q _ => L + 1 - (intOf q).toNat)
 case atStart => exact ⟨0, _, _, [], Nat.zero_le _, rfl, rfl, by simp [sumA], HV0.out⟩
 case round =>
  obtain ⟨i, A, cp, cl, hi, rfl, rfl, hcl, hV⟩ := hrel
  have HLV := Lib.hid (oLevels_any o N.ar ls wr (HO.out.below hV.bel))
  rw [← HL.out] at HLV
  have HV := Lib.hid hV
  have HCL := Lib.hid hcl
  by_cases hiL : i < L
  rotate_left
  · obtain rfl : i = L := by omega
    have i1 : ¬ ((i : Int) + 1 ≤ (i : Int)) := by omega
    clear hV hcl
    go_wp2_with fail
    with_reducible refine HLV.out.mono ?_
    rintro e w' ⟨rfl, rfl⟩
    go_wp2_with fail
    go_ret
    refine ⟨A, cp, cl, rfl, HV.out.own.rds.rdI, ⟨?_, HV.out.row⟩, HV.out.bel⟩
    rw [HCL.out, HL.out, List.take_of_length_le (by unfold gatesOf; simp)]
  · have i1 : (i : Int) + 1 ≤ (L : Int) := by omega
    obtain ⟨l, hl⟩ : ∃ l, ls[i]? = some l := ⟨_, List.getElem?_eq_getElem (by rw [← HL.out]; exact hiL)⟩
    obtain ⟨l0, hl0⟩ : ∃ l, ls[0]? = some l := ⟨_, List.getElem?_eq_getElem (by rw [← HL.out]; omega)⟩
    have hln := (HP.out.lvl l (List.mem_of_getElem? hl)).len
    have hln0 := (HP.out.lvl l0 (List.mem_of_getElem? hl0)).len
    obtain ⟨M, hM⟩ : ∃ M, M = (gateRow N.ar l).length := ⟨_, rfl⟩
    have HM := Lib.hid hM
    have HCE := Lib.hid (oCells_ok o i M N.ar ls l wr (HO.out.below hV.bel) hl (by rw [← HL.out]; omega) (by rw [hM, gateRow_len]))
    have HLJ := Lib.hid hl
    have HL0 := Lib.hid hl0
    have HLN := Lib.hid hln
    have HLN0 := Lib.hid hln0
    have hMb : M ≤ 4096 := by
     have h1 := HP.out.lvl l (List.mem_of_getElem? hl)
     have h2 := mostN_le (l := l) (n := (N.vs.length : Int)) (fun x hx => h1.hi x hx) (by omega)
     rw [hM, gateRow_len]
     omega
    clear hV hcl hl hl0 hM hln hln0
    go_wp2_with fail
    with_reducible refine HLV.out.mono ?_
    rintro e w' ⟨rfl, rfl⟩
    go_wp2_with fail
    with_reducible refine HCE.out.mono ?_
    rintro e w' ⟨rfl, rfl⟩
    go_wp2_with fail
    clear HLV HCE
    go_loopw [5, 29] (fun z q V => ∃ (c : Nat) (A : Option Addr) (cp : Nat) (cl : List Int), c ≤ M ∧ q = .int .i64 (c : Nat) ∧ z = .slice A cl.length cp ∧ cl.length = sumA ((gatesOf N.ar ls).take i) + sumS ((gateRow N.ar l).take c) ∧ PlV w v1 F N ls V A cp cl) (fun _ q _ => M - (intOf q).toNat)
    case atStart => exact ⟨0, A, cp, cl, Nat.zero_le _, rfl, rfl, by rw [HCL.out]; simp [sumS], HV.out⟩
    case round =>
     clear HCL HV
     obtain ⟨c, A, cp, cl, hc, rfl, rfl, hcl, hV⟩ := hrel
     have HV := Lib.hid hV
     have HCL := Lib.hid hcl
     by_cases hcM : c < M
     rotate_left
     · obtain rfl : c = M := by omega
       clear hV hcl
       go_wp2_with fail
       go_roundw
       case rel => exact ⟨i + 1, A, cp, cl, by omega, by go_num, rfl, by rw [sumA_next (gates_get HLJ.out), HCL.out, List.take_of_length_le (l := gateRow N.ar l) (by rw [← HM.out]; exact Nat.le_refl _)], HV.out⟩
       case measure => simp [intOf]; omega
     · obtain ⟨x, hx⟩ : ∃ x, (gateRow N.ar l)[c]? = some x := ⟨_, List.getElem?_eq_getElem (by rw [← HM.out]; exact hcM)⟩
       have HX := Lib.hid hx
       have HGT := Lib.hid (oGate_own o i c N.ar ls l x wr (HO.out.below hV.bel) HLJ.out (by rw [← HL.out]; omega) hx (by omega))
       have hgx := gate_in_le hx
       have hfit : cl.length + szG x ≤ NC := by
        have e1 := sumS_all (gateRow N.ar l) (c + 1)
        have e2 := sumA_all (gatesOf N.ar ls) (i + 1)
        rw [sumA_next (gates_get HLJ.out), ← HNC.out] at e2
        rw [sumS_next hx] at e1
        omega
       have HAB := Lib.hid (show ∀ b, blkOf A = some b → b < wr.heap.size from fun b hb => (hV.own.lt b hb).2)
       clear hV hcl hx
       go_wp2_with fail
       with_reducible refine HGT.out.mono ?_
       rintro e w3 ⟨B1, m1, d1, B2, m2, d2, rfl, ho1, ho2, hb3⟩
       have hm1 : x.1.length = m1 := by have := ho1.1; simpa [icells] using this
       have hm2 : x.2.length = m2 := by have := ho2.1; simpa [icells] using this
       have HV3 := Lib.hid (HV.out.below hb3)
       have HO1 := Lib.hid ho1
       have HO2 := Lib.hid ho2
       have hz3 := hb3.size
       clear ho1 ho2 hb3 HGT
       have x0 := HXF.out w3 HV3.out.kept
       have hx0 := lt_of_cell x0
       simp only at hx0
       go_wp2_with fail
       (refine calls_named ?_; intro w4 hw4)
       have hb4 : Below w3.heap.size w3 w4 := by rw [hw4]; exact bELt
       have hX4 : Blk w4 w3.heap.size 38 #[.slice B1 m1 d1, .slice B2 m2 d2] := by rw [hw4]; exact Blk.new _ _ _
       clear hw4
       have HV4 := Lib.hid (HV3.out.below hb4)
       have HB4 := Lib.hid hb4
       have HMK := Lib.hid (rimMarks_ok Q L cq i N.vs.length c ls l l0 w4 (HT.out.le HV4.out.le) HLJ.out (by omega) HL0.out HLN.out HLN0.out (by omega))
       clear hb4 x0 hx0
       with_reducible refine HMK.out.mono ?_
       rintro e w5 ⟨bm, rfl, hbm, hbz, hb5⟩
       have HV5 := Lib.hid (HV4.out.below hb5)
       have hX5 := hX4.below hb5 hX4.lt
       obtain ⟨F2, hF2⟩ : ∃ F2 : Nat → Prop, F2 = fun b => b < w5.heap.size ∧ blkOf A ≠ some b := ⟨_, rfl⟩
       have hz4 := HB4.out.size
       have hin : ∀ b, wr.heap.size ≤ b → b < w5.heap.size → F2 b := fun b h1 h2 => by rw [hF2]; exact ⟨h2, fun e => by have := HAB.out b e; omega⟩
       have HI5 := Lib.hid (show PlV w w5 F2 N ls w5 A cp cl by rw [hF2]; exact HV5.out.inner)
       have hbw := Bel.step HB4.out hb5
       have HR1 := Lib.hid (show RdI (msk w5 F2) B1 m1 x.1 from (HO1.out.below hbw).rds.rdI.msk (fun b hb => hin b ((HO1.out.below hbw).lt b hb).1 ((HO1.out.below hbw).lt b hb).2))
       have HR2 := Lib.hid (show RdI (msk w5 F2) B2 m2 x.2 from (HO2.out.below hbw).rds.rdI.msk (fun b hb => hin b ((HO2.out.below hbw).lt b hb).1 ((HO2.out.below hbw).lt b hb).2))
       have HRM := Lib.hid (show RdB (msk w5 F2) (some ⟨bm, 0, none⟩) N.vs.length (mkOf l c) from (hbm.rdB (by rw [mkOf_len]; exact HLN.out)).msk (fun b hb => by
        have e2 : bm = b := Option.some.inj hb
        subst e2
        exact hin _ (by omega) hbm.lt))
       have hg9 := hin w3.heap.size (by omega) hX5.lt
       have HXG := Lib.hid (show ∀ V, Kept F2 w5 V → V.cell? ⟨w3.heap.size, 0, none⟩ = some (.slice B1 m1 d1) ∧ V.cell? ⟨w3.heap.size, 1, none⟩ = some (.slice B2 m2 d2) from fun V hV => by
        obtain ⟨g1, g2, _⟩ := hX5.two
        exact ⟨hV.msk.trans (msk_le _ _) _ _ (msk_cell.2 ⟨hg9, g1⟩), hV.msk.trans (msk_le _ _) _ _ (msk_cell.2 ⟨hg9, g2⟩)⟩)
       have HF2 := Lib.hid hF2
       have x1 := (HXG.out w5 (Kept.refl _ _)).1
       clear hF2 hin hbw hg9 hbm hbz hb5 hX4 hX5 HMK HAB HO1 HO2 HB4 HV3 HV4
       go_wp2_with fail
       go_loopw [5, 43] (fun z q V => ∃ (a : Nat) (A' : Option Addr) (cp' : Nat) (cl' : List Int), a ≤ m1 ∧ q = .int .i64 (a : Nat) ∧ z = .slice A' cl'.length cp' ∧ cl'.length = cl.length + a * m2 ∧ PlV w w5 F2 N ls V A' cp' cl') (fun _ q _ => m1 - (intOf q).toNat)
       case atStart => exact ⟨0, A, cp, cl, Nat.zero_le _, rfl, rfl, by simp, HI5.out⟩
       case round =>
        obtain ⟨a, A1, cp1, cl1, ha, rfl, rfl, hcl1, hV1⟩ := hrel
        have HV1 := Lib.hid hV1
        have HCL1 := Lib.hid hcl1
        by_cases haM : a < m1
        rotate_left
        · obtain rfl : a = m1 := by omega
          clear hV1 hcl1
          go_wp2_with fail
          go_roundw
          case rel => exact ⟨c + 1, A1, cp1, cl1, by omega, by go_num, rfl, by rw [sumS_next HX.out, HCL1.out, HCL.out]; unfold szG; rw [hm1, hm2]; omega, HV5.out.outer (by rw [← HF2.out]; exact HV1.out)⟩
          case measure => simp [intOf]; omega
        · have hr1 := HR1.out.le hV1.le
          obtain ⟨b1, o1, z1, rfl, hz1, hc1⟩ := hr1.at_ haM
          obtain ⟨s, rfl⟩ := gate_nat1 HX.out hz1
          have HZ1 := Lib.hid hz1
          have x2 := (HXG.out _ hV1.kept).2
          have j1 : (a : Int) < (m1 : Int) := by omega
          clear hV1 hcl1 hz1 hr1
          go_wp2_with fail
          go_loopw [5, 50] (fun z q V => ∃ (b : Nat) (A' : Option Addr) (cp' : Nat) (cl' : List Int), b ≤ m2 ∧ q = .int .i64 (b : Nat) ∧ z = .slice A' cl'.length cp' ∧ cl'.length = cl.length + a * m2 + b ∧ PlV w w5 F2 N ls V A' cp' cl') (fun _ q _ => m2 - (intOf q).toNat)
          case atStart => exact ⟨0, A1, cp1, cl1, Nat.zero_le _, rfl, rfl, by rw [HCL1.out]; omega, HV1.out⟩
          case round =>
           clear x2 HV1 HCL1 hc1
           obtain ⟨b, A2, cp2, cl2, hb, rfl, rfl, hcl2, hV2⟩ := hrel
           have HV2 := Lib.hid hV2
           have HCL2 := Lib.hid hcl2
           by_cases hbM : b < m2
           rotate_left
           · obtain rfl : b = m2 := by omega
             clear hV2 hcl2
             go_wp2_with fail
             go_roundw
             case rel => exact ⟨a + 1, A2, cp2, cl2, by omega, by go_num, rfl, by rw [HCL2.out, Nat.add_mul, Nat.one_mul]; omega, HV2.out⟩
             case measure => simp [intOf]; omega
           · have hr2 := HR2.out.le hV2.le
             obtain ⟨b2, o2, z2, rfl, hz2, hc2⟩ := hr2.at_ hbM
             obtain ⟨t, rfl⟩ := gate_nat2 HX.out hz2
             have HZ2 := Lib.hid hz2
             have j2 : (b : Int) < (m2 : Int) := by omega
             have hs : s < N.ar.length := by
              obtain ⟨y, hy, _⟩ := (gate_in HX.out).1 (List.mem_of_getElem? HZ1.out)
              exact (List.getElem?_eq_some_iff.1 hy).1
             have ht : t < N.ar.length := by
              obtain ⟨y, hy, _⟩ := (gate_out HX.out).1 (List.mem_of_getElem? hz2)
              exact (List.getElem?_eq_some_iff.1 hy).1
             have hlen : cl2.length < NC := by
              have e1 : (a + 1) * m2 ≤ m1 * m2 := Nat.mul_le_mul_right _ haM
              rw [Nat.add_mul, Nat.one_mul] at e1
              unfold szG at hfit
              rw [hm1, hm2] at hfit
              omega
             have HWI := Lib.hid (walkInside_ok wr g s t N (some ⟨bm, 0, none⟩) N.vs.length N.vs.length (mkOf l c) (HG.out.below hV2.bel) hok hs ht (HRM.out.le hV2.le) rfl)
             clear hV2 hcl2 hz2 hr2 hs ht
             go_wp2_with fail
             with_reducible refine HWI.out.mono ?_
             rintro e w6 ⟨⟨v, rfl, hv⟩, hb6⟩
             have HEN := Lib.hid (show EntV N ls cl2.length v from ⟨i, l, c, x, a, b, s, t, ⟨HLJ.out, HX.out, HZ1.out, HZ2.out, by unfold enAt; rw [HCL2.out, HCL.out, hm2]; omega⟩, hv⟩)
             have HV6 := Lib.hid (HV2.out.below hb6)
             obtain ⟨W2, hW2⟩ : ∃ W2, W2 = w6.alloc (.cells #[.int .i64 v] 2) := ⟨_, rfl⟩
             have HV7 := Lib.hid (HV6.out.below (show Below w6.heap.size w6 W2 by rw [hW2]; exact (Below.refl _ _).alloc (Nat.le_refl _) _))
             have hown := HV7.out.own
             have hrd : Rds W2 1 (some ⟨w6.heap.size, 0, none⟩) 1 (icells [v]) := by rw [hW2]; exact (Blk.new w6 2 #[.int .i64 v]).rds rfl
             have hsz : w.heap.size ≤ W2.heap.size := HV7.out.bel.size
             have HW2 := Lib.hid hW2
             clear hW2 hv hb6 hc2
             go_wp2_with (at_builtin; rw [← HW2.out]; with_reducible refine wpList_app rfl (.tmp 54) (.tmp 60) 44 rfl 2 _ 1 8 infoI64 Tryz.underlying44 rfl (by omega) rfl rfl hown hrd (icells_one _) (by omega) (by omega) hsz ?_)
             intro A3 c3 w8 ho8 hg8 hat8
             have HV8 := Lib.hid (HV7.out.push ho8 hg8 hat8 HEN.out)
             clear hown hrd hsz ho8 hg8 hat8
             go_wp2_with fail
             go_roundw
             case rel => exact ⟨b + 1, A3, c3, cl2 ++ [v], by omega, by go_num, by rw [List.length_append]; rfl, by rw [List.length_append, HCL2.out]; rfl, HV8.out⟩
             case measure => simp [intOf]; omega
end Go.Proofs.YtgkeolddpielpaaGreat

namespace Go.Proofs.YtgkeolddpielpaaGreat
open Go.RowKit

attribute [local go_sem ↓] Go.wp_at_zero Go.wp_at_succ

end Go.Proofs.YtgkeolddpielpaaGreat

namespace Go.Proofs.YtgkeolddpielpaaGreat
open Go.RowKit

attribute [local go_sem ↓] Go.wp_at_zero Go.wp_at_succ

theorem ints_take_next {l : List Int} {j : Nat} {x : Int} (h : l[j]? = some x) : icells (l.take (j + 1)) = icells (l.take j) ++ icells [x] := by
 rw [List.take_succ_eq_append_getElem (List.getElem?_eq_some_iff.1 h).1, (List.getElem?_eq_some_iff.1 h).2, icells_app]




set_option maxHeartbeats 4000000 in
set_option maxRecDepth 20000 in
theorem overNew_ok (g : Nat) (N : NetD) (Q : Option Addr) (L cq n : Nat) (ls : List (List Int)) (w : World) (h : RdGr w g N) (hN : NetOk N) (hq : RdT w Q L ls) (hP : PartOk n ls) (hn : N.vs.length = n) :
 Calls Tryz.prog 37 #[.pointer (some ⟨g, 0, none⟩), .agg #[.slice Q L cq]] w fun e w' => ∃ o, e = .returned (.tuple #[.pointer (some ⟨o, 0, none⟩), .nilIface]) ∧ RdOv (msk w' (fun b => w.heap.size ≤ b ∧ b < w'.heap.size)) o N.ar ls ∧ Below w.heap.size w w' := by
 have HG := Lib.hid h
 have HN := Lib.hid hN
 have HT := Lib.hid hq
 have HP := Lib.hid hP
 have HVN := Lib.hid hn
 have hn4 : n ≤ 4096 := by rw [← hn]; exact hN.lv
 have HM := Lib.hid hN.la
 have l6 : L ≤ 6 := by rw [← hq.1]; exact hP.l6
 clear h hN hq hP hn
 go_enter Tryz.func37, Tryz.ntmps37
 go_wp2_with fail
 (refine wp_named ?_; intro w1 hw1)
 have hb1 : Below w.heap.size w w1 := by rw [hw1]; exact bELt
 have hQ : Blk w1 w.heap.size 79 #[.slice Q L cq] := by rw [hw1]; exact bLNt
 have hzz1 : w.heap.size + 1 ≤ w1.heap.size := by rw [hw1]; simp
 clear hw1
 have HSX := Lib.hid (show ∀ V, Below w1.heap.size w1 V → V.cell? ⟨w.heap.size, 0, none⟩ = some (.slice Q L cq) from fun V hV => by
  have := (hQ.below hV hQ.lt).cell 0
  simpa using this)
 refine wp_region_held_drew (S := fun V => Below w1.heap.size w1 V) (by kernel_rfl) (Below.refl _ _).drew (fun _ => ?_)
 refine tk 0 14 (h := ⟨_, tv, ?_⟩)
 simp only [pE, List.set]
 refine tk 2 16 (h := ⟨_, tv, ?_⟩)
 simp only [pE, List.set]
 refine wpAnyH_ready (rs := [1]) (by kernel_rfl) (by simp) ?_
 refine AllReadyH.cons (o := _) rfl (fun K hK => ?_) AllReadyH.nil
 go_simp
 with_reducible refine (gVerts_any g N _ (HG.out.below (show Below w.heap.size w w1.drew from bELt))).mono ?_
 rintro e w' ⟨rfl, rfl⟩
 rw [HVN.out]
 go_wp2_with fail
 refine hK.out _ _ (Below.refl _ _).drew (fun _ => ?_)
 clear hK K
 refine wpAnyH_ready (rs := [3]) (by kernel_rfl) (by simp) ?_
 refine AllReadyH.cons (o := _) rfl (fun K hK => ?_) AllReadyH.nil
 go_simp
 with_reducible refine (partCheck_ok Q n L cq ls _ (HT.out.below (show Below w.heap.size w w1.drew from bELt)) HP.out hn4).mono ?_
 rintro e w2 ⟨rfl, hb2⟩
 have hb12 : Below w1.heap.size w1 w2 := Bel.step bELt hb2
 clear hb2
 go_wp2_with fail
 refine hK.out _ _ hb12 (fun _ => ?_)
 clear hK K
 refine tk 4 6 (h := ⟨_, tv, ?_⟩)
 simp only [pE, List.set]
 refine wpAnyH_done (by kernel_rfl) ?_ _
 have hbw2 := Bel.step hb1 hb12
 go_wp2_with fail
 refine wp_region_held_drew (S := fun V => Below w1.heap.size w1 V) (by kernel_rfl) hb12.drew (fun _ => ?_)
 refine tk 0 21 (h := ⟨_, tv, ?_⟩)
 simp only [pE, List.set]
 refine tk 2 23 (h := ⟨_, tv, ?_⟩)
 simp only [pE, List.set]
 refine tk 3 24 (h := ⟨_, tv, ?_⟩)
 simp only [pE, List.set]
 refine wpAnyH_ready (rs := [1]) (by kernel_rfl) (by simp) ?_
 refine AllReadyH.cons (o := _) rfl (fun K hK => ?_) AllReadyH.nil
 go_simp
 with_reducible refine (twin_any Q L cq ls _ (HT.out.below (show Below w.heap.size w w2.drew from bELt)) (by omega) (fun l hl => by have := (HP.out.lvl l hl).len; omega)).mono ?_
 rintro e w3 ⟨Q3, cq3, rfl, hq3, hq3a, hq3b, hb3⟩
 have hb23 : Below w2.heap.size w2 w3 := (Below.refl _ w2).drew.trans hb3
 have hq3 : RdT (msk w3 (fun b => w2.heap.size ≤ b ∧ b < w3.heap.size)) Q3 L ls := hq3
 have hb13 : Below w1.heap.size w1 w3 := Bel.step hb12 hb23
 have hbw3 := Bel.step hbw2 hb23
 clear hb3
 go_wp2_with fail
 refine hK.out _ _ hb13 (fun _ => ?_)
 clear hK K
 refine wpAnyH_ready (rs := [4]) (by kernel_rfl) (by simp) ?_
 refine AllReadyH.cons (o := _) rfl (fun K hK => ?_) AllReadyH.nil
 go_simp
 with_reducible refine (gateOf_ok g N Q L cq n ls w3 (HG.out.below hbw3) HN.out (HT.out.below hbw3) HP.out HVN.out).mono ?_
 rintro e w4 ⟨G4, rfl, hg4, hb4⟩
 have hb14 : Below w1.heap.size w1 w4 := Bel.step hb13 hb4
 have hbw4 := Bel.step hbw3 hb4
 go_wp2_with fail
 refine hK.out _ _ hb14 (fun _ => ?_)
 clear hK K
 refine tk 5 26 (h := ⟨_, tv, ?_⟩)
 simp only [pE, List.set]
 refine wpAnyH_ready (rs := [6]) (by kernel_rfl) (by simp) ?_
 refine AllReadyH.cons (o := _) rfl (fun K hK => ?_) AllReadyH.nil
 go_simp
 refine hK.out _ _ (Bel.alloc hb14) (fun _ => ?_)
 clear hK K
 refine tk 7 7 (h := ⟨_, tv, ?_⟩)
 simp only [pE, List.set]
 refine wpAnyH_done (by kernel_rfl) ?_ _
 obtain ⟨w5, hw5⟩ : ∃ w5, w5 = w4.alloc (.cells #[.slice Q3 L cq3, .slice none 0 0, .slice none 0 0, .slice G4 L L, .slice none 0 0, .int .i64 0] 83) := ⟨_, rfl⟩
 rw [← hw5]
 have hb45 : Below w4.heap.size w4 w5 := by rw [hw5]; exact bELt
 have hO5 : Blk w5 w4.heap.size 83 #[.slice Q3 L cq3, .slice none 0 0, .slice none 0 0, .slice G4 L L, .slice none 0 0, .int .i64 0] := by rw [hw5]; exact Blk.new _ _ _
 have hz5 : w5.heap.size = w4.heap.size + 1 := by rw [hw5]; simp
 clear hw5 HSX hQ
 have hz12 := hb12.size
 have hz23 := hb23.size
 have hz34 := hb4.size
 have HQ4 := Lib.hid (show RdT (msk w4 (fun b => w.heap.size ≤ b ∧ b < w4.heap.size)) Q3 L ls from hq3.le (Le.trans (Kept.msk (Kept.below hb4 |>.mono (fun b hb => hb))) (msk_mono (fun b hb => ⟨by omega, by omega⟩))))
 have HG4 := Lib.hid (show RdG (msk w4 (fun b => w.heap.size ≤ b ∧ b < w4.heap.size)) G4 L (gatesOf N.ar ls) from hg4.le (msk_mono (fun b hb => ⟨by omega, hb.2⟩)))
 have HCQ := Lib.hid (And.intro hq3a hq3b)
 clear hq3 hg4 hb4 hb23 hb12 hb13 hb14 hbw2 hbw3 hq3a hq3b
 go_wp2_with fail
 with_reducible refine (gArcs_any g N w5 (HG.out.below (Bel.step hbw4 hb45))).mono ?_
 rintro e w' ⟨rfl, rfl⟩
 have hm : N.ar.length ≤ 16384 := HM.out
 generalize hMM : N.ar.length = M at *
 have HML := Lib.hid hMM
 clear hMM
 go_wp2_with fail
 go_loopw [30] (fun q W => w4.heap.size + 1 ≤ W.heap.size ∧ Below w4.heap.size w4 W ∧ ∃ (j : Nat) (F : Option Addr) (cF : Nat) (T : Option Addr) (cT : Nat), j ≤ M ∧ q = .int .i64 j ∧ Blk W w4.heap.size 83 #[.slice Q3 L cq3, .slice F j cF, .slice T j cT, .slice G4 L L, .slice none 0 0, .int .i64 0] ∧ Own W (w4.heap.size + 1) 3 1 F j cF (icells ((N.ar.map (·.1)).take j)) ∧ Own W (w4.heap.size + 1) 3 1 T j cT (icells ((N.ar.map (·.2.1)).take j)) ∧ Dj F T) (fun q _ => M - (intOf q).toNat)
 case atStart => exact ⟨by omega, hb45, 0, none, 0, none, 0, Nat.zero_le _, rfl, hO5, Own.nil _ _ _ _, Own.nil _ _ _ _, .inl rfl⟩
 case round =>
  clear hb45 hO5 hz5
  obtain ⟨hzwr, hbwr, j, F, cF, T, cT, hj, rfl, hOwr, hoF, hoT, hdj⟩ := hrel
  by_cases hlt : j < M
  · obtain ⟨⟨x, y, z⟩, hx⟩ : ∃ x, N.ar[j]? = some x := ⟨_, List.getElem?_eq_getElem (by rw [HML.out]; exact hlt)⟩
    have HNF := Lib.hid (ints_take_next (l := N.ar.map (·.1)) (j := j) (x := x) (by rw [List.getElem?_map, hx]; rfl))
    have HNT := Lib.hid (ints_take_next (l := N.ar.map (·.2.1)) (j := j) (x := y) (by rw [List.getElem?_map, hx]; rfl))
    have HFR := Lib.hid (show ∀ V, Below w4.heap.size w4 V → Calls Tryz.prog 69 #[.pointer (some ⟨g, 0, none⟩), .int .i64 j] V fun e w' => e = .returned (.int .i64 x) ∧ V = w' from fun V hV => gFrom_ok g j N _ V (HG.out.below (Bel.step hbw4 hV)) hx)
    have HTO := Lib.hid (show ∀ V, Below w4.heap.size w4 V → Calls Tryz.prog 70 #[.pointer (some ⟨g, 0, none⟩), .int .i64 j] V fun e w' => e = .returned (.int .i64 y) ∧ V = w' from fun V hV => gTo_ok g j N _ V (HG.out.below (Bel.step hbw4 hV)) hx)
    have i1 : (0 : Int) ≤ (j : Int) := by omega
    have i2 : (j : Int) < (M : Int) := by omega
    clear hx
    go_wp2_with fail
    refine wp_region_held_drew (S := fun V => Below w4.heap.size w4 V) (by kernel_rfl) hbwr.drew (fun _ => ?_)
    refine tk 0 33 (h := ⟨_, tv, ?_⟩)
    simp only [pE, List.set]
    refine tk 1 34 (h := ⟨_, tv, ?_⟩)
    simp only [pE, List.set]
    refine tk 2 35 (h := ⟨_, tv, ?_⟩)
    simp only [pE, List.set]
    refine tk 3 36 (h := ⟨_, tv, ?_⟩)
    simp only [pE, List.set]
    refine tk 5 38 (h := ⟨_, tv, ?_⟩)
    simp only [pE, List.set]
    refine tk 6 39 (h := ⟨_, tv, ?_⟩)
    simp only [pE, List.set]
    refine wpAnyH_ready (rs := [4, 7]) (by kernel_rfl) (by simp) ?_
    refine AllReadyH.cons (o := _) rfl (fun K hK => ?_) (AllReadyH.cons (o := _) rfl (fun K hK => ?_) AllReadyH.nil)
    · obtain ⟨o0, o1, o2, o3, o4, o5⟩ := hOwr.six
      go_simp
      refine hK.out _ _ hbwr.drew (fun _ => ?_)
      clear hK K o0 o1 o2 o3 o4 o5
      refine wpAnyH_ready (rs := [7]) (by kernel_rfl) (by simp) ?_
      refine AllReadyH.cons (o := _) rfl (fun K hK => ?_) AllReadyH.nil
      go_simp
      with_reducible refine (HFR.out _ hbwr.drew).mono ?_
      rintro e w' ⟨rfl, rfl⟩
      go_wp2_with fail
      refine hK.out _ _ hbwr.drew (fun _ => ?_)
      clear hK K
      refine wpAnyH_ready (rs := [8]) (by kernel_rfl) (by simp) ?_
      refine AllReadyH.cons (o := _) rfl (fun K hK => ?_) AllReadyH.nil
      go_simp
      refine hK.out _ _ ((hbwr.alloc (by omega) _).drew) (fun _ => ?_)
      clear hK K
      obtain ⟨WA, hWA⟩ : ∃ WA, WA = (wr.alloc (.cells #[.int .i64 x] 3)).drew := ⟨_, rfl⟩
      rw [← hWA]
      have hbA : Below wr.heap.size wr WA := by rw [hWA]; exact bELt
      have hrA : Rds WA 1 (some ⟨wr.heap.size, 0, none⟩) 1 (icells [x]) := by rw [hWA]; exact (Blk.new wr 3 (ints [x])).rds rfl
      clear hWA
      have hoA := hoF.below hbA
      have hoB := hoT.below hbA
      have hOA := hOwr.below hbA hOwr.lt
      have hb4A : Below w4.heap.size w4 WA := hbwr.trans (hbA.mono (by omega))
      have hszA : w4.heap.size + 1 ≤ WA.heap.size := Nat.le_trans hzwr hbA.size
      refine wpAnyH_ready (rs := [9]) (by kernel_rfl) (by simp) ?_
      refine AllReadyH.cons (o := _) rfl (fun K hK => ?_) AllReadyH.nil
      with_reducible refine step_app' (some 42) rfl rfl (.tmp 37) (.tmp 41) 36 rfl 3 _ 1 8 infoInt Tryz.underlying36 rfl (by omega) rfl rfl hoA hrA (icells_one _) (by omega) (by omega) (by omega) ?_
      intro F2 cF2 w' hown' hg hat
      have hO' := hOA.grown hg (hoA.ne (by omega))
      have hoB' := hoB.far hg hdj.far
      have hDJ := hdj.next hoB hat
      have hb4' : Below w4.heap.size w4 w' := Bel.grownOwn hb4A hg (hoA.mono (by omega)) (by omega)
      have hz' := hg.size
      clear hOA hoA hoB hrA hg hat hbA hb4A
      refine hK.out _ _ hb4' (fun _ => ?_)
      clear hK K
      simp only [Act.put, List.setIfInBounds_toArray, List.set_cons_zero, List.set_cons_succ]
      refine tk 10 43 (h := ⟨_, tv, ?_⟩)
      simp only [pE, List.set]
      refine tk 11 44 (h := ⟨_, tv, ?_⟩)
      simp only [pE, List.set]
      obtain ⟨o0, o1, o2, o3, o4, o5⟩ := hO'.six
      have of := hO'.frozen 1
      refine wpAnyH_ready (rs := [12]) (by kernel_rfl) (by simp) ?_
      refine AllReadyH.cons (o := _) rfl (fun K hK => ?_) AllReadyH.nil
      go_simp
      refine hK.out _ _ (hb4'.setCell (by simp) _) (fun _ => ?_)
      clear hK K
      refine wpAnyH_done (by kernel_rfl) ?_ _
      obtain ⟨W6, hwW6⟩ : ∃ W6, W6 = w'.setCell ⟨w4.heap.size, 1, none⟩ (.slice F2 (j + 1) cF2) := ⟨_, rfl⟩
      rw [← hwW6]
      have hOW6 : Blk W6 w4.heap.size 83 #[.slice Q3 L cq3, .slice F2 (j + 1) cF2, .slice T j cT, .slice G4 L L, .slice none 0 0, .int .i64 0] := by rw [hwW6]; exact hO'.set_ 1 _
      have hoAW6 : Own W6 (w4.heap.size + 1) 3 1 F2 (j + 1) cF2 (icells ((N.ar.map (·.1)).take (j + 1))) := by rw [hwW6, HNF.out]; exact hown'.far (grownBy_set _ _ _ _) (.inr (hown'.ne (by omega)))
      have hoBW6 := hoB'.far (grownBy_set w' w4.heap.size 1 (.slice F2 (j + 1) cF2)) (.inr (hoB'.ne (by omega)))
      rw [← hwW6] at hoBW6
      have hbW6 : Below w4.heap.size w4 W6 := by rw [hwW6]; exact hb4'.setCell (by simp) _
      have hzW6 : w4.heap.size + 1 ≤ W6.heap.size := by rw [hwW6]; simp [World.setCell]; omega
      clear hwW6 hO' hoB' hown' hb4' o0 o1 o2 o3 o4 o5 of hOwr hoF hoT hbwr
      go_wp2_with fail
      refine wp_region_held_drew (S := fun V => Below w4.heap.size w4 V) (by kernel_rfl) hbW6.drew (fun _ => ?_)
      refine tk 0 45 (h := ⟨_, tv, ?_⟩)
      simp only [pE, List.set]
      refine tk 1 46 (h := ⟨_, tv, ?_⟩)
      simp only [pE, List.set]
      refine tk 2 47 (h := ⟨_, tv, ?_⟩)
      simp only [pE, List.set]
      refine tk 3 48 (h := ⟨_, tv, ?_⟩)
      simp only [pE, List.set]
      refine tk 5 50 (h := ⟨_, tv, ?_⟩)
      simp only [pE, List.set]
      refine tk 6 51 (h := ⟨_, tv, ?_⟩)
      simp only [pE, List.set]
      refine wpAnyH_ready (rs := [4, 7]) (by kernel_rfl) (by simp) ?_
      refine AllReadyH.cons (o := _) rfl (fun K hK => ?_) (AllReadyH.cons (o := _) rfl (fun K hK => ?_) AllReadyH.nil)
      · obtain ⟨o0, o1, o2, o3, o4, o5⟩ := hOW6.six
        go_simp
        refine hK.out _ _ hbW6.drew (fun _ => ?_)
        clear hK K o0 o1 o2 o3 o4 o5
        refine wpAnyH_ready (rs := [7]) (by kernel_rfl) (by simp) ?_
        refine AllReadyH.cons (o := _) rfl (fun K hK => ?_) AllReadyH.nil
        go_simp
        with_reducible refine (HTO.out _ hbW6.drew).mono ?_
        rintro e w' ⟨rfl, rfl⟩
        go_wp2_with fail
        refine hK.out _ _ hbW6.drew (fun _ => ?_)
        clear hK K
        refine wpAnyH_ready (rs := [8]) (by kernel_rfl) (by simp) ?_
        refine AllReadyH.cons (o := _) rfl (fun K hK => ?_) AllReadyH.nil
        go_simp
        refine hK.out _ _ ((hbW6.alloc (by omega) _).drew) (fun _ => ?_)
        clear hK K
        obtain ⟨WA, hWA⟩ : ∃ WA, WA = (W6.alloc (.cells #[.int .i64 y] 3)).drew := ⟨_, rfl⟩
        rw [← hWA]
        have hbA : Below W6.heap.size W6 WA := by rw [hWA]; exact bELt
        have hrA : Rds WA 1 (some ⟨W6.heap.size, 0, none⟩) 1 (icells [y]) := by rw [hWA]; exact (Blk.new W6 3 (ints [y])).rds rfl
        clear hWA
        have hoA := hoBW6.below hbA
        have hoB := hoAW6.below hbA
        have hOA := hOW6.below hbA hOW6.lt
        have hb4A : Below w4.heap.size w4 WA := hbW6.trans (hbA.mono (by omega))
        have hszA : w4.heap.size + 1 ≤ WA.heap.size := Nat.le_trans hzW6 hbA.size
        refine wpAnyH_ready (rs := [9]) (by kernel_rfl) (by simp) ?_
        refine AllReadyH.cons (o := _) rfl (fun K hK => ?_) AllReadyH.nil
        with_reducible refine step_app' (some 54) rfl rfl (.tmp 49) (.tmp 53) 36 rfl 3 _ 1 8 infoInt Tryz.underlying36 rfl (by omega) rfl rfl hoA hrA (icells_one _) (by omega) (by omega) (by omega) ?_
        intro T2 cT2 w' hown' hg hat
        have hO' := hOA.grown hg (hoA.ne (by omega))
        have hoB' := hoB.far hg hDJ.symm.far
        have hDJ2 := hDJ.symm.next hoB hat
        have hb4' : Below w4.heap.size w4 w' := Bel.grownOwn hb4A hg (hoA.mono (by omega)) (by omega)
        have hz' := hg.size
        clear hOA hoA hoB hrA hg hat hbA hb4A
        refine hK.out _ _ hb4' (fun _ => ?_)
        clear hK K
        simp only [Act.put, List.setIfInBounds_toArray, List.set_cons_zero, List.set_cons_succ]
        refine tk 10 55 (h := ⟨_, tv, ?_⟩)
        simp only [pE, List.set]
        refine tk 11 56 (h := ⟨_, tv, ?_⟩)
        simp only [pE, List.set]
        obtain ⟨o0, o1, o2, o3, o4, o5⟩ := hO'.six
        have of := hO'.frozen 2
        refine wpAnyH_ready (rs := [12]) (by kernel_rfl) (by simp) ?_
        refine AllReadyH.cons (o := _) rfl (fun K hK => ?_) AllReadyH.nil
        go_simp
        refine hK.out _ _ (hb4'.setCell (by simp) _) (fun _ => ?_)
        clear hK K
        refine wpAnyH_done (by kernel_rfl) ?_ _
        obtain ⟨W7, hwW7⟩ : ∃ W7, W7 = w'.setCell ⟨w4.heap.size, 2, none⟩ (.slice T2 (j + 1) cT2) := ⟨_, rfl⟩
        rw [← hwW7]
        have hOW7 : Blk W7 w4.heap.size 83 #[.slice Q3 L cq3, .slice F2 (j + 1) cF2, .slice T2 (j + 1) cT2, .slice G4 L L, .slice none 0 0, .int .i64 0] := by rw [hwW7]; exact hO'.set_ 2 _
        have hoAW7 : Own W7 (w4.heap.size + 1) 3 1 T2 (j + 1) cT2 (icells ((N.ar.map (·.2.1)).take (j + 1))) := by rw [hwW7, HNT.out]; exact hown'.far (grownBy_set _ _ _ _) (.inr (hown'.ne (by omega)))
        have hoBW7 := hoB'.far (grownBy_set w' w4.heap.size 2 (.slice T2 (j + 1) cT2)) (.inr (hoB'.ne (by omega)))
        rw [← hwW7] at hoBW7
        have hbW7 : Below w4.heap.size w4 W7 := by rw [hwW7]; exact hb4'.setCell (by simp) _
        have hzW7 : w4.heap.size + 1 ≤ W7.heap.size := by rw [hwW7]; simp [World.setCell]; omega
        clear hwW7 hO' hoB' hown' hb4' o0 o1 o2 o3 o4 o5 of hOW6 hoBW6 hoAW6 hbW6
        go_wp2_with fail
        go_roundw
        case rel => exact ⟨hzW7, hbW7, j + 1, F2, cF2, T2, cT2, by omega, by go_num, hOW7, hoBW7, hoAW7, hDJ2.symm⟩
        case measure => simp [intOf]; omega
      · go_simp
        with_reducible refine (HTO.out _ hbW6.drew).mono ?_
        rintro e w' ⟨rfl, rfl⟩
        go_wp2_with fail
        refine hK.out _ _ hbW6.drew (fun _ => ?_)
        clear hK K
        refine wpAnyH_ready (rs := [4, 8]) (by kernel_rfl) (by simp) ?_
        refine AllReadyH.cons (o := _) rfl (fun K hK => ?_) (AllReadyH.cons (o := _) rfl (fun K hK => ?_) AllReadyH.nil)
        · obtain ⟨o0, o1, o2, o3, o4, o5⟩ := hOW6.six
          go_simp
          refine hK.out _ _ hbW6.drew (fun _ => ?_)
          clear hK K o0 o1 o2 o3 o4 o5
          refine wpAnyH_ready (rs := [8]) (by kernel_rfl) (by simp) ?_
          refine AllReadyH.cons (o := _) rfl (fun K hK => ?_) AllReadyH.nil
          go_simp
          refine hK.out _ _ ((hbW6.alloc (by omega) _).drew) (fun _ => ?_)
          clear hK K
          obtain ⟨WA, hWA⟩ : ∃ WA, WA = (W6.alloc (.cells #[.int .i64 y] 3)).drew := ⟨_, rfl⟩
          rw [← hWA]
          have hbA : Below W6.heap.size W6 WA := by rw [hWA]; exact bELt
          have hrA : Rds WA 1 (some ⟨W6.heap.size, 0, none⟩) 1 (icells [y]) := by rw [hWA]; exact (Blk.new W6 3 (ints [y])).rds rfl
          clear hWA
          have hoA := hoBW6.below hbA
          have hoB := hoAW6.below hbA
          have hOA := hOW6.below hbA hOW6.lt
          have hb4A : Below w4.heap.size w4 WA := hbW6.trans (hbA.mono (by omega))
          have hszA : w4.heap.size + 1 ≤ WA.heap.size := Nat.le_trans hzW6 hbA.size
          refine wpAnyH_ready (rs := [9]) (by kernel_rfl) (by simp) ?_
          refine AllReadyH.cons (o := _) rfl (fun K hK => ?_) AllReadyH.nil
          with_reducible refine step_app' (some 54) rfl rfl (.tmp 49) (.tmp 53) 36 rfl 3 _ 1 8 infoInt Tryz.underlying36 rfl (by omega) rfl rfl hoA hrA (icells_one _) (by omega) (by omega) (by omega) ?_
          intro T2 cT2 w' hown' hg hat
          have hO' := hOA.grown hg (hoA.ne (by omega))
          have hoB' := hoB.far hg hDJ.symm.far
          have hDJ2 := hDJ.symm.next hoB hat
          have hb4' : Below w4.heap.size w4 w' := Bel.grownOwn hb4A hg (hoA.mono (by omega)) (by omega)
          have hz' := hg.size
          clear hOA hoA hoB hrA hg hat hbA hb4A
          refine hK.out _ _ hb4' (fun _ => ?_)
          clear hK K
          simp only [Act.put, List.setIfInBounds_toArray, List.set_cons_zero, List.set_cons_succ]
          refine tk 10 55 (h := ⟨_, tv, ?_⟩)
          simp only [pE, List.set]
          refine tk 11 56 (h := ⟨_, tv, ?_⟩)
          simp only [pE, List.set]
          obtain ⟨o0, o1, o2, o3, o4, o5⟩ := hO'.six
          have of := hO'.frozen 2
          refine wpAnyH_ready (rs := [12]) (by kernel_rfl) (by simp) ?_
          refine AllReadyH.cons (o := _) rfl (fun K hK => ?_) AllReadyH.nil
          go_simp
          refine hK.out _ _ (hb4'.setCell (by simp) _) (fun _ => ?_)
          clear hK K
          refine wpAnyH_done (by kernel_rfl) ?_ _
          obtain ⟨W7, hwW7⟩ : ∃ W7, W7 = w'.setCell ⟨w4.heap.size, 2, none⟩ (.slice T2 (j + 1) cT2) := ⟨_, rfl⟩
          rw [← hwW7]
          have hOW7 : Blk W7 w4.heap.size 83 #[.slice Q3 L cq3, .slice F2 (j + 1) cF2, .slice T2 (j + 1) cT2, .slice G4 L L, .slice none 0 0, .int .i64 0] := by rw [hwW7]; exact hO'.set_ 2 _
          have hoAW7 : Own W7 (w4.heap.size + 1) 3 1 T2 (j + 1) cT2 (icells ((N.ar.map (·.2.1)).take (j + 1))) := by rw [hwW7, HNT.out]; exact hown'.far (grownBy_set _ _ _ _) (.inr (hown'.ne (by omega)))
          have hoBW7 := hoB'.far (grownBy_set w' w4.heap.size 2 (.slice T2 (j + 1) cT2)) (.inr (hoB'.ne (by omega)))
          rw [← hwW7] at hoBW7
          have hbW7 : Below w4.heap.size w4 W7 := by rw [hwW7]; exact hb4'.setCell (by simp) _
          have hzW7 : w4.heap.size + 1 ≤ W7.heap.size := by rw [hwW7]; simp [World.setCell]; omega
          clear hwW7 hO' hoB' hown' hb4' o0 o1 o2 o3 o4 o5 of hOW6 hoBW6 hoAW6 hbW6
          go_wp2_with fail
          go_roundw
          case rel => exact ⟨hzW7, hbW7, j + 1, F2, cF2, T2, cT2, by omega, by go_num, hOW7, hoBW7, hoAW7, hDJ2.symm⟩
          case measure => simp [intOf]; omega
        · go_simp
          refine hK.out _ _ ((hbW6.alloc (by omega) _).drew) (fun _ => ?_)
          clear hK K
          have o1 := fun ob => (hOW6.alloc ob).six.2.1
          have o2 := fun ob => (hOW6.alloc ob).six.2.2.1
          refine wpAnyH_ready (rs := [4]) (by kernel_rfl) (by simp) ?_
          refine AllReadyH.cons (o := _) rfl (fun K hK => ?_) AllReadyH.nil
          go_simp
          refine hK.out _ _ ((hbW6.alloc (by omega) _).drew) (fun _ => ?_)
          clear hK K o1 o2
          obtain ⟨WA, hWA⟩ : ∃ WA, WA = (W6.alloc (.cells #[.int .i64 y] 3)).drew := ⟨_, rfl⟩
          rw [← hWA]
          have hbA : Below W6.heap.size W6 WA := by rw [hWA]; exact bELt
          have hrA : Rds WA 1 (some ⟨W6.heap.size, 0, none⟩) 1 (icells [y]) := by rw [hWA]; exact (Blk.new W6 3 (ints [y])).rds rfl
          clear hWA
          have hoA := hoBW6.below hbA
          have hoB := hoAW6.below hbA
          have hOA := hOW6.below hbA hOW6.lt
          have hb4A : Below w4.heap.size w4 WA := hbW6.trans (hbA.mono (by omega))
          have hszA : w4.heap.size + 1 ≤ WA.heap.size := Nat.le_trans hzW6 hbA.size
          refine wpAnyH_ready (rs := [9]) (by kernel_rfl) (by simp) ?_
          refine AllReadyH.cons (o := _) rfl (fun K hK => ?_) AllReadyH.nil
          with_reducible refine step_app' (some 54) rfl rfl (.tmp 49) (.tmp 53) 36 rfl 3 _ 1 8 infoInt Tryz.underlying36 rfl (by omega) rfl rfl hoA hrA (icells_one _) (by omega) (by omega) (by omega) ?_
          intro T2 cT2 w' hown' hg hat
          have hO' := hOA.grown hg (hoA.ne (by omega))
          have hoB' := hoB.far hg hDJ.symm.far
          have hDJ2 := hDJ.symm.next hoB hat
          have hb4' : Below w4.heap.size w4 w' := Bel.grownOwn hb4A hg (hoA.mono (by omega)) (by omega)
          have hz' := hg.size
          clear hOA hoA hoB hrA hg hat hbA hb4A
          refine hK.out _ _ hb4' (fun _ => ?_)
          clear hK K
          simp only [Act.put, List.setIfInBounds_toArray, List.set_cons_zero, List.set_cons_succ]
          refine tk 10 55 (h := ⟨_, tv, ?_⟩)
          simp only [pE, List.set]
          refine tk 11 56 (h := ⟨_, tv, ?_⟩)
          simp only [pE, List.set]
          obtain ⟨o0, o1, o2, o3, o4, o5⟩ := hO'.six
          have of := hO'.frozen 2
          refine wpAnyH_ready (rs := [12]) (by kernel_rfl) (by simp) ?_
          refine AllReadyH.cons (o := _) rfl (fun K hK => ?_) AllReadyH.nil
          go_simp
          refine hK.out _ _ (hb4'.setCell (by simp) _) (fun _ => ?_)
          clear hK K
          refine wpAnyH_done (by kernel_rfl) ?_ _
          obtain ⟨W7, hwW7⟩ : ∃ W7, W7 = w'.setCell ⟨w4.heap.size, 2, none⟩ (.slice T2 (j + 1) cT2) := ⟨_, rfl⟩
          rw [← hwW7]
          have hOW7 : Blk W7 w4.heap.size 83 #[.slice Q3 L cq3, .slice F2 (j + 1) cF2, .slice T2 (j + 1) cT2, .slice G4 L L, .slice none 0 0, .int .i64 0] := by rw [hwW7]; exact hO'.set_ 2 _
          have hoAW7 : Own W7 (w4.heap.size + 1) 3 1 T2 (j + 1) cT2 (icells ((N.ar.map (·.2.1)).take (j + 1))) := by rw [hwW7, HNT.out]; exact hown'.far (grownBy_set _ _ _ _) (.inr (hown'.ne (by omega)))
          have hoBW7 := hoB'.far (grownBy_set w' w4.heap.size 2 (.slice T2 (j + 1) cT2)) (.inr (hoB'.ne (by omega)))
          rw [← hwW7] at hoBW7
          have hbW7 : Below w4.heap.size w4 W7 := by rw [hwW7]; exact hb4'.setCell (by simp) _
          have hzW7 : w4.heap.size + 1 ≤ W7.heap.size := by rw [hwW7]; simp [World.setCell]; omega
          clear hwW7 hO' hoB' hown' hb4' o0 o1 o2 o3 o4 o5 of hOW6 hoBW6 hoAW6 hbW6
          go_wp2_with fail
          go_roundw
          case rel => exact ⟨hzW7, hbW7, j + 1, F2, cF2, T2, cT2, by omega, by go_num, hOW7, hoBW7, hoAW7, hDJ2.symm⟩
          case measure => simp [intOf]; omega
    · go_simp
      with_reducible refine (HFR.out _ hbwr.drew).mono ?_
      rintro e w' ⟨rfl, rfl⟩
      go_wp2_with fail
      refine hK.out _ _ hbwr.drew (fun _ => ?_)
      clear hK K
      refine wpAnyH_ready (rs := [4, 8]) (by kernel_rfl) (by simp) ?_
      refine AllReadyH.cons (o := _) rfl (fun K hK => ?_) (AllReadyH.cons (o := _) rfl (fun K hK => ?_) AllReadyH.nil)
      · obtain ⟨o0, o1, o2, o3, o4, o5⟩ := hOwr.six
        go_simp
        refine hK.out _ _ hbwr.drew (fun _ => ?_)
        clear hK K o0 o1 o2 o3 o4 o5
        refine wpAnyH_ready (rs := [8]) (by kernel_rfl) (by simp) ?_
        refine AllReadyH.cons (o := _) rfl (fun K hK => ?_) AllReadyH.nil
        go_simp
        refine hK.out _ _ ((hbwr.alloc (by omega) _).drew) (fun _ => ?_)
        clear hK K
        obtain ⟨WA, hWA⟩ : ∃ WA, WA = (wr.alloc (.cells #[.int .i64 x] 3)).drew := ⟨_, rfl⟩
        rw [← hWA]
        have hbA : Below wr.heap.size wr WA := by rw [hWA]; exact bELt
        have hrA : Rds WA 1 (some ⟨wr.heap.size, 0, none⟩) 1 (icells [x]) := by rw [hWA]; exact (Blk.new wr 3 (ints [x])).rds rfl
        clear hWA
        have hoA := hoF.below hbA
        have hoB := hoT.below hbA
        have hOA := hOwr.below hbA hOwr.lt
        have hb4A : Below w4.heap.size w4 WA := hbwr.trans (hbA.mono (by omega))
        have hszA : w4.heap.size + 1 ≤ WA.heap.size := Nat.le_trans hzwr hbA.size
        refine wpAnyH_ready (rs := [9]) (by kernel_rfl) (by simp) ?_
        refine AllReadyH.cons (o := _) rfl (fun K hK => ?_) AllReadyH.nil
        with_reducible refine step_app' (some 42) rfl rfl (.tmp 37) (.tmp 41) 36 rfl 3 _ 1 8 infoInt Tryz.underlying36 rfl (by omega) rfl rfl hoA hrA (icells_one _) (by omega) (by omega) (by omega) ?_
        intro F2 cF2 w' hown' hg hat
        have hO' := hOA.grown hg (hoA.ne (by omega))
        have hoB' := hoB.far hg hdj.far
        have hDJ := hdj.next hoB hat
        have hb4' : Below w4.heap.size w4 w' := Bel.grownOwn hb4A hg (hoA.mono (by omega)) (by omega)
        have hz' := hg.size
        clear hOA hoA hoB hrA hg hat hbA hb4A
        refine hK.out _ _ hb4' (fun _ => ?_)
        clear hK K
        simp only [Act.put, List.setIfInBounds_toArray, List.set_cons_zero, List.set_cons_succ]
        refine tk 10 43 (h := ⟨_, tv, ?_⟩)
        simp only [pE, List.set]
        refine tk 11 44 (h := ⟨_, tv, ?_⟩)
        simp only [pE, List.set]
        obtain ⟨o0, o1, o2, o3, o4, o5⟩ := hO'.six
        have of := hO'.frozen 1
        refine wpAnyH_ready (rs := [12]) (by kernel_rfl) (by simp) ?_
        refine AllReadyH.cons (o := _) rfl (fun K hK => ?_) AllReadyH.nil
        go_simp
        refine hK.out _ _ (hb4'.setCell (by simp) _) (fun _ => ?_)
        clear hK K
        refine wpAnyH_done (by kernel_rfl) ?_ _
        obtain ⟨W6, hwW6⟩ : ∃ W6, W6 = w'.setCell ⟨w4.heap.size, 1, none⟩ (.slice F2 (j + 1) cF2) := ⟨_, rfl⟩
        rw [← hwW6]
        have hOW6 : Blk W6 w4.heap.size 83 #[.slice Q3 L cq3, .slice F2 (j + 1) cF2, .slice T j cT, .slice G4 L L, .slice none 0 0, .int .i64 0] := by rw [hwW6]; exact hO'.set_ 1 _
        have hoAW6 : Own W6 (w4.heap.size + 1) 3 1 F2 (j + 1) cF2 (icells ((N.ar.map (·.1)).take (j + 1))) := by rw [hwW6, HNF.out]; exact hown'.far (grownBy_set _ _ _ _) (.inr (hown'.ne (by omega)))
        have hoBW6 := hoB'.far (grownBy_set w' w4.heap.size 1 (.slice F2 (j + 1) cF2)) (.inr (hoB'.ne (by omega)))
        rw [← hwW6] at hoBW6
        have hbW6 : Below w4.heap.size w4 W6 := by rw [hwW6]; exact hb4'.setCell (by simp) _
        have hzW6 : w4.heap.size + 1 ≤ W6.heap.size := by rw [hwW6]; simp [World.setCell]; omega
        clear hwW6 hO' hoB' hown' hb4' o0 o1 o2 o3 o4 o5 of hOwr hoF hoT hbwr
        go_wp2_with fail
        refine wp_region_held_drew (S := fun V => Below w4.heap.size w4 V) (by kernel_rfl) hbW6.drew (fun _ => ?_)
        refine tk 0 45 (h := ⟨_, tv, ?_⟩)
        simp only [pE, List.set]
        refine tk 1 46 (h := ⟨_, tv, ?_⟩)
        simp only [pE, List.set]
        refine tk 2 47 (h := ⟨_, tv, ?_⟩)
        simp only [pE, List.set]
        refine tk 3 48 (h := ⟨_, tv, ?_⟩)
        simp only [pE, List.set]
        refine tk 5 50 (h := ⟨_, tv, ?_⟩)
        simp only [pE, List.set]
        refine tk 6 51 (h := ⟨_, tv, ?_⟩)
        simp only [pE, List.set]
        refine wpAnyH_ready (rs := [4, 7]) (by kernel_rfl) (by simp) ?_
        refine AllReadyH.cons (o := _) rfl (fun K hK => ?_) (AllReadyH.cons (o := _) rfl (fun K hK => ?_) AllReadyH.nil)
        · obtain ⟨o0, o1, o2, o3, o4, o5⟩ := hOW6.six
          go_simp
          refine hK.out _ _ hbW6.drew (fun _ => ?_)
          clear hK K o0 o1 o2 o3 o4 o5
          refine wpAnyH_ready (rs := [7]) (by kernel_rfl) (by simp) ?_
          refine AllReadyH.cons (o := _) rfl (fun K hK => ?_) AllReadyH.nil
          go_simp
          with_reducible refine (HTO.out _ hbW6.drew).mono ?_
          rintro e w' ⟨rfl, rfl⟩
          go_wp2_with fail
          refine hK.out _ _ hbW6.drew (fun _ => ?_)
          clear hK K
          refine wpAnyH_ready (rs := [8]) (by kernel_rfl) (by simp) ?_
          refine AllReadyH.cons (o := _) rfl (fun K hK => ?_) AllReadyH.nil
          go_simp
          refine hK.out _ _ ((hbW6.alloc (by omega) _).drew) (fun _ => ?_)
          clear hK K
          obtain ⟨WA, hWA⟩ : ∃ WA, WA = (W6.alloc (.cells #[.int .i64 y] 3)).drew := ⟨_, rfl⟩
          rw [← hWA]
          have hbA : Below W6.heap.size W6 WA := by rw [hWA]; exact bELt
          have hrA : Rds WA 1 (some ⟨W6.heap.size, 0, none⟩) 1 (icells [y]) := by rw [hWA]; exact (Blk.new W6 3 (ints [y])).rds rfl
          clear hWA
          have hoA := hoBW6.below hbA
          have hoB := hoAW6.below hbA
          have hOA := hOW6.below hbA hOW6.lt
          have hb4A : Below w4.heap.size w4 WA := hbW6.trans (hbA.mono (by omega))
          have hszA : w4.heap.size + 1 ≤ WA.heap.size := Nat.le_trans hzW6 hbA.size
          refine wpAnyH_ready (rs := [9]) (by kernel_rfl) (by simp) ?_
          refine AllReadyH.cons (o := _) rfl (fun K hK => ?_) AllReadyH.nil
          with_reducible refine step_app' (some 54) rfl rfl (.tmp 49) (.tmp 53) 36 rfl 3 _ 1 8 infoInt Tryz.underlying36 rfl (by omega) rfl rfl hoA hrA (icells_one _) (by omega) (by omega) (by omega) ?_
          intro T2 cT2 w' hown' hg hat
          have hO' := hOA.grown hg (hoA.ne (by omega))
          have hoB' := hoB.far hg hDJ.symm.far
          have hDJ2 := hDJ.symm.next hoB hat
          have hb4' : Below w4.heap.size w4 w' := Bel.grownOwn hb4A hg (hoA.mono (by omega)) (by omega)
          have hz' := hg.size
          clear hOA hoA hoB hrA hg hat hbA hb4A
          refine hK.out _ _ hb4' (fun _ => ?_)
          clear hK K
          simp only [Act.put, List.setIfInBounds_toArray, List.set_cons_zero, List.set_cons_succ]
          refine tk 10 55 (h := ⟨_, tv, ?_⟩)
          simp only [pE, List.set]
          refine tk 11 56 (h := ⟨_, tv, ?_⟩)
          simp only [pE, List.set]
          obtain ⟨o0, o1, o2, o3, o4, o5⟩ := hO'.six
          have of := hO'.frozen 2
          refine wpAnyH_ready (rs := [12]) (by kernel_rfl) (by simp) ?_
          refine AllReadyH.cons (o := _) rfl (fun K hK => ?_) AllReadyH.nil
          go_simp
          refine hK.out _ _ (hb4'.setCell (by simp) _) (fun _ => ?_)
          clear hK K
          refine wpAnyH_done (by kernel_rfl) ?_ _
          obtain ⟨W7, hwW7⟩ : ∃ W7, W7 = w'.setCell ⟨w4.heap.size, 2, none⟩ (.slice T2 (j + 1) cT2) := ⟨_, rfl⟩
          rw [← hwW7]
          have hOW7 : Blk W7 w4.heap.size 83 #[.slice Q3 L cq3, .slice F2 (j + 1) cF2, .slice T2 (j + 1) cT2, .slice G4 L L, .slice none 0 0, .int .i64 0] := by rw [hwW7]; exact hO'.set_ 2 _
          have hoAW7 : Own W7 (w4.heap.size + 1) 3 1 T2 (j + 1) cT2 (icells ((N.ar.map (·.2.1)).take (j + 1))) := by rw [hwW7, HNT.out]; exact hown'.far (grownBy_set _ _ _ _) (.inr (hown'.ne (by omega)))
          have hoBW7 := hoB'.far (grownBy_set w' w4.heap.size 2 (.slice T2 (j + 1) cT2)) (.inr (hoB'.ne (by omega)))
          rw [← hwW7] at hoBW7
          have hbW7 : Below w4.heap.size w4 W7 := by rw [hwW7]; exact hb4'.setCell (by simp) _
          have hzW7 : w4.heap.size + 1 ≤ W7.heap.size := by rw [hwW7]; simp [World.setCell]; omega
          clear hwW7 hO' hoB' hown' hb4' o0 o1 o2 o3 o4 o5 of hOW6 hoBW6 hoAW6 hbW6
          go_wp2_with fail
          go_roundw
          case rel => exact ⟨hzW7, hbW7, j + 1, F2, cF2, T2, cT2, by omega, by go_num, hOW7, hoBW7, hoAW7, hDJ2.symm⟩
          case measure => simp [intOf]; omega
        · go_simp
          with_reducible refine (HTO.out _ hbW6.drew).mono ?_
          rintro e w' ⟨rfl, rfl⟩
          go_wp2_with fail
          refine hK.out _ _ hbW6.drew (fun _ => ?_)
          clear hK K
          refine wpAnyH_ready (rs := [4, 8]) (by kernel_rfl) (by simp) ?_
          refine AllReadyH.cons (o := _) rfl (fun K hK => ?_) (AllReadyH.cons (o := _) rfl (fun K hK => ?_) AllReadyH.nil)
          · obtain ⟨o0, o1, o2, o3, o4, o5⟩ := hOW6.six
            go_simp
            refine hK.out _ _ hbW6.drew (fun _ => ?_)
            clear hK K o0 o1 o2 o3 o4 o5
            refine wpAnyH_ready (rs := [8]) (by kernel_rfl) (by simp) ?_
            refine AllReadyH.cons (o := _) rfl (fun K hK => ?_) AllReadyH.nil
            go_simp
            refine hK.out _ _ ((hbW6.alloc (by omega) _).drew) (fun _ => ?_)
            clear hK K
            obtain ⟨WA, hWA⟩ : ∃ WA, WA = (W6.alloc (.cells #[.int .i64 y] 3)).drew := ⟨_, rfl⟩
            rw [← hWA]
            have hbA : Below W6.heap.size W6 WA := by rw [hWA]; exact bELt
            have hrA : Rds WA 1 (some ⟨W6.heap.size, 0, none⟩) 1 (icells [y]) := by rw [hWA]; exact (Blk.new W6 3 (ints [y])).rds rfl
            clear hWA
            have hoA := hoBW6.below hbA
            have hoB := hoAW6.below hbA
            have hOA := hOW6.below hbA hOW6.lt
            have hb4A : Below w4.heap.size w4 WA := hbW6.trans (hbA.mono (by omega))
            have hszA : w4.heap.size + 1 ≤ WA.heap.size := Nat.le_trans hzW6 hbA.size
            refine wpAnyH_ready (rs := [9]) (by kernel_rfl) (by simp) ?_
            refine AllReadyH.cons (o := _) rfl (fun K hK => ?_) AllReadyH.nil
            with_reducible refine step_app' (some 54) rfl rfl (.tmp 49) (.tmp 53) 36 rfl 3 _ 1 8 infoInt Tryz.underlying36 rfl (by omega) rfl rfl hoA hrA (icells_one _) (by omega) (by omega) (by omega) ?_
            intro T2 cT2 w' hown' hg hat
            have hO' := hOA.grown hg (hoA.ne (by omega))
            have hoB' := hoB.far hg hDJ.symm.far
            have hDJ2 := hDJ.symm.next hoB hat
            have hb4' : Below w4.heap.size w4 w' := Bel.grownOwn hb4A hg (hoA.mono (by omega)) (by omega)
            have hz' := hg.size
            clear hOA hoA hoB hrA hg hat hbA hb4A
            refine hK.out _ _ hb4' (fun _ => ?_)
            clear hK K
            simp only [Act.put, List.setIfInBounds_toArray, List.set_cons_zero, List.set_cons_succ]
            refine tk 10 55 (h := ⟨_, tv, ?_⟩)
            simp only [pE, List.set]
            refine tk 11 56 (h := ⟨_, tv, ?_⟩)
            simp only [pE, List.set]
            obtain ⟨o0, o1, o2, o3, o4, o5⟩ := hO'.six
            have of := hO'.frozen 2
            refine wpAnyH_ready (rs := [12]) (by kernel_rfl) (by simp) ?_
            refine AllReadyH.cons (o := _) rfl (fun K hK => ?_) AllReadyH.nil
            go_simp
            refine hK.out _ _ (hb4'.setCell (by simp) _) (fun _ => ?_)
            clear hK K
            refine wpAnyH_done (by kernel_rfl) ?_ _
            obtain ⟨W7, hwW7⟩ : ∃ W7, W7 = w'.setCell ⟨w4.heap.size, 2, none⟩ (.slice T2 (j + 1) cT2) := ⟨_, rfl⟩
            rw [← hwW7]
            have hOW7 : Blk W7 w4.heap.size 83 #[.slice Q3 L cq3, .slice F2 (j + 1) cF2, .slice T2 (j + 1) cT2, .slice G4 L L, .slice none 0 0, .int .i64 0] := by rw [hwW7]; exact hO'.set_ 2 _
            have hoAW7 : Own W7 (w4.heap.size + 1) 3 1 T2 (j + 1) cT2 (icells ((N.ar.map (·.2.1)).take (j + 1))) := by rw [hwW7, HNT.out]; exact hown'.far (grownBy_set _ _ _ _) (.inr (hown'.ne (by omega)))
            have hoBW7 := hoB'.far (grownBy_set w' w4.heap.size 2 (.slice T2 (j + 1) cT2)) (.inr (hoB'.ne (by omega)))
            rw [← hwW7] at hoBW7
            have hbW7 : Below w4.heap.size w4 W7 := by rw [hwW7]; exact hb4'.setCell (by simp) _
            have hzW7 : w4.heap.size + 1 ≤ W7.heap.size := by rw [hwW7]; simp [World.setCell]; omega
            clear hwW7 hO' hoB' hown' hb4' o0 o1 o2 o3 o4 o5 of hOW6 hoBW6 hoAW6 hbW6
            go_wp2_with fail
            go_roundw
            case rel => exact ⟨hzW7, hbW7, j + 1, F2, cF2, T2, cT2, by omega, by go_num, hOW7, hoBW7, hoAW7, hDJ2.symm⟩
            case measure => simp [intOf]; omega
          · go_simp
            refine hK.out _ _ ((hbW6.alloc (by omega) _).drew) (fun _ => ?_)
            clear hK K
            have o1 := fun ob => (hOW6.alloc ob).six.2.1
            have o2 := fun ob => (hOW6.alloc ob).six.2.2.1
            refine wpAnyH_ready (rs := [4]) (by kernel_rfl) (by simp) ?_
            refine AllReadyH.cons (o := _) rfl (fun K hK => ?_) AllReadyH.nil
            go_simp
            refine hK.out _ _ ((hbW6.alloc (by omega) _).drew) (fun _ => ?_)
            clear hK K o1 o2
            obtain ⟨WA, hWA⟩ : ∃ WA, WA = (W6.alloc (.cells #[.int .i64 y] 3)).drew := ⟨_, rfl⟩
            rw [← hWA]
            have hbA : Below W6.heap.size W6 WA := by rw [hWA]; exact bELt
            have hrA : Rds WA 1 (some ⟨W6.heap.size, 0, none⟩) 1 (icells [y]) := by rw [hWA]; exact (Blk.new W6 3 (ints [y])).rds rfl
            clear hWA
            have hoA := hoBW6.below hbA
            have hoB := hoAW6.below hbA
            have hOA := hOW6.below hbA hOW6.lt
            have hb4A : Below w4.heap.size w4 WA := hbW6.trans (hbA.mono (by omega))
            have hszA : w4.heap.size + 1 ≤ WA.heap.size := Nat.le_trans hzW6 hbA.size
            refine wpAnyH_ready (rs := [9]) (by kernel_rfl) (by simp) ?_
            refine AllReadyH.cons (o := _) rfl (fun K hK => ?_) AllReadyH.nil
            with_reducible refine step_app' (some 54) rfl rfl (.tmp 49) (.tmp 53) 36 rfl 3 _ 1 8 infoInt Tryz.underlying36 rfl (by omega) rfl rfl hoA hrA (icells_one _) (by omega) (by omega) (by omega) ?_
            intro T2 cT2 w' hown' hg hat
            have hO' := hOA.grown hg (hoA.ne (by omega))
            have hoB' := hoB.far hg hDJ.symm.far
            have hDJ2 := hDJ.symm.next hoB hat
            have hb4' : Below w4.heap.size w4 w' := Bel.grownOwn hb4A hg (hoA.mono (by omega)) (by omega)
            have hz' := hg.size
            clear hOA hoA hoB hrA hg hat hbA hb4A
            refine hK.out _ _ hb4' (fun _ => ?_)
            clear hK K
            simp only [Act.put, List.setIfInBounds_toArray, List.set_cons_zero, List.set_cons_succ]
            refine tk 10 55 (h := ⟨_, tv, ?_⟩)
            simp only [pE, List.set]
            refine tk 11 56 (h := ⟨_, tv, ?_⟩)
            simp only [pE, List.set]
            obtain ⟨o0, o1, o2, o3, o4, o5⟩ := hO'.six
            have of := hO'.frozen 2
            refine wpAnyH_ready (rs := [12]) (by kernel_rfl) (by simp) ?_
            refine AllReadyH.cons (o := _) rfl (fun K hK => ?_) AllReadyH.nil
            go_simp
            refine hK.out _ _ (hb4'.setCell (by simp) _) (fun _ => ?_)
            clear hK K
            refine wpAnyH_done (by kernel_rfl) ?_ _
            obtain ⟨W7, hwW7⟩ : ∃ W7, W7 = w'.setCell ⟨w4.heap.size, 2, none⟩ (.slice T2 (j + 1) cT2) := ⟨_, rfl⟩
            rw [← hwW7]
            have hOW7 : Blk W7 w4.heap.size 83 #[.slice Q3 L cq3, .slice F2 (j + 1) cF2, .slice T2 (j + 1) cT2, .slice G4 L L, .slice none 0 0, .int .i64 0] := by rw [hwW7]; exact hO'.set_ 2 _
            have hoAW7 : Own W7 (w4.heap.size + 1) 3 1 T2 (j + 1) cT2 (icells ((N.ar.map (·.2.1)).take (j + 1))) := by rw [hwW7, HNT.out]; exact hown'.far (grownBy_set _ _ _ _) (.inr (hown'.ne (by omega)))
            have hoBW7 := hoB'.far (grownBy_set w' w4.heap.size 2 (.slice T2 (j + 1) cT2)) (.inr (hoB'.ne (by omega)))
            rw [← hwW7] at hoBW7
            have hbW7 : Below w4.heap.size w4 W7 := by rw [hwW7]; exact hb4'.setCell (by simp) _
            have hzW7 : w4.heap.size + 1 ≤ W7.heap.size := by rw [hwW7]; simp [World.setCell]; omega
            clear hwW7 hO' hoB' hown' hb4' o0 o1 o2 o3 o4 o5 of hOW6 hoBW6 hoAW6 hbW6
            go_wp2_with fail
            go_roundw
            case rel => exact ⟨hzW7, hbW7, j + 1, F2, cF2, T2, cT2, by omega, by go_num, hOW7, hoBW7, hoAW7, hDJ2.symm⟩
            case measure => simp [intOf]; omega
      · go_simp
        refine hK.out _ _ ((hbwr.alloc (by omega) _).drew) (fun _ => ?_)
        clear hK K
        have o1 := fun ob => (hOwr.alloc ob).six.2.1
        have o2 := fun ob => (hOwr.alloc ob).six.2.2.1
        refine wpAnyH_ready (rs := [4]) (by kernel_rfl) (by simp) ?_
        refine AllReadyH.cons (o := _) rfl (fun K hK => ?_) AllReadyH.nil
        go_simp
        refine hK.out _ _ ((hbwr.alloc (by omega) _).drew) (fun _ => ?_)
        clear hK K o1 o2
        obtain ⟨WA, hWA⟩ : ∃ WA, WA = (wr.alloc (.cells #[.int .i64 x] 3)).drew := ⟨_, rfl⟩
        rw [← hWA]
        have hbA : Below wr.heap.size wr WA := by rw [hWA]; exact bELt
        have hrA : Rds WA 1 (some ⟨wr.heap.size, 0, none⟩) 1 (icells [x]) := by rw [hWA]; exact (Blk.new wr 3 (ints [x])).rds rfl
        clear hWA
        have hoA := hoF.below hbA
        have hoB := hoT.below hbA
        have hOA := hOwr.below hbA hOwr.lt
        have hb4A : Below w4.heap.size w4 WA := hbwr.trans (hbA.mono (by omega))
        have hszA : w4.heap.size + 1 ≤ WA.heap.size := Nat.le_trans hzwr hbA.size
        refine wpAnyH_ready (rs := [9]) (by kernel_rfl) (by simp) ?_
        refine AllReadyH.cons (o := _) rfl (fun K hK => ?_) AllReadyH.nil
        with_reducible refine step_app' (some 42) rfl rfl (.tmp 37) (.tmp 41) 36 rfl 3 _ 1 8 infoInt Tryz.underlying36 rfl (by omega) rfl rfl hoA hrA (icells_one _) (by omega) (by omega) (by omega) ?_
        intro F2 cF2 w' hown' hg hat
        have hO' := hOA.grown hg (hoA.ne (by omega))
        have hoB' := hoB.far hg hdj.far
        have hDJ := hdj.next hoB hat
        have hb4' : Below w4.heap.size w4 w' := Bel.grownOwn hb4A hg (hoA.mono (by omega)) (by omega)
        have hz' := hg.size
        clear hOA hoA hoB hrA hg hat hbA hb4A
        refine hK.out _ _ hb4' (fun _ => ?_)
        clear hK K
        simp only [Act.put, List.setIfInBounds_toArray, List.set_cons_zero, List.set_cons_succ]
        refine tk 10 43 (h := ⟨_, tv, ?_⟩)
        simp only [pE, List.set]
        refine tk 11 44 (h := ⟨_, tv, ?_⟩)
        simp only [pE, List.set]
        obtain ⟨o0, o1, o2, o3, o4, o5⟩ := hO'.six
        have of := hO'.frozen 1
        refine wpAnyH_ready (rs := [12]) (by kernel_rfl) (by simp) ?_
        refine AllReadyH.cons (o := _) rfl (fun K hK => ?_) AllReadyH.nil
        go_simp
        refine hK.out _ _ (hb4'.setCell (by simp) _) (fun _ => ?_)
        clear hK K
        refine wpAnyH_done (by kernel_rfl) ?_ _
        obtain ⟨W6, hwW6⟩ : ∃ W6, W6 = w'.setCell ⟨w4.heap.size, 1, none⟩ (.slice F2 (j + 1) cF2) := ⟨_, rfl⟩
        rw [← hwW6]
        have hOW6 : Blk W6 w4.heap.size 83 #[.slice Q3 L cq3, .slice F2 (j + 1) cF2, .slice T j cT, .slice G4 L L, .slice none 0 0, .int .i64 0] := by rw [hwW6]; exact hO'.set_ 1 _
        have hoAW6 : Own W6 (w4.heap.size + 1) 3 1 F2 (j + 1) cF2 (icells ((N.ar.map (·.1)).take (j + 1))) := by rw [hwW6, HNF.out]; exact hown'.far (grownBy_set _ _ _ _) (.inr (hown'.ne (by omega)))
        have hoBW6 := hoB'.far (grownBy_set w' w4.heap.size 1 (.slice F2 (j + 1) cF2)) (.inr (hoB'.ne (by omega)))
        rw [← hwW6] at hoBW6
        have hbW6 : Below w4.heap.size w4 W6 := by rw [hwW6]; exact hb4'.setCell (by simp) _
        have hzW6 : w4.heap.size + 1 ≤ W6.heap.size := by rw [hwW6]; simp [World.setCell]; omega
        clear hwW6 hO' hoB' hown' hb4' o0 o1 o2 o3 o4 o5 of hOwr hoF hoT hbwr
        go_wp2_with fail
        refine wp_region_held_drew (S := fun V => Below w4.heap.size w4 V) (by kernel_rfl) hbW6.drew (fun _ => ?_)
        refine tk 0 45 (h := ⟨_, tv, ?_⟩)
        simp only [pE, List.set]
        refine tk 1 46 (h := ⟨_, tv, ?_⟩)
        simp only [pE, List.set]
        refine tk 2 47 (h := ⟨_, tv, ?_⟩)
        simp only [pE, List.set]
        refine tk 3 48 (h := ⟨_, tv, ?_⟩)
        simp only [pE, List.set]
        refine tk 5 50 (h := ⟨_, tv, ?_⟩)
        simp only [pE, List.set]
        refine tk 6 51 (h := ⟨_, tv, ?_⟩)
        simp only [pE, List.set]
        refine wpAnyH_ready (rs := [4, 7]) (by kernel_rfl) (by simp) ?_
        refine AllReadyH.cons (o := _) rfl (fun K hK => ?_) (AllReadyH.cons (o := _) rfl (fun K hK => ?_) AllReadyH.nil)
        · obtain ⟨o0, o1, o2, o3, o4, o5⟩ := hOW6.six
          go_simp
          refine hK.out _ _ hbW6.drew (fun _ => ?_)
          clear hK K o0 o1 o2 o3 o4 o5
          refine wpAnyH_ready (rs := [7]) (by kernel_rfl) (by simp) ?_
          refine AllReadyH.cons (o := _) rfl (fun K hK => ?_) AllReadyH.nil
          go_simp
          with_reducible refine (HTO.out _ hbW6.drew).mono ?_
          rintro e w' ⟨rfl, rfl⟩
          go_wp2_with fail
          refine hK.out _ _ hbW6.drew (fun _ => ?_)
          clear hK K
          refine wpAnyH_ready (rs := [8]) (by kernel_rfl) (by simp) ?_
          refine AllReadyH.cons (o := _) rfl (fun K hK => ?_) AllReadyH.nil
          go_simp
          refine hK.out _ _ ((hbW6.alloc (by omega) _).drew) (fun _ => ?_)
          clear hK K
          obtain ⟨WA, hWA⟩ : ∃ WA, WA = (W6.alloc (.cells #[.int .i64 y] 3)).drew := ⟨_, rfl⟩
          rw [← hWA]
          have hbA : Below W6.heap.size W6 WA := by rw [hWA]; exact bELt
          have hrA : Rds WA 1 (some ⟨W6.heap.size, 0, none⟩) 1 (icells [y]) := by rw [hWA]; exact (Blk.new W6 3 (ints [y])).rds rfl
          clear hWA
          have hoA := hoBW6.below hbA
          have hoB := hoAW6.below hbA
          have hOA := hOW6.below hbA hOW6.lt
          have hb4A : Below w4.heap.size w4 WA := hbW6.trans (hbA.mono (by omega))
          have hszA : w4.heap.size + 1 ≤ WA.heap.size := Nat.le_trans hzW6 hbA.size
          refine wpAnyH_ready (rs := [9]) (by kernel_rfl) (by simp) ?_
          refine AllReadyH.cons (o := _) rfl (fun K hK => ?_) AllReadyH.nil
          with_reducible refine step_app' (some 54) rfl rfl (.tmp 49) (.tmp 53) 36 rfl 3 _ 1 8 infoInt Tryz.underlying36 rfl (by omega) rfl rfl hoA hrA (icells_one _) (by omega) (by omega) (by omega) ?_
          intro T2 cT2 w' hown' hg hat
          have hO' := hOA.grown hg (hoA.ne (by omega))
          have hoB' := hoB.far hg hDJ.symm.far
          have hDJ2 := hDJ.symm.next hoB hat
          have hb4' : Below w4.heap.size w4 w' := Bel.grownOwn hb4A hg (hoA.mono (by omega)) (by omega)
          have hz' := hg.size
          clear hOA hoA hoB hrA hg hat hbA hb4A
          refine hK.out _ _ hb4' (fun _ => ?_)
          clear hK K
          simp only [Act.put, List.setIfInBounds_toArray, List.set_cons_zero, List.set_cons_succ]
          refine tk 10 55 (h := ⟨_, tv, ?_⟩)
          simp only [pE, List.set]
          refine tk 11 56 (h := ⟨_, tv, ?_⟩)
          simp only [pE, List.set]
          obtain ⟨o0, o1, o2, o3, o4, o5⟩ := hO'.six
          have of := hO'.frozen 2
          refine wpAnyH_ready (rs := [12]) (by kernel_rfl) (by simp) ?_
          refine AllReadyH.cons (o := _) rfl (fun K hK => ?_) AllReadyH.nil
          go_simp
          refine hK.out _ _ (hb4'.setCell (by simp) _) (fun _ => ?_)
          clear hK K
          refine wpAnyH_done (by kernel_rfl) ?_ _
          obtain ⟨W7, hwW7⟩ : ∃ W7, W7 = w'.setCell ⟨w4.heap.size, 2, none⟩ (.slice T2 (j + 1) cT2) := ⟨_, rfl⟩
          rw [← hwW7]
          have hOW7 : Blk W7 w4.heap.size 83 #[.slice Q3 L cq3, .slice F2 (j + 1) cF2, .slice T2 (j + 1) cT2, .slice G4 L L, .slice none 0 0, .int .i64 0] := by rw [hwW7]; exact hO'.set_ 2 _
          have hoAW7 : Own W7 (w4.heap.size + 1) 3 1 T2 (j + 1) cT2 (icells ((N.ar.map (·.2.1)).take (j + 1))) := by rw [hwW7, HNT.out]; exact hown'.far (grownBy_set _ _ _ _) (.inr (hown'.ne (by omega)))
          have hoBW7 := hoB'.far (grownBy_set w' w4.heap.size 2 (.slice T2 (j + 1) cT2)) (.inr (hoB'.ne (by omega)))
          rw [← hwW7] at hoBW7
          have hbW7 : Below w4.heap.size w4 W7 := by rw [hwW7]; exact hb4'.setCell (by simp) _
          have hzW7 : w4.heap.size + 1 ≤ W7.heap.size := by rw [hwW7]; simp [World.setCell]; omega
          clear hwW7 hO' hoB' hown' hb4' o0 o1 o2 o3 o4 o5 of hOW6 hoBW6 hoAW6 hbW6
          go_wp2_with fail
          go_roundw
          case rel => exact ⟨hzW7, hbW7, j + 1, F2, cF2, T2, cT2, by omega, by go_num, hOW7, hoBW7, hoAW7, hDJ2.symm⟩
          case measure => simp [intOf]; omega
        · go_simp
          with_reducible refine (HTO.out _ hbW6.drew).mono ?_
          rintro e w' ⟨rfl, rfl⟩
          go_wp2_with fail
          refine hK.out _ _ hbW6.drew (fun _ => ?_)
          clear hK K
          refine wpAnyH_ready (rs := [4, 8]) (by kernel_rfl) (by simp) ?_
          refine AllReadyH.cons (o := _) rfl (fun K hK => ?_) (AllReadyH.cons (o := _) rfl (fun K hK => ?_) AllReadyH.nil)
          · obtain ⟨o0, o1, o2, o3, o4, o5⟩ := hOW6.six
            go_simp
            refine hK.out _ _ hbW6.drew (fun _ => ?_)
            clear hK K o0 o1 o2 o3 o4 o5
            refine wpAnyH_ready (rs := [8]) (by kernel_rfl) (by simp) ?_
            refine AllReadyH.cons (o := _) rfl (fun K hK => ?_) AllReadyH.nil
            go_simp
            refine hK.out _ _ ((hbW6.alloc (by omega) _).drew) (fun _ => ?_)
            clear hK K
            obtain ⟨WA, hWA⟩ : ∃ WA, WA = (W6.alloc (.cells #[.int .i64 y] 3)).drew := ⟨_, rfl⟩
            rw [← hWA]
            have hbA : Below W6.heap.size W6 WA := by rw [hWA]; exact bELt
            have hrA : Rds WA 1 (some ⟨W6.heap.size, 0, none⟩) 1 (icells [y]) := by rw [hWA]; exact (Blk.new W6 3 (ints [y])).rds rfl
            clear hWA
            have hoA := hoBW6.below hbA
            have hoB := hoAW6.below hbA
            have hOA := hOW6.below hbA hOW6.lt
            have hb4A : Below w4.heap.size w4 WA := hbW6.trans (hbA.mono (by omega))
            have hszA : w4.heap.size + 1 ≤ WA.heap.size := Nat.le_trans hzW6 hbA.size
            refine wpAnyH_ready (rs := [9]) (by kernel_rfl) (by simp) ?_
            refine AllReadyH.cons (o := _) rfl (fun K hK => ?_) AllReadyH.nil
            with_reducible refine step_app' (some 54) rfl rfl (.tmp 49) (.tmp 53) 36 rfl 3 _ 1 8 infoInt Tryz.underlying36 rfl (by omega) rfl rfl hoA hrA (icells_one _) (by omega) (by omega) (by omega) ?_
            intro T2 cT2 w' hown' hg hat
            have hO' := hOA.grown hg (hoA.ne (by omega))
            have hoB' := hoB.far hg hDJ.symm.far
            have hDJ2 := hDJ.symm.next hoB hat
            have hb4' : Below w4.heap.size w4 w' := Bel.grownOwn hb4A hg (hoA.mono (by omega)) (by omega)
            have hz' := hg.size
            clear hOA hoA hoB hrA hg hat hbA hb4A
            refine hK.out _ _ hb4' (fun _ => ?_)
            clear hK K
            simp only [Act.put, List.setIfInBounds_toArray, List.set_cons_zero, List.set_cons_succ]
            refine tk 10 55 (h := ⟨_, tv, ?_⟩)
            simp only [pE, List.set]
            refine tk 11 56 (h := ⟨_, tv, ?_⟩)
            simp only [pE, List.set]
            obtain ⟨o0, o1, o2, o3, o4, o5⟩ := hO'.six
            have of := hO'.frozen 2
            refine wpAnyH_ready (rs := [12]) (by kernel_rfl) (by simp) ?_
            refine AllReadyH.cons (o := _) rfl (fun K hK => ?_) AllReadyH.nil
            go_simp
            refine hK.out _ _ (hb4'.setCell (by simp) _) (fun _ => ?_)
            clear hK K
            refine wpAnyH_done (by kernel_rfl) ?_ _
            obtain ⟨W7, hwW7⟩ : ∃ W7, W7 = w'.setCell ⟨w4.heap.size, 2, none⟩ (.slice T2 (j + 1) cT2) := ⟨_, rfl⟩
            rw [← hwW7]
            have hOW7 : Blk W7 w4.heap.size 83 #[.slice Q3 L cq3, .slice F2 (j + 1) cF2, .slice T2 (j + 1) cT2, .slice G4 L L, .slice none 0 0, .int .i64 0] := by rw [hwW7]; exact hO'.set_ 2 _
            have hoAW7 : Own W7 (w4.heap.size + 1) 3 1 T2 (j + 1) cT2 (icells ((N.ar.map (·.2.1)).take (j + 1))) := by rw [hwW7, HNT.out]; exact hown'.far (grownBy_set _ _ _ _) (.inr (hown'.ne (by omega)))
            have hoBW7 := hoB'.far (grownBy_set w' w4.heap.size 2 (.slice T2 (j + 1) cT2)) (.inr (hoB'.ne (by omega)))
            rw [← hwW7] at hoBW7
            have hbW7 : Below w4.heap.size w4 W7 := by rw [hwW7]; exact hb4'.setCell (by simp) _
            have hzW7 : w4.heap.size + 1 ≤ W7.heap.size := by rw [hwW7]; simp [World.setCell]; omega
            clear hwW7 hO' hoB' hown' hb4' o0 o1 o2 o3 o4 o5 of hOW6 hoBW6 hoAW6 hbW6
            go_wp2_with fail
            go_roundw
            case rel => exact ⟨hzW7, hbW7, j + 1, F2, cF2, T2, cT2, by omega, by go_num, hOW7, hoBW7, hoAW7, hDJ2.symm⟩
            case measure => simp [intOf]; omega
          · go_simp
            refine hK.out _ _ ((hbW6.alloc (by omega) _).drew) (fun _ => ?_)
            clear hK K
            have o1 := fun ob => (hOW6.alloc ob).six.2.1
            have o2 := fun ob => (hOW6.alloc ob).six.2.2.1
            refine wpAnyH_ready (rs := [4]) (by kernel_rfl) (by simp) ?_
            refine AllReadyH.cons (o := _) rfl (fun K hK => ?_) AllReadyH.nil
            go_simp
            refine hK.out _ _ ((hbW6.alloc (by omega) _).drew) (fun _ => ?_)
            clear hK K o1 o2
            obtain ⟨WA, hWA⟩ : ∃ WA, WA = (W6.alloc (.cells #[.int .i64 y] 3)).drew := ⟨_, rfl⟩
            rw [← hWA]
            have hbA : Below W6.heap.size W6 WA := by rw [hWA]; exact bELt
            have hrA : Rds WA 1 (some ⟨W6.heap.size, 0, none⟩) 1 (icells [y]) := by rw [hWA]; exact (Blk.new W6 3 (ints [y])).rds rfl
            clear hWA
            have hoA := hoBW6.below hbA
            have hoB := hoAW6.below hbA
            have hOA := hOW6.below hbA hOW6.lt
            have hb4A : Below w4.heap.size w4 WA := hbW6.trans (hbA.mono (by omega))
            have hszA : w4.heap.size + 1 ≤ WA.heap.size := Nat.le_trans hzW6 hbA.size
            refine wpAnyH_ready (rs := [9]) (by kernel_rfl) (by simp) ?_
            refine AllReadyH.cons (o := _) rfl (fun K hK => ?_) AllReadyH.nil
            with_reducible refine step_app' (some 54) rfl rfl (.tmp 49) (.tmp 53) 36 rfl 3 _ 1 8 infoInt Tryz.underlying36 rfl (by omega) rfl rfl hoA hrA (icells_one _) (by omega) (by omega) (by omega) ?_
            intro T2 cT2 w' hown' hg hat
            have hO' := hOA.grown hg (hoA.ne (by omega))
            have hoB' := hoB.far hg hDJ.symm.far
            have hDJ2 := hDJ.symm.next hoB hat
            have hb4' : Below w4.heap.size w4 w' := Bel.grownOwn hb4A hg (hoA.mono (by omega)) (by omega)
            have hz' := hg.size
            clear hOA hoA hoB hrA hg hat hbA hb4A
            refine hK.out _ _ hb4' (fun _ => ?_)
            clear hK K
            simp only [Act.put, List.setIfInBounds_toArray, List.set_cons_zero, List.set_cons_succ]
            refine tk 10 55 (h := ⟨_, tv, ?_⟩)
            simp only [pE, List.set]
            refine tk 11 56 (h := ⟨_, tv, ?_⟩)
            simp only [pE, List.set]
            obtain ⟨o0, o1, o2, o3, o4, o5⟩ := hO'.six
            have of := hO'.frozen 2
            refine wpAnyH_ready (rs := [12]) (by kernel_rfl) (by simp) ?_
            refine AllReadyH.cons (o := _) rfl (fun K hK => ?_) AllReadyH.nil
            go_simp
            refine hK.out _ _ (hb4'.setCell (by simp) _) (fun _ => ?_)
            clear hK K
            refine wpAnyH_done (by kernel_rfl) ?_ _
            obtain ⟨W7, hwW7⟩ : ∃ W7, W7 = w'.setCell ⟨w4.heap.size, 2, none⟩ (.slice T2 (j + 1) cT2) := ⟨_, rfl⟩
            rw [← hwW7]
            have hOW7 : Blk W7 w4.heap.size 83 #[.slice Q3 L cq3, .slice F2 (j + 1) cF2, .slice T2 (j + 1) cT2, .slice G4 L L, .slice none 0 0, .int .i64 0] := by rw [hwW7]; exact hO'.set_ 2 _
            have hoAW7 : Own W7 (w4.heap.size + 1) 3 1 T2 (j + 1) cT2 (icells ((N.ar.map (·.2.1)).take (j + 1))) := by rw [hwW7, HNT.out]; exact hown'.far (grownBy_set _ _ _ _) (.inr (hown'.ne (by omega)))
            have hoBW7 := hoB'.far (grownBy_set w' w4.heap.size 2 (.slice T2 (j + 1) cT2)) (.inr (hoB'.ne (by omega)))
            rw [← hwW7] at hoBW7
            have hbW7 : Below w4.heap.size w4 W7 := by rw [hwW7]; exact hb4'.setCell (by simp) _
            have hzW7 : w4.heap.size + 1 ≤ W7.heap.size := by rw [hwW7]; simp [World.setCell]; omega
            clear hwW7 hO' hoB' hown' hb4' o0 o1 o2 o3 o4 o5 of hOW6 hoBW6 hoAW6 hbW6
            go_wp2_with fail
            go_roundw
            case rel => exact ⟨hzW7, hbW7, j + 1, F2, cF2, T2, cT2, by omega, by go_num, hOW7, hoBW7, hoAW7, hDJ2.symm⟩
            case measure => simp [intOf]; omega
  · obtain rfl : M = j := by omega
    rw [List.take_of_length_le (by rw [List.length_map, HML.out]; exact Nat.le_refl _)] at hoF hoT
    have HOF := Lib.hid hoF
    have HOT := Lib.hid hoT
    obtain ⟨o0, o1, o2, o3, o4, o5⟩ := hOwr.six
    obtain ⟨wo, hwo⟩ : ∃ wo, wo = wr := ⟨_, rfl⟩
    subst hwo
    have hsA0 : sumA ((gatesOf N.ar ls).take 0) = 0 := by simp [sumA]
    have HS0 := Lib.hid (show Blk wo w4.heap.size 83 #[.slice Q3 L cq3, .slice F M cF, .slice T M cT, .slice G4 L L, .slice none 0 0, .int .i64 ((sumA ((gatesOf N.ar ls).take 0) : Nat) : Int)] by rw [hsA0]; exact hOwr)
    clear hoF hoT hdj hsA0
    go_wp2_with fail
    clear o0 o1 o2 o3 o4 o5
    go_loopw [63] (fun q W => wo.heap.size ≤ W.heap.size ∧ Below w4.heap.size w4 W ∧ Kept (fun b => b ≠ w4.heap.size ∧ b < wo.heap.size) wo W ∧ ∃ (i : Nat) (S : Option Addr) (cS : Nat) (xs : List Value), i ≤ L ∧ q = .int .i64 i ∧ Blk W w4.heap.size 83 #[.slice Q3 L cq3, .slice F M cF, .slice T M cT, .slice G4 L L, .slice S i cS, .int .i64 ((sumA ((gatesOf N.ar ls).take i) : Nat) : Int)] ∧ RwL W wo.heap.size S i cS xs ((stAll (gatesOf N.ar ls)).take i)) (fun q _ => L - (intOf q).toNat)
    case atStart => exact ⟨Nat.le_refl _, hbwr, Kept.refl _ _, 0, none, 0, [], Nat.zero_le _, rfl, HS0.out, by simpa using RwL.nil _ _⟩
    case round =>
     clear hbwr hOwr HS0
     obtain ⟨hzr, hbr, hkr, i, S, cS, xs, hi, rfl, hO, hRw⟩ := hrel
     by_cases hlt2 : i < L
     · obtain ⟨row, gb, go_, Ag, ng, cg, hrow, rfl, hcg, hrc, hng, hcg2⟩ := (HG4.out.le (msk_le _ _)).at_ hlt2
       obtain ⟨l, hl, hrowl⟩ : ∃ l, ls[i]? = some l ∧ row = gateRow N.ar l := by
        unfold gatesOf at hrow
        rw [List.getElem?_map] at hrow
        cases e : ls[i]? with
        | none => rw [e] at hrow; cases hrow
        | some l => rw [e] at hrow; cases hrow; exact ⟨l, rfl, rfl⟩
       have hlo := HP.out.lvl l (List.mem_of_getElem? hl)
       have hnn : ng ≤ 4096 := by
        rw [← hrc.1, hrowl, gateRow_len]
        have := mostN_le (l := l) (n := (n : Int)) (fun x hx => hlo.hi x hx) (by omega)
        omega
       have hcg' := Below.cellOf hbr (Nat.le_refl _) hcg
       have HSB := Lib.hid (show ∀ k, sumS (row.take k) ≤ 4096 * 268435456 from fun k => by rw [hrowl]; exact sumS_le (by rw [HML.out]; exact HM.out) hlo hn4)
       have HCB := Lib.hid (show ∀ (c : Nat) (x : GateD), row[c]? = some x → x.1.length ≤ 16384 ∧ x.2.length ≤ 16384 from fun c x hx => by
        have h0 := HM.out
        rw [hrowl] at hx
        have := gate_in_le hx
        rw [HML.out] at this
        omega)
       have hsA := sumA_le (ar := N.ar) (ls := ls) (i := i) (by rw [HML.out]; exact HM.out) HP.out hn4
       have HSN := Lib.hid (sumA_next hrow)
       have HSG := Lib.hid (stAll_get hrow)
       have HRC := Lib.hid hrc
       have HRL := Lib.hid hrc.1
       generalize hss : sumA ((gatesOf N.ar ls).take i) = sA at *
       clear hss
       have hmk := run_makeI ng (by omega)
       have i1 : (0 : Int) ≤ (i : Int) := by omega
       have i2 : (i : Int) < (L : Int) := by omega
       obtain ⟨wi, hwi⟩ : ∃ wi, wi = wr := ⟨_, rfl⟩
       subst hwi
       clear hrow hcg hrc hng hlo hl hrowl
       go_wp2_with fail
       (refine wp_named ?_; intro w7 hw7)
       have hb7 : Below wi.heap.size wi w7 := by rw [hw7]; exact bELt
       have hB7 : Blk w7 wi.heap.size 3 (ints ((stRow sA row).take 0 ++ List.replicate (ng - 0) 0)) := by rw [hw7, List.take_zero, List.nil_append, Nat.sub_zero, ← zeros_int]; exact Blk.new _ _ _
       have hz7 : wi.heap.size + 1 = w7.heap.size := by rw [hw7]; simp
       clear hw7 hmk
       have hO7 := hO.below hb7 hO.lt
       have hz4i := hO.lt
       go_loopw [72] (fun q W => wi.heap.size + 1 ≤ W.heap.size ∧ Below w4.heap.size w4 W ∧ Kept (fun b => b ≠ w4.heap.size ∧ b < wi.heap.size) wi W ∧ ∃ k : Nat, k ≤ ng ∧ q = .int .i64 k ∧ Blk W w4.heap.size 83 #[.slice Q3 L cq3, .slice F M cF, .slice T M cT, .slice (some ⟨gb, go_, none⟩) L L, .slice S i cS, .int .i64 ((sA + sumS (row.take k) : Nat) : Int)] ∧ Blk W wi.heap.size 3 (ints ((stRow sA row).take k ++ List.replicate (ng - k) 0))) (fun q _ => ng - (intOf q).toNat)
       case atStart => exact ⟨by omega, hbr.trans (hb7.mono (by omega)), Kept.below hb7, 0, Nat.zero_le _, rfl, by simpa [sumS] using hO7, hB7⟩
       case round =>
        clear hB7 hO7 hz7 hb7
        obtain ⟨hzk, hbk, hkk, k, hk, rfl, hOk, hBk⟩ := hrel
        by_cases hlt3 : k < ng
        · obtain ⟨x, gb', go', A1, n1, c1, A2, n2, c2, hx, eg, cc1, hr1, cc2, hr2, _⟩ := HRC.out.at_ hlt3
          subst eg
          have hb1 := HCB.out k x hx
          have hn1 : n1 ≤ 16384 := by rw [← hr1.1]; exact hb1.1
          have hn2 : n2 ≤ 16384 := by rw [← hr2.1]; exact hb1.2
          have HSZ := Lib.hid (show sumS (row.take (k + 1)) = sumS (row.take k) + n1 * n2 by
           rw [sumS_next hx]
           unfold szG
           rw [hr1.1, hr2.1])
          have hP : n1 * n2 ≤ 268435456 := Nat.le_trans (Nat.mul_le_mul hn1 hn2) (by omega)
          have hsk := HSB.out k
          have cc1' := Below.cellOf hbk (Nat.le_refl _) cc1
          have cc2' := Below.cellOf hbk (Nat.le_refl _) cc2
          have HSTN := Lib.hid (stRow_next (s := sA) (row := row) (j := k) (by rw [HRL.out]; exact hlt3))
          rw [HRL.out] at HSTN
          obtain ⟨v0, hv0⟩ : ∃ v, ((stRow sA row).take k ++ List.replicate (ng - k) (0 : Int))[k]? = some v := ⟨_, List.getElem?_eq_getElem (by rw [List.length_append, List.length_take, stRow_len, HRL.out, List.length_replicate]; omega)⟩
          have cb := hBk.cellI hv0
          have cbf := hBk.frozen k
          have e1 : (n1 : Int) * (n2 : Int) = ((n1 * n2 : Nat) : Int) := by simp
          generalize hPP : n1 * n2 = P at *
          generalize hKK : sumS (row.take k) = K at *
          clear hPP hKK
          have HSTN2 := HSTN
          clear HSTN
          obtain ⟨Z, hZ⟩ : ∃ Z, Z = sA + K := ⟨_, rfl⟩
          rw [← hZ] at HSTN2 hOk
          have hZb : Z ≤ 7 * (4096 * 268435456) := by omega
          have HZ := Lib.hid hZ
          clear hZ
          have e2 : IntKind.i64.wrap (P : Int) = (P : Int) := IntWalk.i64_in _ (by omega)
          have e3 : IntKind.i64.wrap ((Z : Int) + (P : Int)) = (Z : Int) + (P : Int) := IntWalk.i64_in _ (by omega)
          have HB2 := Lib.hid (hBk.setI HSTN2.out)
          have j1 : (0 : Int) ≤ (k : Int) := by omega
          have j2 : (k : Int) < (ng : Int) := by omega
          obtain ⟨W8, hW8⟩ : ∃ W8, W8 = (wr.setCell ⟨wi.heap.size, k, none⟩ (.int .i64 (Z : Int))).alloc (.cells #[.slice A1 n1 c1, .slice A2 n2 c2] 38) := ⟨_, rfl⟩
          have hX8 : Blk W8 wr.heap.size 38 #[.slice A1 n1 c1, .slice A2 n2 c2] := by rw [hW8]; exact Blk.new' _ _ _ (by simp [World.setCell])
          have hO8 : Blk W8 w4.heap.size 83 #[.slice Q3 L cq3, .slice F M cF, .slice T M cT, .slice (some ⟨gb, go_, none⟩) L L, .slice S i cS, .int .i64 (Z : Int)] := by rw [hW8]; exact (hOk.far_ (by omega) _).alloc _
          have hB8 : Blk W8 wi.heap.size 3 (ints ((stRow sA row).take (k + 1) ++ List.replicate (ng - (k + 1)) 0)) := by rw [hW8]; exact HB2.out.alloc _
          have hb8 : Below w4.heap.size w4 W8 := by rw [hW8]; exact (hbk.setCell (by simp only; omega) _).alloc (by simp [World.setCell]; omega) _
          have hk8 : Kept (fun b => b ≠ w4.heap.size ∧ b < wi.heap.size) wi W8 := by
           have hset : Kept (fun b => b ≠ w4.heap.size ∧ b < wi.heap.size) wr (wr.setCell ⟨wi.heap.size, k, none⟩ (.int .i64 (Z : Int))) := Kept.set _ _ _ _ (fun hG => by omega)
           have hall : Kept (fun b => b ≠ w4.heap.size ∧ b < wi.heap.size) (wr.setCell ⟨wi.heap.size, k, none⟩ (.int .i64 (Z : Int))) W8 := by rw [hW8]; exact Kept.below ((Below.refl _ _).alloc (Nat.le_refl _) _)
           exact (hkk.trans hset (by omega)).trans hall (by simp [World.setCell]; omega)
          have hz8 : wi.heap.size + 1 ≤ W8.heap.size := by rw [hW8]; simp [World.setCell]; omega
          have HW8 := Lib.hid hW8
          have HX8 := Lib.hid hX8
          have o5a := hOk.six.2.2.2.2.2
          have zb := hBk.lt
          have zo := hOk.lt
          clear hx hr1 hr2 cc1 cc2 hW8 hOk hBk hv0 hbk hkk HB2 hX8
          go_wp2_with fail
          rw [← HW8.out]
          clear o5a zb zo
          have hX8 := HX8.out
          have hlt8 := hX8.lt
          have HSX := Lib.hid (show ∀ V, Blk V wr.heap.size 38 #[.slice A1 n1 c1, .slice A2 n2 c2] → V.cell? ⟨wr.heap.size, 0, none⟩ = some (.slice A1 n1 c1) ∧ V.cell? ⟨wr.heap.size, 1, none⟩ = some (.slice A2 n2 c2) from fun V hV => ⟨hV.two.1, hV.two.2.1⟩)
          refine wp_region_held_drew (S := fun V => Blk V wr.heap.size 38 #[.slice A1 n1 c1, .slice A2 n2 c2]) (by kernel_rfl) hX8.drew (fun _ => ?_)
          refine tk 0 84 (h := ⟨_, tv, ?_⟩)
          simp only [pE, List.set]
          refine tk 1 85 (h := ⟨_, tv, ?_⟩)
          simp only [pE, List.set]
          refine tk 2 86 (h := ⟨_, tv, ?_⟩)
          simp only [pE, List.set]
          refine tk 4 88 (h := ⟨_, tv, ?_⟩)
          simp only [pE, List.set]
          refine tk 5 89 (h := ⟨_, tv, ?_⟩)
          simp only [pE, List.set]
          refine tk 6 90 (h := ⟨_, tv, ?_⟩)
          simp only [pE, List.set]
          refine tk 7 91 (h := ⟨_, tv, ?_⟩)
          simp only [pE, List.set]
          refine tk 8 92 (h := ⟨_, tv, ?_⟩)
          simp only [pE, List.set]
          refine tk 9 93 (h := ⟨_, tv, ?_⟩)
          simp only [pE, List.set]
          refine tk 10 94 (h := ⟨_, tv, ?_⟩)
          simp only [pE, List.set]
          obtain ⟨o0, o1, o2, o3, o4, o5⟩ := hO8.six
          refine wpAnyH_ready (rs := [3]) (by kernel_rfl) (by simp) ?_
          refine AllReadyH.cons (o := _) rfl (fun K hK => ?_) AllReadyH.nil
          go_simp
          refine hK.out _ _ hX8.drew (fun _ => ?_)
          clear hK
          refine tk 11 95 (h := ⟨_, tv, ?_⟩)
          simp only [pE, List.set]
          refine tk 12 96 (h := ⟨_, tv, ?_⟩)
          simp only [pE, List.set]
          refine tk 13 97 (h := ⟨_, tv, ?_⟩)
          simp only [pE, List.set]
          have of := hO8.frozen 5
          refine wpAnyH_ready (rs := [14]) (by kernel_rfl) (by simp) ?_
          refine AllReadyH.cons (o := _) rfl (fun K hK => ?_) AllReadyH.nil
          go_simp
          refine hK.out _ _ (hX8.far_ (by omega) _) (fun _ => ?_)
          clear hK
          refine wpAnyH_done (by kernel_rfl) ?_ _
          have HO9 := Lib.hid (show Blk ((W8.setCell ⟨w4.heap.size, 5, none⟩ (.int .i64 ((Z : Int) + (P : Int)))).drew) w4.heap.size 83 #[.slice Q3 L cq3, .slice F M cF, .slice T M cT, .slice (some ⟨gb, go_, none⟩) L L, .slice S i cS, .int .i64 ((Z : Int) + (P : Int))] from hO8.set_ 5 _)
          have HB9 := Lib.hid (hB8.far_ (b := w4.heap.size) (o := 5) (by omega) (.int .i64 ((Z : Int) + (P : Int))))
          have HE9 := Lib.hid (show (((sA + sumS (row.take (k + 1)) : Nat)) : Int) = (Z : Int) + (P : Int) by have := HSZ.out; have := HZ.out; omega)
          have HK9 := Lib.hid (hk8.trans (Kept.set W8 w4.heap.size 5 (.int .i64 ((Z : Int) + (P : Int))) (fun hG => hG.1 rfl)) (by omega))
          have HL9 := Lib.hid (hb8.setCell (p := ⟨w4.heap.size, 5, none⟩) (by simp) (.int .i64 ((Z : Int) + (P : Int))))
          clear hO8 hB8 hk8 hb8 o0 o1 o2 o3 o4 o5 of hX8
          go_wp2_with fail
          go_roundw
          case rel => exact ⟨by simp [World.setCell]; omega, HL9.out.drew, HK9.out, k + 1, by omega, by go_num, by rw [HE9.out]; exact HO9.out, HB9.out⟩
          case measure => simp [intOf]; omega
        · obtain rfl : ng = k := by omega
          rw [Nat.sub_self, List.replicate_zero, List.append_nil, List.take_of_length_le (by rw [stRow_len, HRL.out]; exact Nat.le_refl _)] at hBk
          rw [List.take_of_length_le (by rw [HRL.out]; exact Nat.le_refl _)] at hOk
          have hRk := hRw.keep (by omega) (fun b h1 h2 => hkk b ⟨by omega, h2⟩ h2)
          have hSl : ∀ b, blkOf S = some b → b < wi.heap.size := fun b hb => (hRw.1.lt b hb).2
          obtain ⟨W1, hW1⟩ : ∃ W1, W1 = wr.alloc (.cells #[.slice (some ⟨wi.heap.size, 0, none⟩) ng ng] 36) := ⟨_, rfl⟩
          have hbA : Below wr.heap.size wr W1 := by rw [hW1]; exact bELt
          have hRA := hRk.below hbA
          have hOA := hOk.below hbA hOk.lt
          have hrA : Rds W1 1 (some ⟨wr.heap.size, 0, none⟩) 1 [.slice (some ⟨wi.heap.size, 0, none⟩) ng ng] := by rw [hW1]; exact (Blk.new wr 36 #[.slice (some ⟨wi.heap.size, 0, none⟩) ng ng]).rds rfl
          have hrI : RdI W1 (some ⟨wi.heap.size, 0, none⟩) ng (stRow sA row) := (hBk.below hbA hBk.lt).rdI (by rw [stRow_len]; exact HRL.out)
          have hLt := hBk.lt
          have hbA4 : Below w4.heap.size w4 W1 := hbk.trans (hbA.mono (by omega))
          have hszA : wo.heap.size ≤ W1.heap.size := by have := hbA.size; omega
          have hzA := hbA.size
          have hKA : Kept (fun b => b ≠ w4.heap.size ∧ b < wo.heap.size) wo W1 := (hkr.trans (hkk.mono (fun b hb => ⟨hb.1, by omega⟩)) (by omega)).trans ((Kept.below hbA).mono (fun b hb => hb)) (by omega)
          have hoS := hRA.1
          obtain ⟨o0, o1, o2, o3, o4, o5⟩ := hOk.six
          have zo := hOk.lt
          have HSNN := Lib.hid (show ((sumA ((gatesOf N.ar ls).take (i + 1)) : Nat) : Int) = ((sA + sumS row : Nat) : Int) by rw [HSN.out])
          have HW1 := Lib.hid hW1
          clear hBk hRk hW1 hRw hO hkk hkr hbk hbr
          go_wp2_with (at_builtin; rw [← HW1.out]; with_reducible refine wpList_app rfl (.tmp 103) (.tmp 105) 27 rfl 36 _ 1 24 infoRw Tryz.underlying27 rfl (by omega) rfl rfl hoS hrA (slice_one _ _ _) (by omega) (by omega) (by omega) ?_)
          intro A' c' w' hown' hg hat
          have hO' := hOA.grown hg (hoS.ne (by omega))
          have hb4' : Below w4.heap.size w4 w' := Bel.grownOwn hbA4 hg (hoS.mono (by omega)) (by omega)
          have hz' := hg.size
          have HR' := Lib.hid ((hRA.push hown' hg hat hrI (fun q hq => by
           have e := blk_eq hq
           subst e
           exact ⟨by omega, by omega, fun e => by have := hSl _ e; omega⟩) (Nat.le_refl _) (by omega)).far (grownBy_set w' w4.heap.size 4 (.slice A' (i + 1) c')) (by omega))
          have HK' := Lib.hid ((hKA.trans (Kept.grown hg (fun b hb e => by have := (hoS.lt b e).1; omega)) (by omega)).trans (Kept.set w' w4.heap.size 4 (.slice A' (i + 1) c') (fun hG => hG.1 rfl)) (by omega))
          have HO' := Lib.hid (show Blk (w'.setCell ⟨w4.heap.size, 4, none⟩ (.slice A' (i + 1) c')) w4.heap.size 83 #[.slice Q3 L cq3, .slice F M cF, .slice T M cT, .slice (some ⟨gb, go_, none⟩) L L, .slice A' (i + 1) c', .int .i64 ((sumA ((gatesOf N.ar ls).take (i + 1)) : Nat) : Int)] from by rw [HSNN.out]; exact hO'.set_ 4 _)
          have HL' := Lib.hid (hb4'.setCell (p := ⟨w4.heap.size, 4, none⟩) (by simp) (.slice A' (i + 1) c'))
          obtain ⟨_, _, _, _, o4', _⟩ := hO'.six
          have of' := hO'.frozen 4
          clear hRA hOA hrA hrI hbA4 hKA hoS o0 o1 o2 o3 o4 o5 hown' hg hat hO' hb4' hbA
          go_wp2_with fail
          go_roundw
          case rel => exact ⟨by simp [World.setCell]; omega, HL'.out, HK'.out, i + 1, A', c', _, by omega, by go_num, HO'.out, by rw [List.take_succ_eq_append_getElem (List.getElem?_eq_some_iff.1 HSG.out).1, (List.getElem?_eq_some_iff.1 HSG.out).2]; exact HR'.out⟩
          case measure => simp [intOf]; omega
     · obtain rfl : L = i := by omega
       have hgl : (gatesOf N.ar ls).length = L := by simp [gatesOf]; exact HT.out.1
       rw [List.take_of_length_le (by rw [stAll_len, hgl]; exact Nat.le_refl _)] at hRw
       rw [List.take_of_length_le (by rw [hgl]; exact Nat.le_refl _)] at hO
       have hz4 := hbw4.size
       have hzo := hO.lt
       have HOV := Lib.hid (show RdOv (msk wr (fun b => w.heap.size ≤ b ∧ b < wr.heap.size)) w4.heap.size N.ar ls from by
        have hk4 : Le (msk w4 (fun b => w.heap.size ≤ b ∧ b < w4.heap.size)) (msk wr (fun b => w.heap.size ≤ b ∧ b < wr.heap.size)) :=
         Le.trans (Kept.msk (W' := wr) (fun b hb _ => hbr.block b hb.2)) (msk_mono (fun b hb => ⟨hb.1, by omega⟩))
        have own : ∀ (A : Option Addr) (c : Nat) (l : List Int), Own wo (w4.heap.size + 1) 3 1 A M c (icells l) → RdI (msk wr (fun b => w.heap.size ≤ b ∧ b < wr.heap.size)) A M l := fun A c l ho =>
         (ho.rds.rdI.keepB (fun b hb => hkr b ⟨by have := (ho.lt b hb).1; omega, (ho.lt b hb).2⟩ (ho.lt b hb).2)).msk (fun b hb => ⟨by have := (ho.lt b hb).1; omega, by have := (ho.lt b hb).2; omega⟩)
        obtain ⟨o0, o1, o2, o3, o4, o5⟩ := hO.six
        have hc : ∀ {k : Nat} {v : Value}, wr.cell? ⟨w4.heap.size, k, none⟩ = some v → (msk wr (fun b => w.heap.size ≤ b ∧ b < wr.heap.size)).cell? ⟨w4.heap.size, k, none⟩ = some v := fun h => msk_cell.2 ⟨⟨by omega, by omega⟩, h⟩
        exact ⟨_, _, _, _, _, _, _, _, _, _, _, _, hc o0, hc o1, hc o2, hc o3, hc o4, hc o5, HQ4.out.le hk4, own _ _ _ HOF.out, own _ _ _ HOT.out, HG4.out.le hk4, hRw.rdM (fun b h1 h2 => ⟨by omega, h2⟩), HCQ.out⟩)
       have HBF := Lib.hid (hbw4.trans (hbr.mono (by omega)))
       clear hO hRw hbr hkr
       go_wp2_with fail
       go_ret2
       exact ⟨_, rfl, HOV.out, HBF.out⟩
end Go.Proofs.YtgkeolddpielpaaGreat
