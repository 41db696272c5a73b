/- Parts of the proof: Sc, Pn, Pw, Wh. -/
import Derived.Test.YtgkeolddpielpaaGreatM21
import Derived.Laws.MakeOwn
import Derived.Test.YtgkeolddpielpaaGreatShelf3
/- SameCosts, slices.Equal of costs. -/
namespace Go.Proofs.YtgkeolddpielpaaGreat
open Go.RowKit

attribute [local go_sem ↓] Go.wp_at_zero Go.wp_at_succ

set_option maxHeartbeats 1000000 in
theorem sameCosts_any (A B : Option Addr) (n m c d : Nat) (l l2 : List Int) (w : World) (h : RdI w A n l) (h2 : RdI w B m l2) (hn : n ≤ 1000000000) (hm : m ≤ 1000000000) :
    Calls Tryz.prog 22 #[.slice A n c, .slice B m d] w fun e w' => e = .returned (.bool (decide (l = l2))) ∧ ∃ k, w' = w.drewN k := by
  have HR := Lib.hid h
  have HR2 := Lib.hid h2
  have HL := Lib.hid h.1
  have HL2 := Lib.hid h2.1
  clear h h2
  by_cases hnm : n = m
  rotate_left
  · have e1 : ((n : Int) != (m : Int)) = true := by simp; omega
    have e2 : ((n : Int) == (m : Int)) = false := by simp; omega
    have HD := Lib.hid (show decide (l = l2) = false from decide_eq_false (fun e => hnm (by rw [← HL.out, ← HL2.out, e])))
    go_enter Tryz.func22, Tryz.ntmps22
    go_wp2_with fail
    go_ret
    exact ⟨ret_bool HD.out.symm, 0, rfl⟩
  subst hnm
  go_enter Tryz.func22, Tryz.ntmps22
  go_wp2_with fail
  go_loopw [5] (fun q W => (∃ k, W = w.drewN k) ∧ ∃ i : Nat, i ≤ n ∧ q = .int .i64 i ∧ ∀ j, j < i → l[j]? = l2[j]?) (fun q _ => n - (intOf q).toNat)
  case atStart => exact ⟨⟨0, rfl⟩, 0, Nat.zero_le _, rfl, fun _ h => absurd h (Nat.not_lt_zero _)⟩
  case round =>
    obtain ⟨hd, i, hi, rfl, hall⟩ := hrel
    have HD := Lib.hid hd
    have HA := Lib.hid hall
    clear hall
    by_cases hlt : i < n
    · obtain ⟨b, o, x, rfl, hx, hc⟩ := HR.out.at_ hlt
      obtain ⟨b', o', y, rfl, hy, hc'⟩ := HR2.out.at_ hlt
      have hc1 : wr.cell? ⟨b, o + i, none⟩ = some (.int .i64 x) := by obtain ⟨k, rfl⟩ := hd; exact hc
      have hc2 : wr.cell? ⟨b', o' + i, none⟩ = some (.int .i64 y) := by obtain ⟨k, rfl⟩ := hd; exact hc'
      have HX := Lib.hid hx
      have HY := Lib.hid hy
      have i1 : (0 : Int) ≤ (i : Int) := by omega
      have i2 : (i : Int) < (n : Int) := by omega
      clear hx hy hc hc' hd
      by_cases e : x = y
      · subst e
        go_wp2_with fail
        go_quiet (fail)
        go_wp2_with fail
        go_roundw
        case rel =>
          obtain ⟨k, e⟩ := HD.out
          refine ⟨⟨k + nq, by rw [e, World.drewN_drewN]⟩, i + 1, by omega, by go_num, fun j hj => ?_⟩
          by_cases ej : j = i
          · subst ej
            rw [HX.out, HY.out]
          · exact HA.out j (by omega)
        case measure => simp [intOf]; omega
      · have e1 : (x != y) = true := by simpa using e
        have e2 : (x == y) = false := by simpa using e
        have HN := Lib.hid (show decide (l = l2) = false from decide_eq_false (fun ee => by
          have := HX.out
          rw [ee, HY.out] at this
          exact e (Option.some.inj this).symm))
        have HE := Lib.hid e
        clear e
        go_wp2_with fail
        go_quiet (fail)
        go_wp2_with fail
        go_ret
        obtain ⟨k, e⟩ := HD.out
        exact ⟨ret_bool HN.out.symm, k + nq, by rw [e, World.drewN_drewN]⟩
    · obtain rfl : n = i := by omega
      have HE := Lib.hid (show decide (l = l2) = true from decide_eq_true (List.ext_getElem? (fun j => by
        rcases Nat.lt_or_ge j n with h | h
        · exact HA.out j h
        · rw [List.getElem?_eq_none (by rw [HL.out]; exact h), List.getElem?_eq_none (by rw [HL2.out]; exact h)])))
      clear hd
      go_wp2_with fail
      go_ret
      exact ⟨ret_bool HE.out.symm, HD.out⟩
set_option maxHeartbeats 1000000 in
theorem eqCosts_any (A B : Option Addr) (n m c d : Nat) (l l2 : List Int) (w : World) (h : RdI w A n l) (h2 : RdI w B m l2) (hn : n ≤ 1000000000) (hm : m ≤ 1000000000) :
    Calls Tryz.prog 50 #[.slice A n c, .slice B m d] w fun e w' => e = .returned (.bool (decide (l = l2))) ∧ ∃ k, w' = w.drewN k := by
  have HR := Lib.hid h
  have HR2 := Lib.hid h2
  have HL := Lib.hid h.1
  have HL2 := Lib.hid h2.1
  clear h h2
  by_cases hnm : n = m
  rotate_left
  · have e1 : ((n : Int) != (m : Int)) = true := by simp; omega
    have e2 : ((n : Int) == (m : Int)) = false := by simp; omega
    have HD := Lib.hid (show decide (l = l2) = false from decide_eq_false (fun e => hnm (by rw [← HL.out, ← HL2.out, e])))
    go_enter Tryz.func50, Tryz.ntmps50
    go_wp2_with fail
    go_ret
    exact ⟨ret_bool HD.out.symm, 0, rfl⟩
  subst hnm
  go_enter Tryz.func50, Tryz.ntmps50
  go_wp2_with fail
  go_loopw [13] (fun q W => (∃ k, W = w.drewN k) ∧ ∃ i : Nat, i ≤ n ∧ q = .int .i64 i ∧ ∀ j, j < i → l[j]? = l2[j]?) (fun q _ => n - (intOf q).toNat)
  case atStart => exact ⟨⟨0, rfl⟩, 0, Nat.zero_le _, rfl, fun _ h => absurd h (Nat.not_lt_zero _)⟩
  case round =>
    obtain ⟨hd, i, hi, rfl, hall⟩ := hrel
    have HD := Lib.hid hd
    have HA := Lib.hid hall
    clear hall
    by_cases hlt : i < n
    · obtain ⟨b, o, x, rfl, hx, hc⟩ := HR.out.at_ hlt
      obtain ⟨b', o', y, rfl, hy, hc'⟩ := HR2.out.at_ hlt
      have hc1 : wr.cell? ⟨b, o + i, none⟩ = some (.int .i64 x) := by obtain ⟨k, rfl⟩ := hd; exact hc
      have hc2 : wr.cell? ⟨b', o' + i, none⟩ = some (.int .i64 y) := by obtain ⟨k, rfl⟩ := hd; exact hc'
      have HX := Lib.hid hx
      have HY := Lib.hid hy
      have i1 : (0 : Int) ≤ (i : Int) := by omega
      have i2 : (i : Int) < (n : Int) := by omega
      clear hx hy hc hc' hd
      by_cases e : x = y
      · subst e
        go_wp2_with fail
        go_quiet (fail)
        go_wp2_with fail
        go_roundw
        case rel =>
          obtain ⟨k, e⟩ := HD.out
          refine ⟨⟨k + nq, by rw [e, World.drewN_drewN]⟩, i + 1, by omega, by go_num, fun j hj => ?_⟩
          by_cases ej : j = i
          · subst ej
            rw [HX.out, HY.out]
          · exact HA.out j (by omega)
        case measure => simp [intOf]; omega
      · have e1 : (x != y) = true := by simpa using e
        have e2 : (x == y) = false := by simpa using e
        have HN := Lib.hid (show decide (l = l2) = false from decide_eq_false (fun ee => by
          have := HX.out
          rw [ee, HY.out] at this
          exact e (Option.some.inj this).symm))
        have HE := Lib.hid e
        clear e
        go_wp2_with fail
        go_quiet (fail)
        go_wp2_with fail
        go_ret
        obtain ⟨k, e⟩ := HD.out
        exact ⟨ret_bool HN.out.symm, k + nq, by rw [e, World.drewN_drewN]⟩
    · obtain rfl : n = i := by omega
      have HE := Lib.hid (show decide (l = l2) = true from decide_eq_true (List.ext_getElem? (fun j => by
        rcases Nat.lt_or_ge j n with h | h
        · exact HA.out j h
        · rw [List.getElem?_eq_none (by rw [HL.out]; exact h), List.getElem?_eq_none (by rw [HL2.out]; exact h)])))
      clear hd
      go_wp2_with fail
      go_ret
      exact ⟨ret_bool HE.out.symm, HD.out⟩
end Go.Proofs.YtgkeolddpielpaaGreat

/- over.Part once more; fill.Right. -/
namespace Go.Proofs.YtgkeolddpielpaaGreat
open Go.RowKit

attribute [local go_sem ↓] Go.wp_at_zero Go.wp_at_succ

set_option maxHeartbeats 1000000 in
theorem oPart_msk (o : Nat) (ar : List Tri) (ls : List (List Int)) (w : World) (h : RdOv w o ar ls) (hL : ls.length ≤ 1000000) (hc : ∀ l ∈ ls, l.length ≤ 1000000) :
    Calls Tryz.prog 78 #[.pointer (some ⟨o, 0, none⟩)] w fun e w' => ∃ Q' cq', e = .returned (.agg #[.slice Q' ls.length cq']) ∧ RdT (msk w' (fun b => w.heap.size ≤ b ∧ b < w'.heap.size)) Q' ls.length ls ∧ Below w.heap.size w w' := by
  obtain ⟨Q, F, T, G, S, L, m, cq, cf, ct, cg, cs, h⟩ := h
  have h0 := h.n0
  have hl : ls.length = L := h.part.1
  rw [hl] at hL ⊢
  have HT := Lib.hid h.part
  have HC := Lib.hid hc
  have hol := lt_of_cell h0
  simp only at hol
  clear h hc hl
  go_enter Tryz.func78, Tryz.ntmps78
  go_wp2_with fail
  (refine calls_named ?_; intro w1 hw1)
  have hb1 : Below w.heap.size w w1 := by rw [hw1]; exact bELt
  have hR1 : Blk w1 w.heap.size 79 #[.slice none 0 0] := by rw [hw1]; exact bLNt
  have hz1 : w.heap.size + 1 ≤ w1.heap.size := by rw [hw1]; simp
  clear hw1
  with_reducible refine (twin_any Q L cq ls _ (HT.out.below hb1) hL HC.out).mono ?_
  rintro e w2 ⟨Q', cq', rfl, hrw, _, _, hb2⟩
  have hR2 := hR1.below hb2 hR1.lt
  have r0 := hR2.cell 0
  simp only [List.getElem?_toArray, List.getElem?_cons_zero] at r0
  have f0 := hR2.frozen 0
  have hb2' := Bel.step hb1 hb2
  have HW := Lib.hid (show RdT (msk (w2.setCell ⟨w.heap.size, 0, none⟩ (.slice Q' L cq')) (fun b => w.heap.size ≤ b ∧ b < (w2.setCell ⟨w.heap.size, 0, none⟩ (.slice Q' L cq')).heap.size)) Q' L ls from
    hrw.le ((Kept.set w2 w.heap.size 0 (.slice Q' L cq') (by omega)).msk.trans (msk_mono (fun b hb => ⟨by omega, by have := hb.2; simpa [World.setCell] using this⟩))))
  have hbe : Below w.heap.size w (w2.setCell ⟨w.heap.size, 0, none⟩ (.slice Q' L cq')) := hb2'.setCell (Nat.le_refl _) _
  clear hrw hb2 hR1 hb1 h0
  go_wp2_with fail
  refine bodyPost_ret (v := .agg #[.slice Q' L cq']) (by simp [results, Tryz.results78, go_sem, r0]) rfl ?_
  exact ⟨_, _, rfl, HW.out, hbe⟩

set_option maxHeartbeats 1000000 in
theorem right_ok (w : World) (g o : Nat) (N : NetD) (ls : List (List Int)) (hg : RdGr w g N) (hok : NetOk N) (ho : RdOv w o N.ar ls) (hP : PartOk N.vs.length ls) (hNC : sumA (gatesOf N.ar ls) ≤ 1000000000) (A : Option Addr) (n c : Nat) (l want : List Int) (hl : RdI w A n l) (hn : n ≤ 1000000000) (hw : IsAll N ls want) :
    Calls Tryz.prog 21 #[.pointer (some ⟨g, 0, none⟩), .pointer (some ⟨o, 0, none⟩), .slice A n c] w fun e w' => e = .returned (.bool (decide (l = want))) ∧ Below w.heap.size w w' := by
  have HSZ := Lib.hid (oSize_any o N.ar ls w ho)
  have HAL := Lib.hid (all_ok w g o N ls hg hok ho hP hNC)
  have HR := Lib.hid hl
  have HW := Lib.hid hw
  obtain ⟨NC, hNCe⟩ : ∃ NC, NC = sumA (gatesOf N.ar ls) := ⟨_, rfl⟩
  rw [← hNCe] at HSZ hNC
  have HNC := Lib.hid hNCe
  clear hg ho hP hl hw hNCe
  by_cases hnn : n = NC
  · have e1 : ((n : Int) == (NC : Int)) = true := by simp; omega
    have HE := Lib.hid hnn
    clear hnn
    go_enter Tryz.func21, Tryz.ntmps21
    go_wp2_with fail
    with_reducible refine HSZ.out.mono ?_
    rintro e w' ⟨rfl, rfl⟩
    go_wp2_with fail
    with_reducible refine HAL.out.mono ?_
    rintro e w2 ⟨B, cl, rfl, hB, hblk, hcl, _, hdo, hb2⟩
    have HALL := Lib.hid (hdo.all hcl)
    have HEQ := Lib.hid (eqCosts_any A (some ⟨B, 0, none⟩) n (sumA (gatesOf N.ar ls)) c (sumA (gatesOf N.ar ls)) l cl w2 (HR.out.below hb2) (hblk.rdI hcl) hn (by rw [← HNC.out]; exact hNC))
    clear hB hblk hcl hdo HAL HSZ
    go_wp2_with fail
    with_reducible refine HEQ.out.mono ?_
    rintro e w3 ⟨rfl, kk, rfl⟩
    rw [HALL.out.uniq HW.out]
    go_wp2_with fail
    go_ret
    exact ⟨rfl, bELt⟩
  · have e1 : ((n : Int) == (NC : Int)) = false := by simp; omega
    have HE := Lib.hid (show decide (l = want) = false from decide_eq_false (fun e => hnn (by rw [← HR.out.1, e, HW.out.len, HNC.out])))
    clear hnn
    go_enter Tryz.func21, Tryz.ntmps21
    go_wp2_with fail
    with_reducible refine HSZ.out.mono ?_
    rintro e w' ⟨rfl, rfl⟩
    go_wp2_with fail
    go_ret
    exact ⟨ret_bool HE.out.symm, Below.refl _ _⟩
end Go.Proofs.YtgkeolddpielpaaGreat

/- fill.Plain, walked. -/
namespace Go.Proofs.YtgkeolddpielpaaGreat
open Go.RowKit

attribute [local go_sem ↓] Go.wp_at_zero Go.wp_at_succ

theorem infoI64' : (Tryz.prog.info? 2).map (fun i => (i.zero, i.size, i.bytes)) = some (some (.int .i64 0), 1, 8) := infoI64
theorem run_make0 (n : Nat) (hn : n ≤ 1000000000) (W : World) : (Instr.makeSlice 44 (.int .i64 0) (.int .i64 (n : Int))).run Tryz.prog W = .ok (.slice (some ⟨W.heap.size, 0, none⟩) 0 n) (W.alloc (.cells (zeros (.int .i64 0) n) 2)) := by
  obtain ⟨i, hi, hz, hs, hbb⟩ := info_parts infoI64
  have hb' : (i.bytes : Int) * (n : Int) ≤ 281474976710656 := by rw [hbb]; omega
  have hr := run_make (P := Tryz.prog) W 44 2 i (.int .i64 0) Tryz.underlying44 hi hz .i64 .i64 0 n (Int.le_refl _) (by omega) hb' (by omega)
  simp only [Int.toNat_natCast, Int.toNat_zero] at hr
  have hm : madeCells (Value.int .i64 0).cells (n * i.size) = zeros (.int .i64 0) n := by
    rw [hs, Nat.mul_one, show (Value.int .i64 0).cells = #[.int .i64 0] from rfl]
    apply Array.ext'
    rw [toList_madeCells_one]
    simp [zeros]
  rw [hm] at hr
  exact hr
theorem own_make0 (W : World) (B n : Nat) (hB : B ≤ W.heap.size) (hn : n ≤ 1000000000) : Own (W.alloc (.cells (zeros (.int .i64 0) n) 2)) B 2 1 (some ⟨W.heap.size, 0, none⟩) 0 n (icells []) :=
  World.ownsRow_made W _ n hB (by unfold maxLen; omega) (by simp [zeros])

/-- A row of costs under way; what is read meanwhile lies in F. -/
structure PlV (w v : World) (F : Nat → Prop) (N : NetD) (ls : List (List Int)) (V : World) (A : Option Addr) (cp : Nat) (cl : List Int) : Prop where
  kept : Kept F v V
  size : v.heap.size ≤ V.heap.size
  bel : Below w.heap.size w V
  own : Own V w.heap.size 2 1 A cl.length cp (icells cl)
  dj : ∀ b, F b → b < v.heap.size ∧ blkOf A ≠ some b
  row : RowE N ls cl
section
variable {w v V V' : World} {F : Nat → Prop} {N : NetD} {ls : List (List Int)} {A : Option Addr} {cp : Nat} {cl : List Int}
theorem PlV.below (h : PlV w v F N ls V A cp cl) (hb : Below V.heap.size V V') : PlV w v F N ls V' A cp cl :=
  ⟨h.kept.trans (Kept.below hb) h.size, Nat.le_trans h.size hb.size, Bel.step h.bel hb, h.own.below hb, h.dj, h.row⟩
theorem PlV.le (h : PlV w v F N ls V A cp cl) : Le (msk v F) V := h.kept.msk.trans (msk_le _ _)
theorem PlV.inner (h : PlV w v F N ls V A cp cl) : PlV w V (fun b => b < V.heap.size ∧ blkOf A ≠ some b) N ls V A cp cl :=
  ⟨Kept.refl _ _, Nat.le_refl _, h.bel, h.own, fun _ hb => hb, h.row⟩
theorem PlV.outer {A' : Option Addr} {cp' : Nat} {cl' : List Int} (h : PlV w v F N ls V A cp cl) (g : PlV w V (fun b => b < V.heap.size ∧ blkOf A ≠ some b) N ls V' A' cp' cl') : PlV w v F N ls V' A' cp' cl' := by
  have hF : ∀ b, F b → b < V.heap.size ∧ blkOf A ≠ some b := fun b hb => ⟨by have := (h.dj b hb).1; have := h.size; omega, (h.dj b hb).2⟩
  exact ⟨h.kept.trans (g.kept.mono hF) h.size, Nat.le_trans h.size g.size, g.bel, g.own, fun b hb => ⟨(h.dj b hb).1, (g.dj b (hF b hb)).2⟩, g.row⟩
theorem PlV.push {A' : Option Addr} {cp' : Nat} {u : Int} (h : PlV w v F N ls V A cp cl) (ho : Own V' w.heap.size 2 1 A' (cl.length + 1) cp' (icells cl ++ icells [u])) (hg : V.grownBy V' (blkOf A)) (hat : blkOf A' = blkOf A ∨ blkOf A' = some V.heap.size) (he : EntV N ls cl.length u) :
    PlV w v F N ls V' A' cp' (cl ++ [u]) := by
  refine ⟨h.kept.trans (Kept.grown hg (fun b hb => (h.dj b hb).2)) h.size, Nat.le_trans h.size hg.size, ?_, by rw [icells_app, List.length_append]; exact ho, fun b hb => ⟨(h.dj b hb).1, ?_⟩, h.row.push he⟩
  · refine ⟨hg.os.trans h.bel.os, hg.tape.trans h.bel.tape, hg.output.trans h.bel.output, Nat.le_trans h.bel.size hg.size, fun k hk => ?_⟩
    rw [hg.block k (by have := h.bel.size; omega) (fun e => by have := (h.own.lt k e.symm).1; omega), h.bel.block k hk]
  · rcases hat with e | e
    · rw [e]; exact (h.dj b hb).2
    · rw [e]; intro e2; cases e2; have := (h.dj _ hb).1; have := h.size; omega
end
set_option maxHeartbeats 4000000 in
theorem plain_ok (w : World) (g o : Nat) (N : NetD) (ls : List (List Int)) (hg : RdGr w g N) (hok : NetOk N) (ho : RdOv w o N.ar ls) (hP : PartOk N.vs.length ls) (hNC : sumA (gatesOf N.ar ls) ≤ 1000000000) :
    Calls Tryz.prog 44 #[.pointer (some ⟨g, 0, none⟩), .pointer (some ⟨o, 0, none⟩)] w fun e w' => ∃ A c cl, e = .returned (.slice A cl.length c) ∧ RdI w' A cl.length cl ∧ IsAll N ls cl ∧ Below w.heap.size w w' := by
  have hL6 : ls.length ≤ 6 := hP.l6
  have hlv := hok.lv
  have hla := hok.la
  have HG := Lib.hid hg
  have HO := Lib.hid ho
  have HP := Lib.hid hP
  obtain ⟨NC, hNCe⟩ : ∃ NC, NC = sumA (gatesOf N.ar ls) := ⟨_, rfl⟩
  have HSZ := Lib.hid (oSize_any o N.ar ls w ho)
  rw [← hNCe] at HSZ hNC
  have HNC := Lib.hid hNCe
  obtain ⟨L, hL⟩ : ∃ L, L = ls.length := ⟨_, rfl⟩
  have HL := Lib.hid hL
  rw [← hL] at hL6
  have hmk := run_make0 NC (by omega)
  clear hg ho hP hNCe hL
  go_enter Tryz.func44, Tryz.ntmps44
  go_wp2_with fail
  with_reducible refine HSZ.out.mono ?_
  rintro e w' ⟨rfl, rfl⟩
  go_wp2_with fail
  (refine calls_named ?_; intro w1 hw1)
  have hb1 : Below w.heap.size w w1 := by rw [hw1]; exact bELt
  have hO1 : Own w1 w.heap.size 2 1 (some ⟨w.heap.size, 0, none⟩) 0 NC (icells []) := by rw [hw1]; exact own_make0 _ _ _ (Nat.le_refl _) (by omega)
  clear hw1 hmk HSZ
  have HPT := Lib.hid (oPart_msk o N.ar ls w1 (HO.out.below hb1) (by rw [← HL.out]; omega) (fun l hl => by have := (HP.out.lvl l hl).len; omega))
  rw [← HL.out] at HPT
  with_reducible refine HPT.out.mono ?_
  rintro e w2 ⟨Q, cq, rfl, hT, hb2⟩
  have HT2 := Lib.hid hT
  have HO2 := Lib.hid (hO1.below hb2)
  have HB2 := Lib.hid (Bel.step hb1 hb2)
  have hb2s := hb2.size
  have HB12 := Lib.hid hb2
  have hq1 : w.heap.size < w1.heap.size := (hO1.lt _ rfl).2
  clear hT hO1 hb1 hb2 HPT
  go_wp2_with fail
  (refine wp_named ?_; intro v1 hv1)
  have hbv : Below w2.heap.size w2 v1 := by rw [hv1]; exact bELt
  have hX1 : Blk v1 w2.heap.size 79 #[.slice Q L cq] := by rw [hv1]; exact Blk.new _ _ _
  clear hv1
  obtain ⟨F, hF⟩ : ∃ F : Nat → Prop, F = fun b => w1.heap.size ≤ b ∧ b < v1.heap.size := ⟨_, rfl⟩
  have HT := Lib.hid (show RdT (msk v1 F) Q L ls from HT2.out.le ((Kept.below hbv).msk.trans (msk_mono (fun b hb => by rw [hF]; exact ⟨hb.1, by have := hbv.size; omega⟩))))
  have hFp : F w2.heap.size := by rw [hF]; exact ⟨hb2s, hX1.lt⟩
  have HV0 := Lib.hid (show PlV w v1 F N ls v1 (some ⟨w.heap.size, 0, none⟩) NC [] from ⟨Kept.refl _ _, Nat.le_refl _, Bel.step HB2.out hbv, HO2.out.below hbv, fun b hb => by
    rw [hF] at hb
    refine ⟨hb.2, fun e => ?_⟩
    have e2 : w.heap.size = b := Option.some.inj e
    omega, fun k v hk => by simp at hk⟩)
  have HXF := Lib.hid (show ∀ V, Kept F v1 V → V.cell? ⟨w2.heap.size, 0, none⟩ = some (.slice Q L cq) from fun V hV => by
    have := hX1.cell 0
    simp only [List.getElem?_toArray, List.getElem?_cons_zero] at this
    exact hV.msk.trans (msk_le _ _) _ _ (msk_cell.2 ⟨hFp, this⟩))
  clear hF hbv HT2 HO2 HB2 HB12 hb2s hX1 hFp
  go_loopw [5, 7] (fun z q V => ∃ (i : Nat) (A : Option Addr) (cp : Nat) (cl : List Int), i ≤ L ∧ q = .int .i64 ((i : Int) + 1) ∧ z = .slice A cl.length cp ∧ cl.length = sumA ((gatesOf N.ar ls).take i) ∧ PlV w v1 F N ls V A cp cl) (fun _ q _ => L + 1 - (intOf q).toNat)
  case atStart => exact ⟨0, _, _, [], Nat.zero_le _, rfl, rfl, by simp [sumA], HV0.out⟩
  case round =>
    obtain ⟨i, A, cp, cl, hi, rfl, rfl, hcl, hV⟩ := hrel
    have HLV := Lib.hid (oLevels_any o N.ar ls wr (HO.out.below hV.bel))
    rw [← HL.out] at HLV
    have HV := Lib.hid hV
    have HCL := Lib.hid hcl
    by_cases hiL : i < L
    rotate_left
    · obtain rfl : i = L := by omega
      have i1 : ¬ ((i : Int) + 1 ≤ (i : Int)) := by omega
      clear hV hcl
      go_wp2_with fail
      with_reducible refine HLV.out.mono ?_
      rintro e w' ⟨rfl, rfl⟩
      go_wp2_with fail
      go_ret
      refine ⟨A, cp, cl, rfl, HV.out.own.rds.rdI, ⟨?_, HV.out.row⟩, HV.out.bel⟩
      rw [HCL.out, HL.out, List.take_of_length_le (by unfold gatesOf; simp)]
    · have i1 : (i : Int) + 1 ≤ (L : Int) := by omega
      obtain ⟨l, hl⟩ : ∃ l, ls[i]? = some l := ⟨_, List.getElem?_eq_getElem (by rw [← HL.out]; exact hiL)⟩
      obtain ⟨l0, hl0⟩ : ∃ l, ls[0]? = some l := ⟨_, List.getElem?_eq_getElem (by rw [← HL.out]; omega)⟩
      have hln := (HP.out.lvl l (List.mem_of_getElem? hl)).len
      have hln0 := (HP.out.lvl l0 (List.mem_of_getElem? hl0)).len
      obtain ⟨M, hM⟩ : ∃ M, M = (gateRow N.ar l).length := ⟨_, rfl⟩
      have HM := Lib.hid hM
      have HCE := Lib.hid (oCells_ok o i M N.ar ls l wr (HO.out.below hV.bel) hl (by rw [← HL.out]; omega) (by rw [hM, gateRow_len]))
      have HLJ := Lib.hid hl
      have HL0 := Lib.hid hl0
      have HLN := Lib.hid hln
      have HLN0 := Lib.hid hln0
      have hMb : M ≤ 4096 := by
        have h1 := HP.out.lvl l (List.mem_of_getElem? hl)
        have h2 := mostN_le (l := l) (n := (N.vs.length : Int)) (fun x hx => h1.hi x hx) (by omega)
        rw [hM, gateRow_len]
        omega
      clear hV hcl hl hl0 hM hln hln0
      go_wp2_with fail
      with_reducible refine HLV.out.mono ?_
      rintro e w' ⟨rfl, rfl⟩
      go_wp2_with fail
      with_reducible refine HCE.out.mono ?_
      rintro e w' ⟨rfl, rfl⟩
      go_wp2_with fail
      clear HLV HCE
      go_loopw [5, 29] (fun z q V => ∃ (c : Nat) (A : Option Addr) (cp : Nat) (cl : List Int), c ≤ M ∧ q = .int .i64 (c : Nat) ∧ z = .slice A cl.length cp ∧ cl.length = sumA ((gatesOf N.ar ls).take i) + sumS ((gateRow N.ar l).take c) ∧ PlV w v1 F N ls V A cp cl) (fun _ q _ => M - (intOf q).toNat)
      case atStart => exact ⟨0, A, cp, cl, Nat.zero_le _, rfl, rfl, by rw [HCL.out]; simp [sumS], HV.out⟩
      case round =>
        clear HCL HV
        obtain ⟨c, A, cp, cl, hc, rfl, rfl, hcl, hV⟩ := hrel
        have HV := Lib.hid hV
        have HCL := Lib.hid hcl
        by_cases hcM : c < M
        rotate_left
        · obtain rfl : c = M := by omega
          clear hV hcl
          go_wp2_with fail
          go_roundw
          case rel => exact ⟨i + 1, A, cp, cl, by omega, by go_num, rfl, by rw [sumA_next (gates_get HLJ.out), HCL.out, List.take_of_length_le (l := gateRow N.ar l) (by rw [← HM.out]; exact Nat.le_refl _)], HV.out⟩
          case measure => simp [intOf]; omega
        · obtain ⟨x, hx⟩ : ∃ x, (gateRow N.ar l)[c]? = some x := ⟨_, List.getElem?_eq_getElem (by rw [← HM.out]; exact hcM)⟩
          have HX := Lib.hid hx
          have HGT := Lib.hid (oGate_own o i c N.ar ls l x wr (HO.out.below hV.bel) HLJ.out (by rw [← HL.out]; omega) hx (by omega))
          have hgx := gate_in_le hx
          have hfit : cl.length + szG x ≤ NC := by
            have e1 := sumS_all (gateRow N.ar l) (c + 1)
            have e2 := sumA_all (gatesOf N.ar ls) (i + 1)
            rw [sumA_next (gates_get HLJ.out), ← HNC.out] at e2
            rw [sumS_next hx] at e1
            omega
          have HAB := Lib.hid (show ∀ b, blkOf A = some b → b < wr.heap.size from fun b hb => (hV.own.lt b hb).2)
          clear hV hcl hx
          go_wp2_with fail
          with_reducible refine HGT.out.mono ?_
          rintro e w3 ⟨B1, m1, d1, B2, m2, d2, rfl, ho1, ho2, hb3⟩
          have hm1 : x.1.length = m1 := by have := ho1.1; simpa [icells] using this
          have hm2 : x.2.length = m2 := by have := ho2.1; simpa [icells] using this
          have HV3 := Lib.hid (HV.out.below hb3)
          have HO1 := Lib.hid ho1
          have HO2 := Lib.hid ho2
          have hz3 := hb3.size
          clear ho1 ho2 hb3 HGT
          have x0 := HXF.out w3 HV3.out.kept
          have hx0 := lt_of_cell x0
          simp only at hx0
          go_wp2_with fail
          (refine calls_named ?_; intro w4 hw4)
          have hb4 : Below w3.heap.size w3 w4 := by rw [hw4]; exact bELt
          have hX4 : Blk w4 w3.heap.size 38 #[.slice B1 m1 d1, .slice B2 m2 d2] := by rw [hw4]; exact Blk.new _ _ _
          clear hw4
          have HV4 := Lib.hid (HV3.out.below hb4)
          have HB4 := Lib.hid hb4
          have HMK := Lib.hid (rimMarks_ok Q L cq i N.vs.length c ls l l0 w4 (HT.out.le HV4.out.le) HLJ.out (by omega) HL0.out HLN.out HLN0.out (by omega))
          clear hb4 x0 hx0
          with_reducible refine HMK.out.mono ?_
          rintro e w5 ⟨bm, rfl, hbm, hbz, hb5⟩
          have HV5 := Lib.hid (HV4.out.below hb5)
          have hX5 := hX4.below hb5 hX4.lt
          obtain ⟨F2, hF2⟩ : ∃ F2 : Nat → Prop, F2 = fun b => b < w5.heap.size ∧ blkOf A ≠ some b := ⟨_, rfl⟩
          have hz4 := HB4.out.size
          have hin : ∀ b, wr.heap.size ≤ b → b < w5.heap.size → F2 b := fun b h1 h2 => by rw [hF2]; exact ⟨h2, fun e => by have := HAB.out b e; omega⟩
          have HI5 := Lib.hid (show PlV w w5 F2 N ls w5 A cp cl by rw [hF2]; exact HV5.out.inner)
          have hbw := Bel.step HB4.out hb5
          have HR1 := Lib.hid (show RdI (msk w5 F2) B1 m1 x.1 from (HO1.out.below hbw).rds.rdI.msk (fun b hb => hin b ((HO1.out.below hbw).lt b hb).1 ((HO1.out.below hbw).lt b hb).2))
          have HR2 := Lib.hid (show RdI (msk w5 F2) B2 m2 x.2 from (HO2.out.below hbw).rds.rdI.msk (fun b hb => hin b ((HO2.out.below hbw).lt b hb).1 ((HO2.out.below hbw).lt b hb).2))
          have HRM := Lib.hid (show RdB (msk w5 F2) (some ⟨bm, 0, none⟩) N.vs.length (mkOf l c) from (hbm.rdB (by rw [mkOf_len]; exact HLN.out)).msk (fun b hb => by
            have e2 : bm = b := Option.some.inj hb
            subst e2
            exact hin _ (by omega) hbm.lt))
          have hg9 := hin w3.heap.size (by omega) hX5.lt
          have HXG := Lib.hid (show ∀ V, Kept F2 w5 V → V.cell? ⟨w3.heap.size, 0, none⟩ = some (.slice B1 m1 d1) ∧ V.cell? ⟨w3.heap.size, 1, none⟩ = some (.slice B2 m2 d2) from fun V hV => by
            obtain ⟨g1, g2, _⟩ := hX5.two
            exact ⟨hV.msk.trans (msk_le _ _) _ _ (msk_cell.2 ⟨hg9, g1⟩), hV.msk.trans (msk_le _ _) _ _ (msk_cell.2 ⟨hg9, g2⟩)⟩)
          have HF2 := Lib.hid hF2
          have x1 := (HXG.out w5 (Kept.refl _ _)).1
          clear hF2 hin hbw hg9 hbm hbz hb5 hX4 hX5 HMK HAB HO1 HO2 HB4 HV3 HV4
          go_wp2_with fail
          go_loopw [5, 43] (fun z q V => ∃ (a : Nat) (A' : Option Addr) (cp' : Nat) (cl' : List Int), a ≤ m1 ∧ q = .int .i64 (a : Nat) ∧ z = .slice A' cl'.length cp' ∧ cl'.length = cl.length + a * m2 ∧ PlV w w5 F2 N ls V A' cp' cl') (fun _ q _ => m1 - (intOf q).toNat)
          case atStart => exact ⟨0, A, cp, cl, Nat.zero_le _, rfl, rfl, by simp, HI5.out⟩
          case round =>
            obtain ⟨a, A1, cp1, cl1, ha, rfl, rfl, hcl1, hV1⟩ := hrel
            have HV1 := Lib.hid hV1
            have HCL1 := Lib.hid hcl1
            by_cases haM : a < m1
            rotate_left
            · obtain rfl : a = m1 := by omega
              clear hV1 hcl1
              go_wp2_with fail
              go_roundw
              case rel => exact ⟨c + 1, A1, cp1, cl1, by omega, by go_num, rfl, by rw [sumS_next HX.out, HCL1.out, HCL.out]; unfold szG; rw [hm1, hm2]; omega, HV5.out.outer (by rw [← HF2.out]; exact HV1.out)⟩
              case measure => simp [intOf]; omega
            · have hr1 := HR1.out.le hV1.le
              obtain ⟨b1, o1, z1, rfl, hz1, hc1⟩ := hr1.at_ haM
              obtain ⟨s, rfl⟩ := gate_nat1 HX.out hz1
              have HZ1 := Lib.hid hz1
              have x2 := (HXG.out _ hV1.kept).2
              have j1 : (a : Int) < (m1 : Int) := by omega
              clear hV1 hcl1 hz1 hr1
              go_wp2_with fail
              go_loopw [5, 50] (fun z q V => ∃ (b : Nat) (A' : Option Addr) (cp' : Nat) (cl' : List Int), b ≤ m2 ∧ q = .int .i64 (b : Nat) ∧ z = .slice A' cl'.length cp' ∧ cl'.length = cl.length + a * m2 + b ∧ PlV w w5 F2 N ls V A' cp' cl') (fun _ q _ => m2 - (intOf q).toNat)
              case atStart => exact ⟨0, A1, cp1, cl1, Nat.zero_le _, rfl, rfl, by rw [HCL1.out]; omega, HV1.out⟩
              case round =>
                clear x2 HV1 HCL1 hc1
                obtain ⟨b, A2, cp2, cl2, hb, rfl, rfl, hcl2, hV2⟩ := hrel
                have HV2 := Lib.hid hV2
                have HCL2 := Lib.hid hcl2
                by_cases hbM : b < m2
                rotate_left
                · obtain rfl : b = m2 := by omega
                  clear hV2 hcl2
                  go_wp2_with fail
                  go_roundw
                  case rel => exact ⟨a + 1, A2, cp2, cl2, by omega, by go_num, rfl, by rw [HCL2.out, Nat.add_mul, Nat.one_mul]; omega, HV2.out⟩
                  case measure => simp [intOf]; omega
                · have hr2 := HR2.out.le hV2.le
                  obtain ⟨b2, o2, z2, rfl, hz2, hc2⟩ := hr2.at_ hbM
                  obtain ⟨t, rfl⟩ := gate_nat2 HX.out hz2
                  have HZ2 := Lib.hid hz2
                  have j2 : (b : Int) < (m2 : Int) := by omega
                  have hs : s < N.ar.length := by
                    obtain ⟨y, hy, _⟩ := (gate_in HX.out).1 (List.mem_of_getElem? HZ1.out)
                    exact (List.getElem?_eq_some_iff.1 hy).1
                  have ht : t < N.ar.length := by
                    obtain ⟨y, hy, _⟩ := (gate_out HX.out).1 (List.mem_of_getElem? hz2)
                    exact (List.getElem?_eq_some_iff.1 hy).1
                  have hlen : cl2.length < NC := by
                    have e1 : (a + 1) * m2 ≤ m1 * m2 := Nat.mul_le_mul_right _ haM
                    rw [Nat.add_mul, Nat.one_mul] at e1
                    unfold szG at hfit
                    rw [hm1, hm2] at hfit
                    omega
                  have HWI := Lib.hid (walkInside_ok wr g s t N (some ⟨bm, 0, none⟩) N.vs.length N.vs.length (mkOf l c) (HG.out.below hV2.bel) hok hs ht (HRM.out.le hV2.le) rfl)
                  clear hV2 hcl2 hz2 hr2 hs ht
                  go_wp2_with fail
                  with_reducible refine HWI.out.mono ?_
                  rintro e w6 ⟨⟨v, rfl, hv⟩, hb6⟩
                  have HEN := Lib.hid (show EntV N ls cl2.length v from ⟨i, l, c, x, a, b, s, t, ⟨HLJ.out, HX.out, HZ1.out, HZ2.out, by unfold enAt; rw [HCL2.out, HCL.out, hm2]; omega⟩, hv⟩)
                  have HV6 := Lib.hid (HV2.out.below hb6)
                  obtain ⟨W2, hW2⟩ : ∃ W2, W2 = w6.alloc (.cells #[.int .i64 v] 2) := ⟨_, rfl⟩
                  have HV7 := Lib.hid (HV6.out.below (show Below w6.heap.size w6 W2 by rw [hW2]; exact (Below.refl _ _).alloc (Nat.le_refl _) _))
                  have hown := HV7.out.own
                  have hrd : Rds W2 1 (some ⟨w6.heap.size, 0, none⟩) 1 (icells [v]) := by rw [hW2]; exact (Blk.new w6 2 #[.int .i64 v]).rds rfl
                  have hsz : w.heap.size ≤ W2.heap.size := HV7.out.bel.size
                  have HW2 := Lib.hid hW2
                  clear hW2 hv hb6 hc2
                  go_wp2_with (at_builtin; rw [← HW2.out]; with_reducible refine wpList_app rfl (.tmp 54) (.tmp 60) 44 rfl 2 _ 1 8 infoI64 Tryz.underlying44 rfl (by omega) rfl rfl hown hrd (icells_one _) (by omega) (by omega) hsz ?_)
                  intro A3 c3 w8 ho8 hg8 hat8
                  have HV8 := Lib.hid (HV7.out.push ho8 hg8 hat8 HEN.out)
                  clear hown hrd hsz ho8 hg8 hat8
                  go_wp2_with fail
                  go_roundw
                  case rel => exact ⟨b + 1, A3, c3, cl2 ++ [v], by omega, by go_num, by rw [List.length_append]; rfl, by rw [List.length_append, HCL2.out]; rfl, HV8.out⟩
                  case measure => simp [intOf]; omega
end Go.Proofs.YtgkeolddpielpaaGreat

/- (*Over).Where. -/
namespace Go.Proofs.YtgkeolddpielpaaGreat
open Go.RowKit

attribute [local go_sem ↓] Go.wp_at_zero Go.wp_at_succ

/-- The closure: does the row's place i lie past at? -/
theorem whereP_any (ba bx blk off cap n i : Nat) (x y : Int) (W : World) (hi : i < n)
    (ha : W.cell? ⟨ba, 0, none⟩ = some (.slice (some ⟨blk, off, none⟩) n cap)) (hx : W.cell? ⟨bx, 0, none⟩ = some (.int .i64 x)) (hc : W.cell? ⟨blk, off + i, none⟩ = some (.int .i64 y)) :
    Calls Tryz.prog 56 (#[.int .i64 i] ++ #[.pointer (some ⟨ba, 0, none⟩), .pointer (some ⟨bx, 0, none⟩)]) W fun e w' => e = .returned (.bool (decide (x < y))) ∧ ∃ q, w' = W.drewN q := by
  have i1 : (0 : Int) ≤ (i : Int) := by omega
  have i2 : (i : Int) < (n : Int) := by omega
  obtain ⟨p, hp⟩ : ∃ p, p = decide (x < y) := ⟨_, rfl⟩
  rw [← hp]
  have HP := Lib.hid hp
  clear hp
  go_enter Tryz.func56, Tryz.ntmps56
  go_wp2_with fail
  go_quiet (fail)
  go_wp2_with fail
  go_ret
  exact ⟨ret_bool (by rw [HP.out]), _, rfl⟩

theorem bodyPost_nm {P : Program} {f : Func} {Q : Ending → World → Prop} {x : Exit} {a : Act} {w : World} (h : ∀ W, W = w → bodyPost P f Q x a W) : bodyPost P f Q x a w := h w rfl
theorem four_set {W : World} {g : Nat} {t : TypeId} {a b c d : Value} (h : Blk W g t #[a, b, c, d]) (x y z u : Value) : Blk ((((W.setCell ⟨g, 0, none⟩ x).setCell ⟨g, 1, none⟩ y).setCell ⟨g, 2, none⟩ z).setCell ⟨g, 3, none⟩ u) g t #[x, y, z, u] := (((h.set_ 0 x).set_ 1 y).set_ 2 z).set_ 3 u
theorem below_four {w W : World} {g : Nat} (h : Below w.heap.size w W) (hg : w.heap.size ≤ g) (x y z u : Value) : Below w.heap.size w ((((W.setCell ⟨g, 0, none⟩ x).setCell ⟨g, 1, none⟩ y).setCell ⟨g, 2, none⟩ z).setCell ⟨g, 3, none⟩ u) := (((h.setCell hg _).setCell hg _).setCell hg _).setCell hg _
theorem where_no (o : Nat) (at_ : Int) (ar : List Tri) (ls : List (List Int)) (w : World) (h : RdOv w o ar ls) (ha : at_ < 0 ∨ ((sumA (gatesOf ar ls) : Nat) : Int) ≤ at_) :
    Calls Tryz.prog 28 #[.pointer (some ⟨o, 0, none⟩), .int .i64 at_] w fun e w' => e = .returned (.tuple #[.agg #[.int .i64 0, .int .i64 0, .int .i64 0, .int .i64 0], .bool false]) ∧ Below w.heap.size w w' := by
  obtain ⟨Q, F, T, G, S, L, m, cq, cf, ct, cg, cs, h⟩ := h
  have h5 := h.n5
  clear h
  generalize sumA (gatesOf ar ls) = z at *
  have ho : o < w.heap.size := World.block_lt_of_cell? _ _ h5
  by_cases hneg : at_ < 0
  · clear ha
    go_enter Tryz.func28, Tryz.ntmps28
    go_wp2_with fail
    go_quiet (fail)
    go_wp2_with fail
    refine bodyPost_nm ?_
    intro W hW
    have hB : Blk W (w.heap.size + 1) 64 #[.int .i64 0, .int .i64 0, .int .i64 0, .int .i64 0] := by rw [hW]; refine four_set (a := .int .i64 0) (b := .int .i64 0) (c := .int .i64 0) (d := .int .i64 0) ?_ _ _ _ _; exact bLNt
    have hb : Below w.heap.size w W := by rw [hW]; refine below_four ?_ (by omega) _ _ _ _; exact bELt
    have r0 := hB.cell 0
    have r1 := hB.cell 1
    have r2 := hB.cell 2
    have r3 := hB.cell 3
    simp only [List.getElem?_toArray, List.getElem?_cons_zero, List.getElem?_cons_succ] at r0 r1 r2 r3
    refine bodyPost_ret (v := .tuple #[.agg #[.int .i64 0, .int .i64 0, .int .i64 0, .int .i64 0], .bool false]) (by simp [results, Tryz.results28, go_sem, r0, r1, r2, r3]) rfl ?_
    exact ⟨rfl, hb⟩
  · have hge : (z : Int) ≤ at_ := by omega
    clear ha
    go_enter Tryz.func28, Tryz.ntmps28
    go_wp2_with fail
    go_quiet (fail)
    go_wp2_with fail
    refine bodyPost_nm ?_
    intro W hW
    have hB : Blk W (w.heap.size + 1) 64 #[.int .i64 0, .int .i64 0, .int .i64 0, .int .i64 0] := by rw [hW]; refine four_set (a := .int .i64 0) (b := .int .i64 0) (c := .int .i64 0) (d := .int .i64 0) ?_ _ _ _ _; exact bLNt
    have hb : Below w.heap.size w W := by rw [hW]; refine below_four ?_ (by omega) _ _ _ _; exact bELt
    have r0 := hB.cell 0
    have r1 := hB.cell 1
    have r2 := hB.cell 2
    have r3 := hB.cell 3
    simp only [List.getElem?_toArray, List.getElem?_cons_zero, List.getElem?_cons_succ] at r0 r1 r2 r3
    refine bodyPost_ret (v := .tuple #[.agg #[.int .i64 0, .int .i64 0, .int .i64 0, .int .i64 0], .bool false]) (by simp [results, Tryz.results28, go_sem, r0, r1, r2, r3]) rfl ?_
    exact ⟨rfl, hb⟩

set_option maxHeartbeats 1000000 in
theorem where_ok (o i c a b : Nat) (ar : List Tri) (ls : List (List Int)) (l : List Int) (x : GateD) (w : World) (h : RdOv w o ar ls) (hl : ls[i]? = some l) (hx : (gateRow ar l)[c]? = some x) (ha : a < x.1.length) (hb : b < x.2.length) (hL : ls.length ≤ 1000000) (hS : sumA (gatesOf ar ls) ≤ 1000000000000) (hM : (mostN l).toNat ≤ 1000000) :
    Calls Tryz.prog 28 #[.pointer (some ⟨o, 0, none⟩), .int .i64 ((enAt (gatesOf ar ls) (gateRow ar l) i c x a b : Nat) : Int)] w fun e w' => e = .returned (.tuple #[.agg #[.int .i64 ((i : Int) + 1), .int .i64 c, .int .i64 a, .int .i64 b], .bool true]) ∧ Below w.heap.size w w' := by
  obtain ⟨z, hz⟩ : ∃ z, z = enAt (gatesOf ar ls) (gateRow ar l) i c x a b := ⟨_, rfl⟩
  have hrow := gates_get (ar := ar) hl
  have z2 := enAt_lt (gs := gatesOf ar ls) (i := i) hx ha hb
  have z3 := enAt_lt2 hrow hx ha hb
  have z4 := sumA_all (gatesOf ar ls) (i + 1)
  rw [← hz] at z2 z3 ⊢
  have HZ := Lib.hid hz
  have HA := Lib.hid ha
  have HB := Lib.hid hb
  have HX := Lib.hid hx
  have HLT := Lib.hid (show ∀ k row, i < k → (gatesOf ar ls)[k]? = some row → z < sumA ((gatesOf ar ls).take k) from fun k _ hk _ => Nat.lt_of_lt_of_le z3 (sumA_mono _ hk))
  have HGE := Lib.hid (show sumA ((gatesOf ar ls).take i) ≤ z by rw [hz]; unfold enAt; omega)
  obtain ⟨Q, F, T, G, S, L, m, cq, cf, ct, cg, cs, h⟩ := h
  have h5 := h.n5
  have h4 := h.n4
  have h3 := h.n3
  have hiL : i < L := by rw [← h.part.1]; exact (List.getElem?_eq_some_iff.1 hl).1
  have hLL : L ≤ 1000000 := by rw [← h.part.1]; exact hL
  have ho : o < w.heap.size := World.block_lt_of_cell? _ _ h5
  obtain ⟨ga, hga⟩ : ∃ ga, ga = sumA (gatesOf ar ls) := ⟨_, rfl⟩
  rw [← hga] at h5 z4
  have HGA := Lib.hid hga
  have zs : (z : Int) < (ga : Int) := by omega
  have znn : ¬ ((z : Int) < 0) := by omega
  -- the rows of starts
  have HST := Lib.hid h.starts
  have HGT := Lib.hid h.gates
  obtain ⟨row, gb, go_, Ag, ng, cA, hrowg, rfl, hcg, hrg, _⟩ := h.gates.at_ hiL
  rw [hrow] at hrowg
  cases hrowg
  obtain ⟨x', cb, co, A1, n1, c1, A2, n2, c2, hx', rfl, hc1, hr1, hc2, hr2, hc21⟩ := hrg.at_ (c := c) (by rw [← hrg.1]; exact (List.getElem?_eq_some_iff.1 hx).1)
  have hcng : c < ng := by rw [← hrg.1]; exact (List.getElem?_eq_some_iff.1 hx).1
  rw [hx] at hx'
  cases hx'
  have hn2 : x.2.length = n2 := hr2.1
  obtain ⟨d, hd⟩ : ∃ d, d = a * x.2.length + b := ⟨_, rfl⟩
  obtain ⟨s, hs⟩ : ∃ s, s = sumA ((gatesOf ar ls).take i) + sumS ((gateRow ar l).take c) := ⟨_, rfl⟩
  have hzd : z = s + d := by rw [hz, hs, hd]; rfl
  have e9 : (z : Int) - (s : Int) = (d : Int) := by omega
  have w9 : IntKind.i64.wrap (d : Int) = (d : Int) := IntWalk.i64_in _ (by omega)
  have n20 : ¬ n2 = 0 := by omega
  have dq : d / n2 = a := by
    rw [hd, hn2, Nat.mul_comm, Nat.mul_add_div (by omega), Nat.div_eq_of_lt (by omega)]
    rfl
  have dm : d % n2 = b := by
    rw [hd, hn2, Nat.mul_comm, Nat.mul_add_mod, Nat.mod_eq_of_lt (by omega)]
  have ed : Int.tdiv (d : Int) (n2 : Int) = (a : Int) := by rw [← dq]; exact (Int.ofNat_tdiv d n2).symm
  have em : Int.tmod (d : Int) (n2 : Int) = (b : Int) := by rw [← dm]; exact (Int.ofNat_tmod d n2).symm
  have ed2 : (d : Int) / (n2 : Int) = (a : Int) := by rw [← dq]; rfl
  have em2 : (d : Int) % (n2 : Int) = (b : Int) := by rw [← dm]; rfl
  have had : a ≤ d := by rw [← dq]; exact Nat.div_le_self _ _
  have hbd' : b ≤ d := by rw [← dm]; exact Nat.mod_le _ _
  have wa : IntKind.i64.wrap (a : Int) = (a : Int) := IntWalk.i64_in _ (by omega)
  have wb : IntKind.i64.wrap (b : Int) = (b : Int) := IntWalk.i64_in _ (by omega)
  have i9 : (c : Int) < (ng : Int) := by omega
  -- the row of this level
  obtain ⟨sb, so, Ar, n, c', lr, rfl, elr, hrc, hrr, hrn⟩ := h.starts.at_ hiL
  rw [stAll_get hrow] at elr
  obtain ⟨SB, hSB⟩ : ∃ SB, SB = sumA ((gatesOf ar ls).take i) := ⟨_, rfl⟩
  rw [← hSB] at elr z2 HGE
  have HSB := Lib.hid hSB
  cases elr
  have hnM : n = (mostN l).toNat := by rw [← hrr.1, stRow_len, gateRow_len]
  have HNM := Lib.hid hnM
  have hcn : c < n := by rw [hnM, ← gateRow_len ar l]; exact (List.getElem?_eq_some_iff.1 hx).1
  have HNB := Lib.hid (show n ≤ 1000000 by omega)
  obtain ⟨rb, ro, y0, rfl, ey0, hy0⟩ := hrr.at_ (i := 0) (by omega)
  have HROW := Lib.hid (show ∀ j, j < n → w.cell? ⟨rb, ro + j, none⟩ = some (.int .i64 ((stRow SB (gateRow ar l)).getD j 0)) from fun j hj => by
    obtain ⟨rb', ro', y, e, ey, hy⟩ := hrr.at_ hj
    cases e
    rw [List.getD_eq_getElem?_getD, ey]
    exact hy)
  have hget : ∀ j, j < n → (stRow SB (gateRow ar l)).getD j 0 = ((SB + sumS ((gateRow ar l).take j) : Nat) : Int) := fun j hj => by
    rw [List.getD_eq_getElem?_getD, stRow_get (by rw [gateRow_len, ← hnM]; exact hj)]
    rfl
  have hfalse : ∀ t, t < c + 1 → decide ((z : Int) < (stRow SB (gateRow ar l)).getD t 0) = false := fun t ht => by
    rw [hget t (by omega)]
    have := sumS_mono (gateRow ar l) (a := t) (b := c) (by omega)
    have e := hz
    unfold enAt at e
    rw [← hSB] at e
    exact decide_eq_false (by omega)
  have htrue : ∀ t, c + 1 ≤ t → t < n → decide ((z : Int) < (stRow SB (gateRow ar l)).getD t 0) = true := fun t ht hn => by
    rw [hget t hn]
    have := sumS_mono (gateRow ar l) (a := c + 1) (b := t) ht
    exact decide_eq_true (by omega)
  have HMONO := Lib.hid (show ∀ p q : Nat, p ≤ q → q < n → decide ((z : Int) < (stRow SB (gateRow ar l)).getD p 0) = true → decide ((z : Int) < (stRow SB (gateRow ar l)).getD q 0) = true from fun p q hpq hq hp => by
    rcases Nat.lt_or_ge p (c + 1) with h | h
    · rw [hfalse p h] at hp; cases hp
    · exact htrue q (by omega) hq)
  have HCNT := Lib.hid (show (List.range n).countP (fun j => !decide ((z : Int) < (stRow SB (gateRow ar l)).getD j 0)) = c + 1 by
    have hr : ∀ t, t < n → (List.range n)[t]! = t := fun t ht => by rw [getElem!_pos _ t (by simpa using ht)]; simp
    refine Lib.countP_boundary _ (List.range n) (c + 1) (by simp; omega) (fun t ht => ?_) (fun t h3 h4 => ?_)
    · rw [hr t (by omega), hfalse t ht]; rfl
    · rw [hr t (by simpa using h4), htrue t h3 (by simpa using h4)]; rfl)
  have hyc : w.cell? ⟨rb, ro + c, none⟩ = some (.int .i64 (s : Int)) := by
    have e1 := HROW.out c hcn
    rw [hget c hcn, hSB, ← hs] at e1
    exact e1
  have ey0' : y0 = (SB : Int) := by
    have := hget 0 (by omega)
    rw [List.getD_eq_getElem?_getD, ey0] at this
    simpa [sumS] using this
  subst ey0'
  have hyz : ¬ ((SB : Int) > (z : Int)) := by have := HGE.out; omega
  have i7 : (0 : Int) ≤ (c : Int) := by omega
  have i8 : (c : Int) < (n : Int) := by omega
  clear h hl hrow hx ha hb hL hS hM hz z2 z3 z4 hga hSB hget hfalse htrue hrr ey0 hnM hrg hr1 hr2 hc1 hc21 hn2 hd hs hzd dq dm had hbd'
  go_enter Tryz.func28, Tryz.ntmps28
  go_wp2_with fail
  go_quiet (fail)
  go_wp2_with fail
  (refine wp_named ?_; intro W2 hW2)
  have hb2 : Below w.heap.size w W2 := by rw [hW2]; exact bELt
  have hA : Blk W2 w.heap.size 3 #[.int .i64 (z : Int)] := by rw [hW2]; exact bLNt
  have hE : Blk W2 (w.heap.size + 1) 64 #[.int .i64 0, .int .i64 0, .int .i64 0, .int .i64 0] := by rw [hW2]; exact bLNt
  clear hW2
  go_loopw [6] (fun q W => (∃ k, W = W2.drewN k) ∧ ∃ k K : Nat, K = k + 1 ∧ i ≤ k ∧ k < L ∧ q = .int .i64 (K : Int)) (fun q _ => (intOf q).toNat)
  case atStart => exact ⟨⟨0, rfl⟩, L - 1, L, by omega, by omega, by omega, rfl⟩
  case round =>
    obtain ⟨hd, k, K, hK, hik, hkL, rfl⟩ := hrel
    obtain ⟨k0, rfl⟩ := hd
    have hbd : Below w.heap.size w (W2.drewN k0) := below_drewN hb2 k0
    have d4 := Below.cellOf hb2 (Nat.le_refl _) h4
    have dA := hA.cell 0
    simp only [List.getElem?_toArray, List.getElem?_cons_zero] at dA
    have i1 : (K : Int) - 1 = (k : Int) := by omega
    have HK := Lib.hid hK
    have i2 : (0 : Int) ≤ (k : Int) := by omega
    have wk : IntKind.i64.wrap (k : Int) = (k : Int) := IntWalk.i64_in _ (by omega)
    have i3 : (k : Int) < (L : Int) := by omega
    by_cases hki : k = i
    · subst hki
      have dr := Below.cellOf hb2 (Nat.le_refl _) hrc
      have dy := Below.cellOf hb2 (Nat.le_refl _) hy0
      have n0 : ((n : Int) == 0) = false := by simp; omega
      have n1 : ¬ (n = 0) := by omega
      have n2' : (0 : Int) < (n : Int) := by omega
      have dy' : W2.cell? ⟨rb, ro, none⟩ = some (.int .i64 (SB : Int)) := by simpa using dy
      by_cases hk0 : k = 0
      · have k1 : ¬ (1 < (K : Int)) := by omega
        have k2 : decide (1 < (K : Int)) = false := decide_eq_false k1
        clear hk0 hK
        go_wp2_with fail
        go_quiet (fail)
        generalize hW3 : (W2.drewN k0).drewN nq = W3
        have hbW3 : Below w.heap.size w W3 := by rw [← hW3]; exact below_drewN hbd nq
        have hA3 : Blk W3 w.heap.size 3 #[.int .i64 (z : Int)] := by rw [← hW3]; exact (hA.drewN k0).drewN nq
        have hE3 : Blk W3 (w.heap.size + 1) 64 #[.int .i64 0, .int .i64 0, .int .i64 0, .int .i64 0] := by rw [← hW3]; exact (hE.drewN k0).drewN nq
        clear hW3 d4 dA dr dy dy' hbd hA hE hb2
        have d4 := Below.cellOf hbW3 (Nat.le_refl _) h4
        have dr := Below.cellOf hbW3 (Nat.le_refl _) hrc
        go_wp2_with fail
        (refine calls_named ?_; intro w3 hw3)
        have hb3 : Below w.heap.size w w3 := by rw [hw3]; exact Bel.alloc hbW3
        have hB7 : Blk w3 W3.heap.size 36 #[.slice (some ⟨rb, ro, none⟩) n c'] := by
          rw [hw3]
          refine Blk.new' _ _ _ ?_
          rfl
        have lE := hE3.lt
        have hA4 : Blk w3 w.heap.size 3 #[.int .i64 (z : Int)] := by rw [hw3]; exact hA3.alloc _
        have hE4 : Blk w3 (w.heap.size + 1) 64 #[.int .i64 0, .int .i64 0, .int .i64 0, .int .i64 0] := by rw [hw3]; exact hE3.alloc _
        clear hw3 hA3 hE3 d4 dr
        have a7 := hB7.cell 0
        have a3 := hA4.cell 0
        simp only [List.getElem?_toArray, List.getElem?_cons_zero] at a7 a3
        have hS := Any.sort_Search Tryz.seekL 56 #[.pointer (some ⟨W3.heap.size, 0, none⟩), .pointer (some ⟨w.heap.size, 0, none⟩)] n (fun j => decide ((z : Int) < (stRow SB (gateRow ar l)).getD j 0)) w3 (enters_of Tryz.func56 (by kernel_rfl) rfl) (by have := HNB.out; omega)
          (fun m' os j hj => (whereP_any W3.heap.size w.heap.size rb ro c' n j (z : Int) _ _ hj (cell_grown hB7.lt a7 m' os) (cell_grown hA4.lt a3 m' os) (cell_grown (Nat.lt_of_lt_of_le (World.block_lt_of_cell? _ _ (HROW.out j hj)) hb3.size) (Below.cellOf hb3 (Nat.le_refl _) (HROW.out j hj)) m' os)).mono fun _ _ ⟨he, q, hq⟩ => ⟨he, q, #[], by rw [hq, Go.Sort.grow_empty]⟩) HMONO.out
        rw [HCNT.out] at hS
        have HSS := Lib.hid (show Calls Tryz.prog 55 _ _ _ from hS)
        clear hS
        with_reducible refine HSS.out.mono ?_
        rintro e w4 ⟨rfl, q4, os4, hw4⟩
        have hb34 : Below w3.heap.size w3 w4 := by rw [hw4]; exact below_grown_sl _ _ _ _ (Nat.le_refl _)
        have hb4 := Bel.step hb3 hb34
        have hB75 := hB7.below hb34 hB7.lt
        have hA5 := hA4.below hb34 hA4.lt
        have hE5 := hE4.below hb34 hE4.lt
        have l7 : w.heap.size + 1 < W3.heap.size := lE
        clear hw4 HSS a7 a3 hB7 hA4 hE4 hb34 hb3
        have g3 := Below.cellOf hb4 (Nat.le_refl _) h3
        have gg := Below.cellOf hb4 (Nat.le_refl _) hcg
        have gc := Below.cellOf hb4 (Nat.le_refl _) hc2
        have gy := Below.cellOf hb4 (Nat.le_refl _) hyc
        have x7 := hB75.cell 0
        have xA := hA5.cell 0
        simp only [List.getElem?_toArray, List.getElem?_cons_zero] at x7 xA
        go_wp2_with fail
        go_quiet (fail)
        go_wp2_with fail
        (refine wp_named ?_; intro W5 hW5)
        have hb5 : Below w.heap.size w W5 := by rw [hW5]; exact below_drewN hb4 nq
        have hE6 : Blk W5 (w.heap.size + 1) 64 #[.int .i64 0, .int .i64 0, .int .i64 0, .int .i64 0] := by rw [hW5]; exact hE5.drewN nq
        clear hW5 hE5 hA5 hB75 x7 xA g3 gg gc gy hb4
        refine wp_region_held_drew (S := fun V => Below w.heap.size w V) (by kernel_rfl) hb5.drew (fun _ => ?_)
        refine tk 0 89 (h := ⟨_, tv, ?_⟩)
        simp only [pE, List.set]
        refine tk 1 90 (h := ⟨_, tv, ?_⟩)
        simp only [pE, List.set]
        refine tk 2 91 (h := ⟨_, tv, ?_⟩)
        simp only [pE, List.set]
        refine tk 3 92 (h := ⟨_, tv, ?_⟩)
        simp only [pE, List.set]
        refine tk 4 93 (h := ⟨_, tv, ?_⟩)
        simp only [pE, List.set]
        refine tk 5 94 (h := ⟨_, tv, ?_⟩)
        simp only [pE, List.set]
        refine tk 6 95 (h := ⟨_, tv, ?_⟩)
        simp only [pE, List.set]
        refine tk 7 96 (h := ⟨_, tv, ?_⟩)
        simp only [pE, List.set]
        refine tk 8 97 (h := ⟨_, tv, ?_⟩)
        simp only [pE, List.set]
        obtain ⟨z0, z1, z2, z3⟩ := hE6.four
        have zf0 := hE6.frozen 0
        have zf1 := hE6.frozen 1
        have zf2 := hE6.frozen 2
        have zf3 := hE6.frozen 3
        refine wpAnyH_ready (rs := [9]) (by kernel_rfl) (by simp) ?_
        refine AllReadyH.cons (o := _) rfl (fun K hK => ?_) AllReadyH.nil
        go_simp
        refine hK.out _ _ (below_four hb5 (Nat.le_succ _) _ _ _ _).drew (fun _ => ?_)
        clear hK K
        refine tk 10 5 (h := ⟨_, tv, ?_⟩)
        simp only [pE, List.set]
        refine wpAnyH_done (by kernel_rfl) ?_ _
        have hE8 := (four_set hE6 (.int .i64 (K : Int)) (.int .i64 (c : Int)) (.int .i64 (a : Int)) (.int .i64 (b : Int))).drew
        have r0 := hE8.cell 0
        have r1 := hE8.cell 1
        have r2 := hE8.cell 2
        have r3 := hE8.cell 3
        simp only [List.getElem?_toArray, List.getElem?_cons_zero, List.getElem?_cons_succ] at r0 r1 r2 r3
        have hb9 := (below_four hb5 (show w.heap.size ≤ w.heap.size + 1 by omega) (.int .i64 (K : Int)) (.int .i64 (c : Int)) (.int .i64 (a : Int)) (.int .i64 (b : Int))).drew
        go_wp2_with fail
        refine bodyPost_ret (v := .tuple #[.agg #[.int .i64 (K : Int), .int .i64 (c : Int), .int .i64 (a : Int), .int .i64 (b : Int)], .bool true]) (by simp [results, Tryz.results28, go_sem, r0, r1, r2, r3]) rfl ?_
        exact ⟨by rw [show (K : Int) = (k : Int) + 1 by have := HK.out; omega], hb9⟩
      · have k1 : 1 < (K : Int) := by omega
        have k2 : decide (1 < (K : Int)) = true := decide_eq_true k1
        clear hk0 hK
        go_wp2_with fail
        go_quiet (fail)
        generalize hW3 : (W2.drewN k0).drewN nq = W3
        have hbW3 : Below w.heap.size w W3 := by rw [← hW3]; exact below_drewN hbd nq
        have hA3 : Blk W3 w.heap.size 3 #[.int .i64 (z : Int)] := by rw [← hW3]; exact (hA.drewN k0).drewN nq
        have hE3 : Blk W3 (w.heap.size + 1) 64 #[.int .i64 0, .int .i64 0, .int .i64 0, .int .i64 0] := by rw [← hW3]; exact (hE.drewN k0).drewN nq
        clear hW3 d4 dA dr dy dy' hbd hA hE hb2
        have d4 := Below.cellOf hbW3 (Nat.le_refl _) h4
        have dr := Below.cellOf hbW3 (Nat.le_refl _) hrc
        go_wp2_with fail
        (refine calls_named ?_; intro w3 hw3)
        have hb3 : Below w.heap.size w w3 := by rw [hw3]; exact Bel.alloc hbW3
        have hB7 : Blk w3 W3.heap.size 36 #[.slice (some ⟨rb, ro, none⟩) n c'] := by
          rw [hw3]
          refine Blk.new' _ _ _ ?_
          rfl
        have lE := hE3.lt
        have hA4 : Blk w3 w.heap.size 3 #[.int .i64 (z : Int)] := by rw [hw3]; exact hA3.alloc _
        have hE4 : Blk w3 (w.heap.size + 1) 64 #[.int .i64 0, .int .i64 0, .int .i64 0, .int .i64 0] := by rw [hw3]; exact hE3.alloc _
        clear hw3 hA3 hE3 d4 dr
        have a7 := hB7.cell 0
        have a3 := hA4.cell 0
        simp only [List.getElem?_toArray, List.getElem?_cons_zero] at a7 a3
        have hS := Any.sort_Search Tryz.seekL 56 #[.pointer (some ⟨W3.heap.size, 0, none⟩), .pointer (some ⟨w.heap.size, 0, none⟩)] n (fun j => decide ((z : Int) < (stRow SB (gateRow ar l)).getD j 0)) w3 (enters_of Tryz.func56 (by kernel_rfl) rfl) (by have := HNB.out; omega)
          (fun m' os j hj => (whereP_any W3.heap.size w.heap.size rb ro c' n j (z : Int) _ _ hj (cell_grown hB7.lt a7 m' os) (cell_grown hA4.lt a3 m' os) (cell_grown (Nat.lt_of_lt_of_le (World.block_lt_of_cell? _ _ (HROW.out j hj)) hb3.size) (Below.cellOf hb3 (Nat.le_refl _) (HROW.out j hj)) m' os)).mono fun _ _ ⟨he, q, hq⟩ => ⟨he, q, #[], by rw [hq, Go.Sort.grow_empty]⟩) HMONO.out
        rw [HCNT.out] at hS
        have HSS := Lib.hid (show Calls Tryz.prog 55 _ _ _ from hS)
        clear hS
        with_reducible refine HSS.out.mono ?_
        rintro e w4 ⟨rfl, q4, os4, hw4⟩
        have hb34 : Below w3.heap.size w3 w4 := by rw [hw4]; exact below_grown_sl _ _ _ _ (Nat.le_refl _)
        have hb4 := Bel.step hb3 hb34
        have hB75 := hB7.below hb34 hB7.lt
        have hA5 := hA4.below hb34 hA4.lt
        have hE5 := hE4.below hb34 hE4.lt
        have l7 : w.heap.size + 1 < W3.heap.size := lE
        clear hw4 HSS a7 a3 hB7 hA4 hE4 hb34 hb3
        have g3 := Below.cellOf hb4 (Nat.le_refl _) h3
        have gg := Below.cellOf hb4 (Nat.le_refl _) hcg
        have gc := Below.cellOf hb4 (Nat.le_refl _) hc2
        have gy := Below.cellOf hb4 (Nat.le_refl _) hyc
        have x7 := hB75.cell 0
        have xA := hA5.cell 0
        simp only [List.getElem?_toArray, List.getElem?_cons_zero] at x7 xA
        go_wp2_with fail
        go_quiet (fail)
        go_wp2_with fail
        (refine wp_named ?_; intro W5 hW5)
        have hb5 : Below w.heap.size w W5 := by rw [hW5]; exact below_drewN hb4 nq
        have hE6 : Blk W5 (w.heap.size + 1) 64 #[.int .i64 0, .int .i64 0, .int .i64 0, .int .i64 0] := by rw [hW5]; exact hE5.drewN nq
        clear hW5 hE5 hA5 hB75 x7 xA g3 gg gc gy hb4
        refine wp_region_held_drew (S := fun V => Below w.heap.size w V) (by kernel_rfl) hb5.drew (fun _ => ?_)
        refine tk 0 89 (h := ⟨_, tv, ?_⟩)
        simp only [pE, List.set]
        refine tk 1 90 (h := ⟨_, tv, ?_⟩)
        simp only [pE, List.set]
        refine tk 2 91 (h := ⟨_, tv, ?_⟩)
        simp only [pE, List.set]
        refine tk 3 92 (h := ⟨_, tv, ?_⟩)
        simp only [pE, List.set]
        refine tk 4 93 (h := ⟨_, tv, ?_⟩)
        simp only [pE, List.set]
        refine tk 5 94 (h := ⟨_, tv, ?_⟩)
        simp only [pE, List.set]
        refine tk 6 95 (h := ⟨_, tv, ?_⟩)
        simp only [pE, List.set]
        refine tk 7 96 (h := ⟨_, tv, ?_⟩)
        simp only [pE, List.set]
        refine tk 8 97 (h := ⟨_, tv, ?_⟩)
        simp only [pE, List.set]
        obtain ⟨z0, z1, z2, z3⟩ := hE6.four
        have zf0 := hE6.frozen 0
        have zf1 := hE6.frozen 1
        have zf2 := hE6.frozen 2
        have zf3 := hE6.frozen 3
        refine wpAnyH_ready (rs := [9]) (by kernel_rfl) (by simp) ?_
        refine AllReadyH.cons (o := _) rfl (fun K hK => ?_) AllReadyH.nil
        go_simp
        refine hK.out _ _ (below_four hb5 (Nat.le_succ _) _ _ _ _).drew (fun _ => ?_)
        clear hK K
        refine tk 10 5 (h := ⟨_, tv, ?_⟩)
        simp only [pE, List.set]
        refine wpAnyH_done (by kernel_rfl) ?_ _
        have hE8 := (four_set hE6 (.int .i64 (K : Int)) (.int .i64 (c : Int)) (.int .i64 (a : Int)) (.int .i64 (b : Int))).drew
        have r0 := hE8.cell 0
        have r1 := hE8.cell 1
        have r2 := hE8.cell 2
        have r3 := hE8.cell 3
        simp only [List.getElem?_toArray, List.getElem?_cons_zero, List.getElem?_cons_succ] at r0 r1 r2 r3
        have hb9 := (below_four hb5 (show w.heap.size ≤ w.heap.size + 1 by omega) (.int .i64 (K : Int)) (.int .i64 (c : Int)) (.int .i64 (a : Int)) (.int .i64 (b : Int))).drew
        go_wp2_with fail
        refine bodyPost_ret (v := .tuple #[.agg #[.int .i64 (K : Int), .int .i64 (c : Int), .int .i64 (a : Int), .int .i64 (b : Int)], .bool true]) (by simp [results, Tryz.results28, go_sem, r0, r1, r2, r3]) rfl ?_
        exact ⟨by rw [show (K : Int) = (k : Int) + 1 by have := HK.out; omega], hb9⟩
    · have k1 : 1 < (K : Int) := by omega
      have k2 : decide (1 < (K : Int)) = true := decide_eq_true k1
      obtain ⟨sb', so', A', n', cc, l', e, el, hrk, hrr', _⟩ := HST.out.at_ hkL
      cases e
      have drk := Below.cellOf hb2 (Nat.le_refl _) hrk
      obtain ⟨rowk, hrowk⟩ : ∃ rowk, (gatesOf ar ls)[k]? = some rowk := ⟨_, List.getElem?_eq_getElem (by have := (List.getElem?_eq_some_iff.1 el).1; rwa [stAll_len] at this)⟩
      rw [stAll_get hrowk] at el
      cases el
      have hlt2 := HLT.out k rowk (by omega) hrowk
      by_cases hn0 : n' = 0
      · subst hn0
        have HNK := Lib.hid (show i < k by omega)
        clear hrr' hrowk hlt2 hki hK hik
        go_wp2_with fail
        go_quiet (fail)
        go_wp2_with fail
        go_roundw
        case rel => exact ⟨⟨k0 + nq, rfl⟩, k - 1, k, by have := HNK.out; omega, by have := HNK.out; omega, by omega, rfl⟩
        case measure => simp [intOf]; have := HK.out; omega
      · obtain ⟨qb, qo, y, rfl, ey, hy⟩ := hrr'.at_ (i := 0) (by omega)
        have hl0 : 0 < rowk.length := by rw [← stRow_len (sumA ((gatesOf ar ls).take k)) rowk, hrr'.1]; omega
        rw [stRow_get hl0] at ey
        obtain ⟨yn, hyn⟩ : ∃ yn, yn = sumA ((gatesOf ar ls).take k) + sumS (rowk.take 0) := ⟨_, rfl⟩
        rw [← hyn] at ey
        cases ey
        have dy := Below.cellOf hb2 (Nat.le_refl _) hy
        have dy' : W2.cell? ⟨qb, qo, none⟩ = some (.int .i64 (yn : Int)) := by simpa using dy
        have hyz2 : (z : Int) < (yn : Int) := by omega
        have n0 : ((n' : Int) == 0) = false := by simp; omega
        have n2' : (0 : Int) < (n' : Int) := by omega
        have n3 : decide ((z : Int) < (yn : Int)) = true := decide_eq_true hyz2
        have HNK := Lib.hid (show i < k by omega)
        clear hrr' hrowk hlt2 hki hl0 hyn hK hik
        go_wp2_with fail
        go_quiet (fail)
        go_wp2_with fail
        go_roundw
        case rel => exact ⟨⟨k0 + nq, rfl⟩, k - 1, k, by have := HNK.out; omega, by have := HNK.out; omega, by omega, rfl⟩
        case measure => simp [intOf]; have := HK.out; omega
end Go.Proofs.YtgkeolddpielpaaGreat
