/- Parts of the proof: Pe, Gr, Ga, Gw. -/
import Derived.Test.YtgkeolddpielpaaGreatM5
namespace Go.Proofs.YtgkeolddpielpaaGreat
open Go.RowKit

attribute [local go_sem ↓] Go.wp_at_zero Go.wp_at_succ

theorem lvlCode_inv {n : Nat} {p : Option (List Int)} {l : List Int} (h : lvlCode n p l = 0) : LvlOk n l ∧ ∀ q, p = some q → NestOk q l := by
 unfold lvlCode at h
 split at h
 · cases h
 · split at h
   · assumption
   · cases h
set_option maxHeartbeats 2000000 in
set_option maxRecDepth 20000 in
theorem checkPart_any (Q : Option Addr) (n L cq : Nat) (ls : List (List Int)) (w : World) (h : RdT w Q L ls) :
 Calls Tryz.prog 63 #[.int .i64 n, .agg #[.slice Q L cq], .slice none 0 0] w fun e w' => CkRes0 (PartOk n ls) e ∧ Below w.heap.size w w' := by
 have HT := Lib.hid h
 clear h
 by_cases q0 : (n : Int) > 4096
 · go_enter Tryz.func63, Tryz.ntmps63
   go_wp2_with fail
   (refine calls_named ?_; intro w5 hw5)
   have hB5 : Blk w5 (w.heap.size + 1) 126 #[.slice none 0 0, .int .i64 0] := by rw [hw5]; exact bLNt
   have hb5 : Below w.heap.size w w5 := by rw [hw5]; exact bELt
   clear hw5
   with_reducible refine (refAt0_any _ _ _ _).mono ?_
   rintro e w2 ⟨⟨A4, n4, m4, rfl, hg4⟩, hb⟩
   have hB2 := Blk.below hB5 hb hB5.lt
   obtain ⟨c0, c1, f0, f1⟩ := hB2.two
   have hb2 : Below w.heap.size w w2 := Bel.step hb5 hb
   go_wp2_with fail
   refine bodyPost_ret (v := .agg #[.slice A4 n4 m4, .int .i64 4]) (by simp [results, Tryz.results63, go_sem, c0, c1]) rfl ?_
   first | exact ⟨CkRes0.no (by decide), bELt⟩ | exact ⟨CkRes.no (Wg.mono (B := w5.heap.size) (Wg.setCell (Wg.setCell hg4 hB5.lt _) hB5.lt _) hb5.size) (by decide), bELt⟩
 by_cases q1 : (L : Int) > 6
 · go_enter Tryz.func63, Tryz.ntmps63
   go_wp2_with fail
   (refine calls_named ?_; intro w5 hw5)
   have hB5 : Blk w5 (w.heap.size + 1) 126 #[.slice none 0 0, .int .i64 0] := by rw [hw5]; exact bLNt
   have hb5 : Below w.heap.size w w5 := by rw [hw5]; exact bELt
   clear hw5
   with_reducible refine (refAt0_any _ _ _ _).mono ?_
   rintro e w2 ⟨⟨A4, n4, m4, rfl, hg4⟩, hb⟩
   have hB2 := Blk.below hB5 hb hB5.lt
   obtain ⟨c0, c1, f0, f1⟩ := hB2.two
   have hb2 : Below w.heap.size w w2 := Bel.step hb5 hb
   go_wp2_with fail
   refine bodyPost_ret (v := .agg #[.slice A4 n4 m4, .int .i64 4]) (by simp [results, Tryz.results63, go_sem, c0, c1]) rfl ?_
   first | exact ⟨CkRes0.no (by decide), bELt⟩ | exact ⟨CkRes.no (Wg.mono (B := w5.heap.size) (Wg.setCell (Wg.setCell hg4 hB5.lt _) hB5.lt _) hb5.size) (by decide), bELt⟩
 by_cases q2 : L = 0
 · have j1 : ((L : Int) == 0) = true := by simp; exact q2
   go_enter Tryz.func63, Tryz.ntmps63
   go_wp2_with fail
   (refine calls_named ?_; intro w5 hw5)
   have hB5 : Blk w5 (w.heap.size + 1) 126 #[.slice none 0 0, .int .i64 0] := by rw [hw5]; exact bLNt
   have hb5 : Below w.heap.size w w5 := by rw [hw5]; exact bELt
   clear hw5
   with_reducible refine (refAt0_any _ _ _ _).mono ?_
   rintro e w2 ⟨⟨A4, n4, m4, rfl, hg4⟩, hb⟩
   have hB2 := Blk.below hB5 hb hB5.lt
   obtain ⟨c0, c1, f0, f1⟩ := hB2.two
   have hb2 : Below w.heap.size w w2 := Bel.step hb5 hb
   go_wp2_with fail
   refine bodyPost_ret (v := .agg #[.slice A4 n4 m4, .int .i64 1]) (by simp [results, Tryz.results63, go_sem, c0, c1]) rfl ?_
   first | exact ⟨CkRes0.no (by decide), bELt⟩ | exact ⟨CkRes.no (Wg.mono (B := w5.heap.size) (Wg.setCell (Wg.setCell hg4 hB5.lt _) hB5.lt _) hb5.size) (by decide), bELt⟩
 have j1 : ((L : Int) == 0) = false := by simp; exact q2
 go_enter Tryz.func63, Tryz.ntmps63
 go_wp2_with fail
 (refine wp_named ?_; intro w1 hw1)
 have hb1 : Below w.heap.size w w1 := by rw [hw1]; exact bELt
 have hQ : Blk w1 w.heap.size 29 #[.slice Q L cq] := by rw [hw1]; exact bLNt
 have hB : Blk w1 (w.heap.size + 1) 126 #[.slice none 0 0, .int .i64 0] := by rw [hw1]; exact bLNt
 clear hw1
 go_loopw [7] (fun q W => Below w.heap.size w W ∧ Blk W w.heap.size 29 #[.slice Q L cq] ∧ Blk W (w.heap.size + 1) 126 #[.slice none 0 0, .int .i64 0] ∧ ∃ i : Nat, i ≤ L ∧ q = .int .i64 ((i : Int) + 1) ∧ ∀ (j : Nat) (l : List Int), j < i → ls[j]? = some l → LvlOk n l ∧ ∀ q, prevOf ls j = some q → NestOk q l) (fun q _ => L + 1 - (intOf q).toNat)
 case atStart => exact ⟨hb1, hQ, hB, 0, Nat.zero_le _, rfl, fun _ _ h => absurd h (Nat.not_lt_zero _)⟩
 case round =>
  clear hb1 hQ hB
  obtain ⟨hbl, hQ, hB, i, hi, rfl, hall⟩ := hrel
  have HA := Lib.hid hall
  clear hall
  have y0 := hQ.cell 0
  simp only [List.getElem?_toArray, List.getElem?_cons_zero] at y0
  by_cases hlt : i < L
  · obtain ⟨l, hl⟩ : ∃ l, ls[i]? = some l := ⟨_, List.getElem?_eq_getElem (by rw [HT.out.1]; exact hlt)⟩
    have HCL := Lib.hid (checkLevel_any Q n L cq i ls l wr (HT.out.below hbl) hl (by omega) (by omega) (fun j p e hp => (HA.out j p (by omega) hp).1.len))
    have HLL := Lib.hid hl
    have HI := Lib.hid (@lvlCode_inv n (prevOf ls i) l)
    have i1 : (i : Int) + 1 ≤ (L : Int) := by omega
    clear hl
    generalize lvlCode n (prevOf ls i) l = code at *
    go_wp2_with fail
    with_reducible refine HCL.out.mono ?_
    rintro e w2 ⟨rfl, hb2⟩
    have hQ2 := hQ.below hb2 hQ.lt
    have hB2 := hB.below hb2 hB.lt
    have hbw2 := Bel.step hbl hb2
    clear hQ hB y0 HCL hb2
    by_cases hc : code = 0
    · subst hc
      have HO := Lib.hid (HI.out rfl)
      clear HI
      go_wp2_with fail
      go_roundw
      case rel => exact ⟨hbw2, hQ2, hB2, i + 1, by omega, by go_num, fun j l' hj hl' => by
       by_cases e : j = i
       · subst e
         rw [HLL.out] at hl'
         cases hl'
         exact HO.out
       · exact HA.out j l' (by omega) hl'⟩
      case measure => simp [intOf]; omega
    · have e1 : (code == 0) = false := by simpa using hc
      have e2 : (code != 0) = true := by simpa using hc
      have HC := Lib.hid hc
      clear hc
      go_wp2_with fail
      with_reducible refine (refAt0_any _ _ _ _).mono ?_
      rintro e w3 ⟨⟨A4, n4, m4, rfl, hg4⟩, hb3⟩
      have hB3 := hB2.below hb3 hB2.lt
      obtain ⟨c0, c1, f0, f1⟩ := hB3.two
      have hbw3 := Bel.step hbw2 hb3
      go_wp2_with fail
      refine bodyPost_ret (v := .agg #[.slice A4 n4 m4, .int .i64 code]) (by simp [results, Tryz.results63, go_sem, c0, c1]) rfl ?_
      exact ⟨CkRes0.no HC.out, bELt⟩
  · obtain rfl : L = i := by omega
    obtain ⟨c0, c1, f0, f1⟩ := hB.two
    have zB := hB.lt
    have HP := Lib.hid (show PartOk n ls from ⟨by rw [HT.out.1]; omega, by rw [HT.out.1]; omega, fun l hl => by
     obtain ⟨j, hj⟩ := List.getElem?_of_mem hl
     exact (HA.out j l (by rw [← HT.out.1]; exact (List.getElem?_eq_some_iff.1 hj).1) hj).1, fun j p l hp hl => (HA.out (j + 1) l (by rw [← HT.out.1]; exact (List.getElem?_eq_some_iff.1 hl).1) hl).2 p (by rw [prevOf_succ]; exact hp)⟩)
    clear HA
    go_wp2_with fail
    refine bodyPost_ret (v := .agg #[.slice none 0 0, .int .i64 0]) (by simp [results, Tryz.results63, go_sem, c0, c1]) rfl ?_
    exact ⟨⟨_, _, _, _, rfl, .inl ⟨rfl, HP.out⟩⟩, bELt⟩
structure FewP (ls : List (List Int)) : Prop where
 l : ls.length ≤ 10
 r : ∀ l ∈ ls, l.length ≤ 60
set_option maxHeartbeats 1000000 in
theorem fewP_any (Q : Option Addr) (L cq : Nat) (ls : List (List Int)) (w : World) (h : RdT w Q L ls) (hL : L ≤ 9223372036854775807) :
 Calls Tryz.prog 62 #[.agg #[.slice Q L cq]] w fun e w' => BoolRes (FewP ls) e ∧ Below w.heap.size w w' := by
 have HT := Lib.hid h
 have HLE := Lib.hid h.1
 clear h
 go_enter Tryz.func62, Tryz.ntmps62
 go_wp2_with fail
 (refine wp_named ?_; intro w1 hw1)
 have hb1 : Below w.heap.size w w1 := by rw [hw1]; exact bELt
 have hQ : Blk w1 w.heap.size 29 #[.slice Q L cq] := by rw [hw1]; exact bLNt
 have H1 := Lib.hid (HT.out.below hb1)
 clear hw1
 have y0 := hQ.cell 0
 simp only [List.getElem?_toArray, List.getElem?_cons_zero] at y0
 go_loop [3] (fun q => ∃ i : Nat, i ≤ L ∧ q = .int .i64 i ∧ ∀ j l, j < i → ls[j]? = some l → l.length ≤ 60) (fun q => L - (intOf q).toNat)
 case atStart => exact ⟨0, Nat.zero_le _, rfl, fun _ _ h => absurd h (Nat.not_lt_zero _)⟩
 case round =>
  obtain ⟨i, hi, rfl, hall⟩ := hrel
  have HA := Lib.hid hall
  clear hall
  by_cases hlt : i < L
  · obtain ⟨b, o, A, n, c, l, rfl, hl, hc, hr, q1, q2⟩ := H1.out.at_ hlt
    have i1 : (0 : Int) ≤ (i : Int) := by omega
    have i2 : (i : Int) < (L : Int) := by omega
    have HLL := Lib.hid hl
    have HR := Lib.hid hr.1
    clear hl hr
    by_cases q3 : (n : Int) > 60
    · go_wp2_with fail
      go_ret
      exact ⟨⟨false, rfl, fun h => by cases h⟩, hb1⟩
    · go_wp2_with fail
      go_round
      case rel => exact ⟨i + 1, by omega, by go_num, fun j l' hj hl' => by
       by_cases e : j = i
       · subst e
         rw [HLL.out] at hl'
         cases hl'
         rw [HR.out]
         omega
       · exact HA.out j l' (by omega) hl'⟩
      case measure => simp [intOf]; omega
  · obtain rfl : L = i := by omega
    go_wp2_with fail
    go_ret
    refine ⟨⟨_, rfl, fun h => ⟨by rw [HLE.out]; have := of_decide_eq_true h; omega, fun l hl => ?_⟩⟩, hb1⟩
    obtain ⟨j, hj⟩ := List.getElem?_of_mem hl
    exact HA.out j l (by rw [← HLE.out]; exact (List.getElem?_eq_some_iff.1 hj).1) hj
set_option maxHeartbeats 1000000 in
theorem may13_any (Q : Option Addr) (n L cq : Nat) (ls : List (List Int)) (w : World) (h : RdT w Q L ls) (hL : L ≤ 9223372036854775807) :
 Calls Tryz.prog 36 #[.int .i64 n, .agg #[.slice Q L cq]] w fun e w' => BoolRes (FewP ls ∧ n ≤ 60 ∧ PartOk n ls) e ∧ Below w.heap.size w w' := by
 have HT := Lib.hid h
 clear h
 go_enter Tryz.func36, Tryz.ntmps36
 go_wp2_with fail
 (refine calls_named ?_; intro w1 hw1)
 have hb1 : Below w.heap.size w w1 := by rw [hw1]; exact bELt
 have hQ : Blk w1 w.heap.size 29 #[.slice Q L cq] := by rw [hw1]; exact bLNt
 clear hw1
 with_reducible refine (fewP_any Q L cq ls w1 (HT.out.below hb1) hL).mono ?_
 rintro e w2 ⟨⟨bb, rfl, hf⟩, hb2⟩
 have hbw2 := Bel.step hb1 hb2
 have y0 := (hQ.below hb2 hQ.lt).cell 0
 simp only [List.getElem?_toArray, List.getElem?_cons_zero] at y0
 clear hQ hb2
 cases bb
 · go_wp2_with fail
   go_ret
   exact ⟨⟨false, rfl, fun h => by cases h⟩, hbw2⟩
 have HF := Lib.hid (hf rfl)
 clear hf
 by_cases q0 : (n : Int) ≤ 60
 rotate_left
 · go_wp2_with fail
   go_ret
   exact ⟨⟨false, rfl, fun h => by cases h⟩, hbw2⟩
 go_wp2_with fail
 with_reducible refine (checkPart_any Q n L cq ls w2 (HT.out.below hbw2)).mono ?_
 rintro e w3 ⟨⟨A4, k4, c4, x, rfl, hx⟩, hb3⟩
 have hbw3 := Bel.step hbw2 hb3
 have hfe := fieldErr A4 k4 c4 x w3
 clear y0
 rcases hx with ⟨rfl, hG⟩ | hx
 · have HG := Lib.hid hG
   clear hG
   go_wp2_with fail
   go_ret
   exact ⟨⟨true, rfl, fun _ => ⟨HF.out, by omega, HG.out⟩⟩, hbw3⟩
 · go_wp2_with fail
   go_ret
   exact ⟨⟨_, rfl, fun h => absurd (by simpa using h) hx⟩, hbw3⟩
structure MayOk (N : NetD) (ls : List (List Int)) : Prop where
 small : SmallOk N
 few : FewP ls
 part : PartOk N.vs.length ls
set_option maxHeartbeats 1000000 in
theorem may15_any (A B C Q : Option Addr) (n m k c d e L cq : Nat) (N : NetD) (ls : List (List Int)) (w : World) (h : RdNet w A B C n m k N) (hk : k ≤ 9223372036854775807) (hq : RdT w Q L ls) (hL : L ≤ 9223372036854775807) :
 Calls Tryz.prog 8 #[.agg #[.slice A n c, .slice B m d, .slice C k e], .agg #[.slice Q L cq]] w fun e w' => BoolRes (MayOk N ls) e ∧ Below w.heap.size w w' := by
 have HH := Lib.hid h
 have HT := Lib.hid hq
 have HLV := Lib.hid h.1.1
 clear h hq
 go_enter Tryz.func8, Tryz.ntmps8
 go_wp2_with fail
 (refine calls_named ?_; intro w1 hw1)
 have hb1 : Below w.heap.size w w1 := by rw [hw1]; exact bELt
 have hN : Blk w1 w.heap.size 26 #[.slice A n c, .slice B m d, .slice C k e] := by rw [hw1]; exact bLNt
 have hQ : Blk w1 (w.heap.size + 1) 29 #[.slice Q L cq] := by rw [hw1]; exact bLNt
 clear hw1
 with_reducible refine (small_any A B C n m k c d e N w1 (HH.out.below hb1) hk).mono ?_
 rintro r w2 ⟨⟨bb, rfl, hf⟩, hb2⟩
 have hbw2 := Bel.step hb1 hb2
 have y0 := (hQ.below hb2 hQ.lt).cell 0
 simp only [List.getElem?_toArray, List.getElem?_cons_zero] at y0
 obtain ⟨n0, n1, n2⟩ := (hN.below hb2 hN.lt).three
 clear hQ hb2 hN
 cases bb
 · go_wp2_with fail
   go_ret
   exact ⟨⟨false, rfl, fun h => by cases h⟩, hbw2⟩
 have HF := Lib.hid (hf rfl)
 clear hf
 go_wp2_with fail
 with_reducible refine (may13_any Q n L cq ls w2 (HT.out.below hbw2) hL).mono ?_
 rintro r w3 ⟨⟨bb, rfl, hf⟩, hb3⟩
 have HF2 := Lib.hid hf
 have hbw3 := Bel.step hbw2 hb3
 clear hf
 go_wp2_with fail
 go_ret
 exact ⟨⟨bb, rfl, fun h => ⟨HF.out, (HF2.out h).1, by rw [HLV.out]; exact (HF2.out h).2.2⟩⟩, hbw3⟩
end Go.Proofs.YtgkeolddpielpaaGreat

namespace Go.Proofs.YtgkeolddpielpaaGreat
open Go.RowKit

def TabAt2 (w v : World) (b o : Nat) (t : TabD) : Prop := w.cell? ⟨b, o, none⟩ = some (.int .i64 t.ins) ∧ w.cell? ⟨b, o + 1, none⟩ = some (.int .i64 t.outs) ∧ ∃ (A : Option Addr) (n c : Nat), w.cell? ⟨b, o + 2, none⟩ = some (.slice A n c) ∧ RdI v A n t.costs ∧ n ≤ c ∧ c ≤ 9223372036854775807
def RdY2 (w v : World) (A : Option Addr) (n : Nat) (l : List TabD) : Prop := l.length = n ∧ ∀ i t, l[i]? = some t → ∃ b o, A = some ⟨b, o, none⟩ ∧ TabAt2 w v b (o + i * 3) t
theorem RdY2.rdY {w v : World} {A : Option Addr} {n : Nat} {l : List TabD} (h : RdY2 w v A n l) (hl : Le v w) : RdY w A n l :=
 ⟨h.1, fun i t ht => by
  obtain ⟨b, o, e, h1, h2, A', n', c', h3, h4, h5⟩ := h.2 i t ht
  exact ⟨b, o, e, h1, h2, A', n', c', h3, h4.le hl, h5⟩⟩
theorem RdY2.le {w w' v v' : World} {A : Option Addr} {n : Nat} {l : List TabD} (h : RdY2 w v A n l) (hw : ∀ b o x, blkOf A = some b → w.cell? ⟨b, o, none⟩ = some x → w'.cell? ⟨b, o, none⟩ = some x) (hl : Le v v') : RdY2 w' v' A n l :=
 ⟨h.1, fun i t ht => by
  obtain ⟨b, o, e, h1, h2, A', n', c', h3, h4, h5⟩ := h.2 i t ht
  have hb : blkOf A = some b := by rw [e]; rfl
  exact ⟨b, o, e, hw _ _ _ hb h1, hw _ _ _ hb h2, A', n', c', hw _ _ _ hb h3, h4.le hl, h5⟩⟩
def Warm (W : World) (A : Option Addr) : Prop := ∀ b, blkOf A = some b → b < W.heap.size ∧ ∀ o, W.frozen? ⟨b, o, none⟩ = false
theorem Warm.keep {W W' : World} {A : Option Addr} (h : Warm W A) (hz : W.heap.size ≤ W'.heap.size) (hk : ∀ b, blkOf A = some b → W'.heap[b]? = W.heap[b]?) : Warm W' A := fun b hb =>
 ⟨Nat.lt_of_lt_of_le (h b hb).1 hz, fun o => by rw [World.frozen?_of_block (hk b hb)]; exact (h b hb).2 o⟩
theorem Own.warm {w : World} {B s n c : Nat} {e : TypeId} {A : Option Addr} {xs : List Value} (h : Own w B e s A n c xs) : Warm w A := fun b hb => by
 refine ⟨(h.lt b hb).2, fun o => ?_⟩
 rcases h.2 with ⟨h', _⟩ | ⟨g, cap, cur, h1, h2, h3, _⟩
 · cases h'; cases hb
 · cases h1
   cases hb
   exact Blk.frozen (t := e) (cs := cur) h3 o
structure NetR (W : World) (G : Nat → Prop) (A B C : Option Addr) (n m k : Nat) (N : NetD) : Prop where
 vs : Rd3 (msk W G) A n N.vs
 ar : Rd3 W B m N.ar
 ts : RdY2 W (msk W G) C k N.ts
 wa : Warm W B
 wt : Warm W C
 ga : ∀ b, blkOf B = some b → ¬ G b
 gt : ∀ b, blkOf C = some b → ¬ G b
 ac : ∀ b, blkOf B = some b → blkOf C ≠ some b
theorem cell_keep {W W' : World} {b o : Nat} {x : Value} (hk : W'.heap[b]? = W.heap[b]?) (h : W.cell? ⟨b, o, none⟩ = some x) : W'.cell? ⟨b, o, none⟩ = some x := by
 rw [World.cell?_of_block (a := ⟨b, o, none⟩) hk]; exact h
theorem Rd3.keep {W W' : World} {A : Option Addr} {n : Nat} {l : List Tri} (h : Rd3 W A n l) (hk : ∀ b, blkOf A = some b → W'.heap[b]? = W.heap[b]?) : Rd3 W' A n l :=
 ⟨h.1, fun i x hx => by
  obtain ⟨b, o, e, h1, h2, h3⟩ := h.2 i x hx
  have hb := hk b (by rw [e]; rfl)
  exact ⟨b, o, e, cell_keep hb h1, cell_keep hb h2, cell_keep hb h3⟩⟩
section
variable {W W' : World} {G : Nat → Prop} {A B C : Option Addr} {n m k : Nat} {N : NetD}
theorem NetR.rd (h : NetR W G A B C n m k N) : RdNet W A B C n m k N := ⟨h.vs.le (msk_le W G), h.ar, h.ts.rdY (msk_le W G)⟩
theorem NetR.keep (h : NetR W G A B C n m k N) (hz : W.heap.size ≤ W'.heap.size) (hG : Kept G W W') (hB : ∀ b, blkOf B = some b → W'.heap[b]? = W.heap[b]?) (hC : ∀ b, blkOf C = some b → W'.heap[b]? = W.heap[b]?) : NetR W' G A B C n m k N where
 vs := h.vs.le hG.msk
 ar := h.ar.keep hB
 ts := h.ts.le (fun b _ _ hb hc => cell_keep (hC b hb) hc) hG.msk
 wa := h.wa.keep hz hB
 wt := h.wt.keep hz hC
 ga := h.ga
 gt := h.gt
 ac := h.ac
theorem NetR.below (h : NetR W G A B C n m k N) (hb : Below W.heap.size W W') : NetR W' G A B C n m k N :=
 h.keep hb.size (Kept.below hb) (fun b e => hb.block b (h.wa b e).1) (fun b e => hb.block b (h.wt b e).1)
theorem NetR.mono {G' : Nat → Prop} (h : NetR W G A B C n m k N) (hs : ∀ b, G b → G' b) (ha : ∀ b, blkOf B = some b → ¬ G' b) (ht : ∀ b, blkOf C = some b → ¬ G' b) : NetR W G' A B C n m k N where
 vs := h.vs.le (msk_mono hs)
 ar := h.ar
 ts := h.ts.le (fun _ _ _ _ hc => hc) (msk_mono hs)
 wa := h.wa
 wt := h.wt
 ga := ha
 gt := ht
 ac := h.ac
end
structure GrR (W : World) (F G : Nat → Prop) (g : Nat) (A B C I O P : Option Addr) (n m k c d e ci co cp : Nat) (N : NetD) : Prop where
 net : NetR W G A B C n m k N
 blk : Blk W g 114 #[.slice A n c, .slice B m d, .slice C k e, .slice I n ci, .slice O n co, .slice P m cp]
 gg : G g
 ins : RdT (msk W G) I n (idxs (·.2.1) N.ar n)
 outs : RdT (msk W G) O n (idxs (·.1) N.ar n)
 plc : RdP (msk W G) P m (plcs N.ar)
 sub : ∀ b, (G b ∨ blkOf B = some b ∨ blkOf C = some b) → F b
 lt : ∀ b, F b → b < W.heap.size
 ok : NetOk N
 c0 : n ≤ c ∧ c ≤ 9223372036854775807
 c1 : m ≤ d ∧ d ≤ 9223372036854775807
 c2 : k ≤ e ∧ e ≤ 9223372036854775807
def GrO (W : World) (F : Nat → Prop) (g : Nat) (N : NetD) : Prop := ∃ (G : Nat → Prop) (A B C I O P : Option Addr) (n m k c d e ci co cp : Nat), GrR W F G g A B C I O P n m k c d e ci co cp N
structure GrV (W : World) (g : Nat) (A B C I O P : Option Addr) (n m k c d e ci co cp : Nat) (N : NetD) : Prop where
 net : RdNet W A B C n m k N
 n0 : W.cell? ⟨g, 0, none⟩ = some (.slice A n c)
 n1 : W.cell? ⟨g, 1, none⟩ = some (.slice B m d)
 n2 : W.cell? ⟨g, 2, none⟩ = some (.slice C k e)
 n3 : W.cell? ⟨g, 3, none⟩ = some (.slice I n ci)
 n4 : W.cell? ⟨g, 4, none⟩ = some (.slice O n co)
 n5 : W.cell? ⟨g, 5, none⟩ = some (.slice P m cp)
 ins : RdT W I n (idxs (·.2.1) N.ar n)
 outs : RdT W O n (idxs (·.1) N.ar n)
 plc : RdP W P m (plcs N.ar)
 ok : NetOk N
 c0 : n ≤ c ∧ c ≤ 9223372036854775807
 c1 : m ≤ d ∧ d ≤ 9223372036854775807
 c2 : k ≤ e ∧ e ≤ 9223372036854775807
def RdGr (W : World) (g : Nat) (N : NetD) : Prop := ∃ (A B C I O P : Option Addr) (n m k c d e ci co cp : Nat), GrV W g A B C I O P n m k c d e ci co cp N
theorem RdGr.le {W W' : World} {g : Nat} {N : NetD} (h : RdGr W g N) (hl : Le W W') : RdGr W' g N := by
 obtain ⟨A, B, C, I, O, P, n, m, k, c, d, e, ci, co, cp, h⟩ := h
 exact ⟨A, B, C, I, O, P, n, m, k, c, d, e, ci, co, cp, h.net.le hl, hl _ _ h.n0, hl _ _ h.n1, hl _ _ h.n2, hl _ _ h.n3, hl _ _ h.n4, hl _ _ h.n5, h.ins.le hl, h.outs.le hl, h.plc.le hl, h.ok, h.c0, h.c1, h.c2⟩
theorem RdGr.below {W W' : World} {g : Nat} {N : NetD} (h : RdGr W g N) (hb : Below W.heap.size W W') : RdGr W' g N := h.le (Le.below hb)
theorem Blk.six {w : World} {g : Nat} {t : TypeId} {a b c d e f : Value} (h : Blk w g t #[a, b, c, d, e, f]) :
 w.cell? ⟨g, 0, none⟩ = some a ∧ w.cell? ⟨g, 1, none⟩ = some b ∧ w.cell? ⟨g, 2, none⟩ = some c ∧ w.cell? ⟨g, 3, none⟩ = some d ∧ w.cell? ⟨g, 4, none⟩ = some e ∧ w.cell? ⟨g, 5, none⟩ = some f :=
 ⟨by rw [h.cell]; rfl, by rw [h.cell]; rfl, by rw [h.cell]; rfl, by rw [h.cell]; rfl, by rw [h.cell]; rfl, by rw [h.cell]; rfl⟩
theorem GrO.rd {W : World} {F : Nat → Prop} {g : Nat} {N : NetD} (h : GrO W F g N) : RdGr W g N := by
 obtain ⟨G, A, B, C, I, O, P, n, m, k, c, d, e, ci, co, cp, h⟩ := h
 obtain ⟨h0, h1, h2, h3, h4, h5⟩ := h.blk.six
 exact ⟨A, B, C, I, O, P, n, m, k, c, d, e, ci, co, cp, h.net.rd, h0, h1, h2, h3, h4, h5, h.ins.le (msk_le W G), h.outs.le (msk_le W G), h.plc.le (msk_le W G), h.ok, h.c0, h.c1, h.c2⟩
end Go.Proofs.YtgkeolddpielpaaGreat

namespace Go.Proofs.YtgkeolddpielpaaGreat
open Go.RowKit

attribute [local go_sem ↓] Go.wp_at_zero Go.wp_at_succ

theorem NetOk.arLe {N : NetD} (h : NetOk N) {m : Nat} (e : N.ar.length = m) : m ≤ 16384 := by rw [← e]; exact h.la
theorem gVerts_any (g : Nat) (N : NetD) (w : World) (h : RdGr w g N) : Calls Tryz.prog 65 #[.pointer (some ⟨g, 0, none⟩)] w fun e w' => e = .returned (.int .i64 (N.vs.length : Int)) ∧ w = w' := by
 obtain ⟨A, B, C, I, O, P, n, m, k, c, d, e, ci, co, cp, h⟩ := h
 have h0 := h.n0
 have HL := Lib.hid h.net.1.1
 clear h
 go_enter Tryz.func65, Tryz.ntmps65
 go_wp2
 go_ret
 exact ⟨ret_int (by rw [HL.out]), rfl⟩
theorem gArcs_any (g : Nat) (N : NetD) (w : World) (h : RdGr w g N) : Calls Tryz.prog 68 #[.pointer (some ⟨g, 0, none⟩)] w fun e w' => e = .returned (.int .i64 (N.ar.length : Int)) ∧ w = w' := by
 obtain ⟨A, B, C, I, O, P, n, m, k, c, d, e, ci, co, cp, h⟩ := h
 have h1 := h.n1
 have HL := Lib.hid h.net.2.1.1
 clear h
 go_enter Tryz.func68, Tryz.ntmps68
 go_wp2
 go_ret
 exact ⟨ret_int (by rw [HL.out]), rfl⟩
theorem gArc_ok (g : Nat) (N : NetD) (a : Int) (w : World) (h : RdGr w g N) (h0 : 0 ≤ a) (h1 : a < N.ar.length) : Calls Tryz.prog 52 #[.pointer (some ⟨g, 0, none⟩), .int .i64 a] w fun e w' => e = .returned (.bool true) ∧ w = w' := by
 obtain ⟨A, B, C, I, O, P, n, m, k, c, d, e, ci, co, cp, h⟩ := h
 have hn1 := h.n1
 have hl := h.net.2.1.1
 rw [hl] at h1
 clear hl h
 go_enter Tryz.func52, Tryz.ntmps52
 go_wp2
 go_ret
 exact ⟨ret_bool (by first | (simp; done) | (simp; omega)), rfl⟩
theorem gFrom_ok (g a : Nat) (N : NetD) (x : Tri) (w : World) (h : RdGr w g N) (hx : N.ar[a]? = some x) : Calls Tryz.prog 69 #[.pointer (some ⟨g, 0, none⟩), .int .i64 a] w fun e w' => e = .returned (.int .i64 x.1) ∧ w = w' := by
 have HA := Lib.hid (show ∀ V, V = w → Calls Tryz.prog 52 #[.pointer (some ⟨g, 0, none⟩), .int .i64 a] V fun e w' => e = .returned (.bool true) ∧ V = w' from fun V e => e ▸ gArc_ok g N a w h (by omega) (by have := (List.getElem?_eq_some_iff.1 hx).1; omega))
 obtain ⟨A, B, C, I, O, P, n, m, k, c, d, e, ci, co, cp, h⟩ := h
 have hn1 := h.n1
 have ha : a < m := by have := (List.getElem?_eq_some_iff.1 hx).1; rw [h.net.2.1.1] at this; exact this
 have hm := h.ok.arLe h.net.2.1.1
 obtain ⟨b, o, x', y', z', rfl, hx', cx, cy, cz⟩ := h.net.2.1.at_ ha
 rw [hx] at hx'
 cases hx'
 have i1 : (0 : Int) ≤ (a : Int) := by omega
 have i2 : (a : Int) < (m : Int) := by omega
 clear hx h
 go_enter Tryz.func69, Tryz.ntmps69
 go_wp2_with fail
 with_reducible refine (HA.out _ rfl).mono ?_
 rintro e w' ⟨rfl, rfl⟩
 go_wp2
 go_ret
 exact ⟨rfl, rfl⟩
theorem gTo_ok (g a : Nat) (N : NetD) (x : Tri) (w : World) (h : RdGr w g N) (hx : N.ar[a]? = some x) : Calls Tryz.prog 70 #[.pointer (some ⟨g, 0, none⟩), .int .i64 a] w fun e w' => e = .returned (.int .i64 x.2.1) ∧ w = w' := by
 have HA := Lib.hid (show ∀ V, V = w → Calls Tryz.prog 52 #[.pointer (some ⟨g, 0, none⟩), .int .i64 a] V fun e w' => e = .returned (.bool true) ∧ V = w' from fun V e => e ▸ gArc_ok g N a w h (by omega) (by have := (List.getElem?_eq_some_iff.1 hx).1; omega))
 obtain ⟨A, B, C, I, O, P, n, m, k, c, d, e, ci, co, cp, h⟩ := h
 have hn1 := h.n1
 have ha : a < m := by have := (List.getElem?_eq_some_iff.1 hx).1; rw [h.net.2.1.1] at this; exact this
 have hm := h.ok.arLe h.net.2.1.1
 obtain ⟨b, o, x', y', z', rfl, hx', cx, cy, cz⟩ := h.net.2.1.at_ ha
 rw [hx] at hx'
 cases hx'
 have i1 : (0 : Int) ≤ (a : Int) := by omega
 have i2 : (a : Int) < (m : Int) := by omega
 clear hx h
 go_enter Tryz.func70, Tryz.ntmps70
 go_wp2_with fail
 with_reducible refine (HA.out _ rfl).mono ?_
 rintro e w' ⟨rfl, rfl⟩
 go_wp2
 go_ret
 exact ⟨rfl, rfl⟩
end Go.Proofs.YtgkeolddpielpaaGreat

namespace Go.Proofs.YtgkeolddpielpaaGreat
open Go.RowKit

/-! Rows of ints, each of the call's own, as the cells of one block. -/
def IkG (t : TypeId) (W : World) (B g n : Nat) (ls : List (List Int)) : Prop :=
 ls.length = n ∧ g < B ∧ ∃ cs, Blk W g t cs ∧ cs.size = n ∧ (∀ (v : Nat) (l : List Int), ls[v]? = some l → ∃ A c, cs[v]? = some (.slice A l.length c) ∧ Own W B 3 1 A l.length c (icells l)) ∧
  ∀ (v v' : Nat) A m c A' m' c', v ≠ v' → cs[v]? = some (.slice A m c) → cs[v']? = some (.slice A' m' c') → Dj A A'
theorem IkG.start {t : TypeId} {W : World} {B g n : Nat} (hg : g < B) (h : Blk W g t (zeros (.slice none 0 0) n)) : IkG t W B g n (List.replicate n []) := by
 refine ⟨by simp, hg, _, h, by simp [zeros], fun v l hl => ?_, fun v v' A m c A' m' c' _ h1 _ => ?_⟩
 · obtain ⟨hv, e⟩ := List.getElem?_eq_some_iff.1 hl
   simp at e
   subst e
   refine ⟨none, 0, ?_, Own.nil _ _ _ _⟩
   simp at hv
   simp [zeros, hv]
 · have e := (Array.getElem?_eq_some_iff.1 h1).2
   simp [zeros] at e
   obtain ⟨rfl, _, _⟩ := e
   exact .inl rfl
theorem IkG.below {t : TypeId} {W W' : World} {B g n : Nat} {ls : List (List Int)} (h : IkG t W B g n ls) (hb : Below W.heap.size W W') : IkG t W' B g n ls := by
 obtain ⟨h1, h2, cs, h3, h4, h5, h6⟩ := h
 exact ⟨h1, h2, cs, h3.below hb h3.lt, h4, fun v l hl => by
  obtain ⟨A, c, k1, k2⟩ := h5 v l hl
  exact ⟨A, c, k1, k2.below hb⟩, h6⟩
theorem IkG.row {t : TypeId} {W : World} {B g n u : Nat} {ls : List (List Int)} (h : IkG t W B g n ls) (hu : u < n) : ∃ A c l, ls[u]? = some l ∧ W.cell? ⟨g, u, none⟩ = some (.slice A l.length c) ∧ W.frozen? ⟨g, u, none⟩ = false ∧ Own W B 3 1 A l.length c (icells l) := by
 obtain ⟨h1, h2, cs, h3, h4, h5, h6⟩ := h
 have hl : ls[u]? = some ls[u] := List.getElem?_eq_getElem (by omega)
 obtain ⟨A, c, k1, k2⟩ := h5 u _ hl
 exact ⟨A, c, _, hl, by rw [h3.cell]; exact k1, h3.frozen u, k2⟩
theorem IkG.lt {t : TypeId} {W : World} {B g n : Nat} {ls : List (List Int)} (h : IkG t W B g n ls) : g < W.heap.size := by
 obtain ⟨_, _, cs, h3, _⟩ := h
 exact h3.lt
theorem IkG.push {t : TypeId} {W w' : World} {B g n u c c' : Nat} {A A' : Option Addr} {ls : List (List Int)} {l : List Int} {k : Int} (h : IkG t W B g n ls) (hl : ls[u]? = some l) (hc : W.cell? ⟨g, u, none⟩ = some (.slice A l.length c))
 (hown : Own w' B 3 1 A' (l.length + 1) c' (icells l ++ icells [k])) (hg : W.grownBy w' (blkOf A)) (hat : blkOf A' = blkOf A ∨ blkOf A' = some W.heap.size) :
 IkG t (w'.setCell ⟨g, u, none⟩ (.slice A' (l.length + 1) c')) B g n (ls.set u (l ++ [k])) := by
 obtain ⟨h1, h2, cs, h3, h4, h5, h6⟩ := h
 have hu := (List.getElem?_eq_some_iff.1 hl).1
 have hcs : cs[u]? = some (.slice A l.length c) := by rw [← h3.cell]; exact hc
 obtain ⟨A0, c0, k1, hown0⟩ := h5 u l hl
 rw [hcs] at k1
 cases k1
 have hgA : blkOf A ≠ some g := hown0.ne h2
 have hgA' : blkOf A' ≠ some g := hown.ne h2
 refine ⟨by rw [List.length_set]; exact h1, h2, _, (h3.grown hg hgA).set_ u (.slice A' (l.length + 1) c'), by simpa using h4, fun v l' hl' => ?_, fun v v' X m d X' m' d' hne e1 e2 => ?_⟩
 · by_cases e : u = v
   · subst e
     rw [List.getElem?_set_self hu] at hl'
     cases hl'
     refine ⟨A', c', by rw [Array.getElem?_setIfInBounds_self_of_lt (by omega), List.length_append]; rfl, ?_⟩
     rw [List.length_append, icells_app]
     exact hown.far (grownBy_set _ _ _ _) (.inr hgA')
   · rw [List.getElem?_set_ne e] at hl'
     obtain ⟨X, d, k1, k2⟩ := h5 v l' hl'
     refine ⟨X, d, by rw [Array.getElem?_setIfInBounds_ne e]; exact k1, (k2.far hg (h6 u v _ _ _ _ _ _ e hcs k1).far).far (grownBy_set _ _ _ _) (.inr (k2.ne h2))⟩
 · have old : ∀ v X m d, u ≠ v → cs[v]? = some (.slice X m d) → Dj A' X := fun v X m d hv e3 => by
    have hv2 := (Array.getElem?_eq_some_iff.1 e3).1
    obtain ⟨X0, d0, k1, k2⟩ := h5 v _ (List.getElem?_eq_getElem (show v < ls.length by omega))
    rw [e3] at k1
    cases k1
    exact (h6 u v _ _ _ _ _ _ hv hcs e3).next k2 hat
   by_cases a1 : u = v
   · subst a1
     rw [Array.getElem?_setIfInBounds_self_of_lt (by omega)] at e1
     cases e1
     rw [Array.getElem?_setIfInBounds_ne hne] at e2
     exact old v' X' m' d' hne e2
   · rw [Array.getElem?_setIfInBounds_ne a1] at e1
     by_cases a2 : u = v'
     · subst a2
       rw [Array.getElem?_setIfInBounds_self_of_lt (by omega)] at e2
       cases e2
       exact (old v X m d a1 e1).symm
     · rw [Array.getElem?_setIfInBounds_ne a2] at e2
       exact h6 v v' X m d X' m' d' hne e1 e2
theorem IkG.cellG {t : TypeId} {W w' : World} {B g n u : Nat} {r : Option Nat} {ls : List (List Int)} (h : IkG t W B g n ls) (hu : u < n) (hg : W.grownBy w' r) (hr : r ≠ some g) : ∃ v, w'.cell? ⟨g, u, none⟩ = some v ∧ w'.frozen? ⟨g, u, none⟩ = false := by
 obtain ⟨h1, h2, cs, h3, h4, h5, h6⟩ := h
 have hb := h3.grown hg hr
 exact ⟨_, by rw [hb.cell]; exact Array.getElem?_eq_getElem (by omega), hb.frozen u⟩
/-! Arcs of a row that are marked. -/
def arcP (P : Tri → Bool) (l : List Tri) : List Int := (l.zipIdx.filter (fun p => P p.1)).map (fun p => (p.2 : Int))
theorem arcP_snoc (P : Tri → Bool) (l : List Tri) (a : Tri) : arcP P (l ++ [a]) = arcP P l ++ (if P a then [(l.length : Int)] else []) := by
 unfold arcP
 rw [List.zipIdx_append, List.filter_append, List.map_append]
 congr 1
 cases h : P a <;> simp [h]
theorem arcP_take {P : Tri → Bool} {l : List Tri} {a : Tri} {k : Nat} (h : l[k]? = some a) : arcP P (l.take (k + 1)) = arcP P (l.take k) ++ (if P a then [(k : Int)] else []) := by
 have hlt := (List.getElem?_eq_some_iff.1 h).1
 rw [List.take_succ_eq_append_getElem hlt, (List.getElem?_eq_some_iff.1 h).2, arcP_snoc, List.length_take, Nat.min_eq_left (by omega)]
theorem arcP_len (P : Tri → Bool) (l : List Tri) : (arcP P l).length ≤ l.length := by
 unfold arcP
 rw [List.length_map]
 refine Nat.le_trans (List.length_filter_le _ _) ?_
 simp
theorem mem_arcP {P : Tri → Bool} {l : List Tri} {x : Int} : x ∈ arcP P l ↔ ∃ (i : Nat) (a : Tri), x = (i : Int) ∧ l[i]? = some a ∧ P a = true := by
 unfold arcP
 simp only [List.mem_map, List.mem_filter]
 constructor
 · rintro ⟨⟨a, i⟩, ⟨h1, h2⟩, rfl⟩
   exact ⟨i, a, rfl, List.mem_zipIdx_iff_getElem?.1 h1, h2⟩
 · rintro ⟨i, a, rfl, h1, h2⟩
   exact ⟨(a, i), ⟨List.mem_zipIdx_iff_getElem?.2 h1, h2⟩, rfl⟩
theorem arcP_sorted (P : Tri → Bool) : ∀ l : List Tri, (arcP P l).Pairwise (· < ·) := by
 intro l
 unfold arcP
 rw [List.pairwise_map]
 refine List.Pairwise.filter _ ?_
 rw [List.pairwise_iff_getElem]
 intro i j hi hj hij
 simp
 exact hij
def cellOf (l : List Int) (v : Int) : Int := l.getD v.toNat 0
theorem cellOf_nat {l : List Int} {v : Nat} {p : Int} (h : l[v]? = some p) : cellOf l (v : Int) = p := by
 unfold cellOf
 rw [Int.toNat_natCast, List.getD_eq_getElem?_getD, h]
 rfl
def crossB (l : List Int) (a : Tri) : Bool := cellOf l a.1 != cellOf l a.2.1
def crossL (ar : List Tri) (l : List Int) : List Int := arcP (crossB l) ar
def toC (ar : List Tri) (l : List Int) (a : Int) : Int := cellOf l (ar.getD a.toNat (0, 0, 0)).2.1
def frC (ar : List Tri) (l : List Int) (a : Int) : Int := cellOf l (ar.getD a.toNat (0, 0, 0)).1
theorem toC_nat {ar : List Tri} {l : List Int} {a : Nat} {x : Tri} (h : ar[a]? = some x) : toC ar l (a : Int) = cellOf l x.2.1 := by
 unfold toC
 rw [Int.toNat_natCast, List.getD_eq_getElem?_getD, h]
 rfl
theorem frC_nat {ar : List Tri} {l : List Int} {a : Nat} {x : Tri} (h : ar[a]? = some x) : frC ar l (a : Int) = cellOf l x.1 := by
 unfold frC
 rw [Int.toNat_natCast, List.getD_eq_getElem?_getD, h]
 rfl
def gRows (t f : Int → Int) (X : List Int) (n : Nat) : List (List Int) := (List.range (n * 2)).map (fun i : Nat => if i % 2 = 0 then X.filter (fun a => t a == ((i / 2 : Nat) : Int)) else X.filter (fun a => f a == ((i / 2 : Nat) : Int)))
theorem gRows_len (t f : Int → Int) (X : List Int) (n : Nat) : (gRows t f X n).length = n * 2 := by simp [gRows]
theorem gRows_in {t f : Int → Int} {X : List Int} {n c : Nat} (h : c < n) : (gRows t f X n)[c * 2]? = some (X.filter (fun a => t a == (c : Int))) := by
 unfold gRows
 rw [List.getElem?_map, List.getElem?_range (by omega)]
 simp
theorem gRows_out {t f : Int → Int} {X : List Int} {n c : Nat} (h : c < n) : (gRows t f X n)[c * 2 + 1]? = some (X.filter (fun a => f a == (c : Int))) := by
 unfold gRows
 rw [List.getElem?_map, List.getElem?_range (by omega), Option.map_some, if_neg (by omega), show (c * 2 + 1) / 2 = c by omega]
theorem gRows_nil (t f : Int → Int) (n : Nat) : gRows t f [] n = List.replicate (n * 2) [] := by
 apply List.ext_getElem?
 intro i
 rcases Nat.lt_or_ge i (n * 2) with h | h
 · unfold gRows
   rw [List.getElem?_map, List.getElem?_range h]
   simp [h]
 · rw [List.getElem?_eq_none (by rw [gRows_len]; exact h), List.getElem?_eq_none (by simpa using h)]
theorem gRows_next {t f : Int → Int} {X : List Int} {n p q : Nat} {a : Int} (hp : t a = (p : Int)) (hq : f a = (q : Int)) (h1 : p < n) (h2 : q < n) :
 ((gRows t f X n).set (p * 2) (X.filter (fun a => t a == (p : Int)) ++ [a])).set (q * 2 + 1) (X.filter (fun a => f a == (q : Int)) ++ [a]) = gRows t f (X ++ [a]) n := by
 apply List.ext_getElem?
 intro i
 rcases Nat.lt_or_ge i (n * 2) with hi | hi
 · have hl : ∀ Y, (gRows t f Y n)[i]? = some (if i % 2 = 0 then Y.filter (fun a => t a == ((i / 2 : Nat) : Int)) else Y.filter (fun a => f a == ((i / 2 : Nat) : Int))) := fun Y => by
    unfold gRows
    rw [List.getElem?_map, List.getElem?_range hi]
    rfl
   by_cases e1 : q * 2 + 1 = i
   · subst e1
     rw [List.getElem?_set_self (by rw [List.length_set, gRows_len]; exact hi), gRows_out h2, List.filter_append]
     simp [hq]
   · rw [List.getElem?_set_ne e1]
     by_cases e2 : p * 2 = i
     · subst e2
       rw [List.getElem?_set_self (by rw [gRows_len]; exact hi), gRows_in h1, List.filter_append]
       simp [hp]
     · rw [List.getElem?_set_ne e2, hl, hl]
       congr 1
       rcases Nat.mod_two_eq_zero_or_one i with h0 | h0
       · rw [if_pos h0, if_pos h0, List.filter_append]
         simp [hp]
         omega
       · rw [if_neg (by omega), if_neg (by omega), List.filter_append]
         simp [hq]
         omega
 · rw [List.getElem?_eq_none (by rw [List.length_set, List.length_set, gRows_len]; exact hi), List.getElem?_eq_none (by rw [gRows_len]; exact hi)]

abbrev GateD := List Int × List Int
def RdC (w : World) (A : Option Addr) (n : Nat) (row : List GateD) : Prop :=
 row.length = n ∧ ∀ c x, row[c]? = some x → ∃ b o A1 n1 c1 A2 n2 c2, A = some ⟨b, o, none⟩ ∧ w.cell? ⟨b, o + c * 2, none⟩ = some (.slice A1 n1 c1) ∧ RdI w A1 n1 x.1 ∧ w.cell? ⟨b, o + c * 2 + 1, none⟩ = some (.slice A2 n2 c2) ∧ RdI w A2 n2 x.2 ∧ (n1 ≤ c1 ∧ c1 ≤ 9223372036854775807) ∧ n2 ≤ c2 ∧ c2 ≤ 9223372036854775807
theorem RdC.le {w w' : World} {A : Option Addr} {n : Nat} {row : List GateD} (h : RdC w A n row) (hl : Le w w') : RdC w' A n row :=
 ⟨h.1, fun c x hx => by
  obtain ⟨b, o, A1, n1, c1, A2, n2, c2, e, h1, h2, h3, h4, h5⟩ := h.2 c x hx
  exact ⟨b, o, A1, n1, c1, A2, n2, c2, e, hl _ _ h1, h2.le hl, hl _ _ h3, h4.le hl, h5⟩⟩
theorem RdC.at_ {w : World} {A : Option Addr} {n c : Nat} {row : List GateD} (h : RdC w A n row) (hc : c < n) : ∃ x b o A1 n1 c1 A2 n2 c2, row[c]? = some x ∧ A = some ⟨b, o, none⟩ ∧ w.cell? ⟨b, o + c * 2, none⟩ = some (.slice A1 n1 c1) ∧ RdI w A1 n1 x.1 ∧ w.cell? ⟨b, o + c * 2 + 1, none⟩ = some (.slice A2 n2 c2) ∧ RdI w A2 n2 x.2 ∧ (n1 ≤ c1 ∧ c1 ≤ 9223372036854775807) ∧ n2 ≤ c2 ∧ c2 ≤ 9223372036854775807 := by
 have hl : c < row.length := by rw [h.1]; exact hc
 obtain ⟨b, o, A1, n1, c1, A2, n2, c2, h1⟩ := h.2 c _ (List.getElem?_eq_getElem hl)
 exact ⟨_, b, o, A1, n1, c1, A2, n2, c2, List.getElem?_eq_getElem hl, h1⟩
def RdG (w : World) (A : Option Addr) (n : Nat) (gs : List (List GateD)) : Prop :=
 gs.length = n ∧ ∀ i row, gs[i]? = some row → ∃ b o A' n' c', A = some ⟨b, o, none⟩ ∧ w.cell? ⟨b, o + i, none⟩ = some (.slice A' n' c') ∧ RdC w A' n' row ∧ n' ≤ c' ∧ c' ≤ 9223372036854775807
theorem RdG.le {w w' : World} {A : Option Addr} {n : Nat} {gs : List (List GateD)} (h : RdG w A n gs) (hl : Le w w') : RdG w' A n gs :=
 ⟨h.1, fun i row hx => by
  obtain ⟨b, o, A', n', c', e, h1, h2, h3⟩ := h.2 i row hx
  exact ⟨b, o, A', n', c', e, hl _ _ h1, h2.le hl, h3⟩⟩
theorem RdG.at_ {w : World} {A : Option Addr} {n i : Nat} {gs : List (List GateD)} (h : RdG w A n gs) (hi : i < n) : ∃ row b o A' n' c', gs[i]? = some row ∧ A = some ⟨b, o, none⟩ ∧ w.cell? ⟨b, o + i, none⟩ = some (.slice A' n' c') ∧ RdC w A' n' row ∧ n' ≤ c' ∧ c' ≤ 9223372036854775807 := by
 have hl : i < gs.length := by rw [h.1]; exact hi
 obtain ⟨b, o, A', n', c', h1⟩ := h.2 i _ (List.getElem?_eq_getElem hl)
 exact ⟨_, b, o, A', n', c', List.getElem?_eq_getElem hl, h1⟩
def gateRow (ar : List Tri) (l : List Int) : List GateD := (List.range (mostN l).toNat).map (fun c : Nat => ((crossL ar l).filter (fun a => toC ar l a == (c : Int)), (crossL ar l).filter (fun a => frC ar l a == (c : Int))))
theorem gateRow_len (ar : List Tri) (l : List Int) : (gateRow ar l).length = (mostN l).toNat := by simp [gateRow]
theorem gateRow_get {ar : List Tri} {l : List Int} {c : Nat} (h : c < (mostN l).toNat) : (gateRow ar l)[c]? = some ((crossL ar l).filter (fun a => toC ar l a == (c : Int)), (crossL ar l).filter (fun a => frC ar l a == (c : Int))) := by
 unfold gateRow
 rw [List.getElem?_map, List.getElem?_range h]
 rfl
def gatesOf (ar : List Tri) (ls : List (List Int)) : List (List GateD) := ls.map (gateRow ar)
end Go.Proofs.YtgkeolddpielpaaGreat
