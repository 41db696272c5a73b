/- Parts of the proof: Ne7, Ne8. -/
import Derived.Test.YtpffhoefmcpniaaGreatDoorB1
import Derived.Test.YtpffhoefmcpniaaGreatDoorB34
import Derived.Test.YtpffhoefmcpniaaGreatDoorB35
namespace Go.Proofs.YtpffhoefmcpniaaGreatDoor
open Go.RowKit

attribute [local go_sem ↓] Go.wp_at_zero Go.wp_at_succ

theorem infoPiece : (Tryz.prog.info? 87).map (fun i => (i.zero, i.size, i.bytes)) = some (some (.agg #[.slice none 0 0, .slice none 0 0]), 2, 48) := by kernel_rfl
theorem pcs_len_le (N : NetD) (bd : Nat) {n : Nat} {vl : List Nat} (h : PcOk n vl) : (pcs N bd vl).length ≤ vl.length := by
 have h1 := flat_ge (fun p hp => (pcs_ok N bd vl h p hp).2)
 rw [(pcs_perm N bd vl).length_eq] at h1
 exact h1
structure PcR (N : NetD) (AL : Option Addr) (W : World) (B : Nat) (A : Option Addr) (n c : Nat) (xs : List Value) (ps : List (List Nat)) : Prop where
 own : Own W B 87 2 A n c xs
 len : ps.length = n
 at_ : ∀ (j : Nat) p, ps[j]? = some p → ∃ A1 c1 A2 c2, xs[j * 2]? = some (.slice A1 p.length c1) ∧ xs[j * 2 + 1]? = some (.slice A2 (arcsN N p).length c2) ∧ RdPc N AL W A1 A2 c1 c2 p ∧ ∀ g, blkOf A1 = some g ∨ blkOf A2 = some g → g < W.heap.size ∧ blkOf A ≠ some g
section
variable {N : NetD} {AL A A' A1 A2 : Option Addr} {W w' W' : World} {B n c c' c1 c2 : Nat} {xs : List Value} {ps : List (List Nat)} {p : List Nat}
theorem PcR.nil (N : NetD) (AL : Option Addr) (W : World) (B : Nat) : PcR N AL W B none 0 0 [] [] := ⟨Own.nil _ _ _ _, rfl, fun j p h => by simp at h⟩
theorem PcR.below (h : PcR N AL W B A n c xs ps) (hb : Below W.heap.size W W') : PcR N AL W' B A n c xs ps :=
 ⟨h.own.below hb, h.len, fun j p hp => by
  obtain ⟨A1, c1, A2, c2, h1, h2, h3, h4⟩ := h.at_ j p hp
  exact ⟨A1, c1, A2, c2, h1, h2, h3.below hb, fun g hg => ⟨Nat.lt_of_lt_of_le (h4 g hg).1 hb.size, (h4 g hg).2⟩⟩⟩
theorem PcR.push (h : PcR N AL W B A n c xs ps) (ho : Own w' B 87 2 A' (n + 1) c' (xs ++ [.slice A1 p.length c1, .slice A2 (arcsN N p).length c2])) (hg : W.grownBy w' (blkOf A)) (hat : blkOf A' = blkOf A ∨ blkOf A' = some W.heap.size)
 (hp : RdPc N AL W A1 A2 c1 c2 p) (hne : ∀ g, blkOf A1 = some g ∨ blkOf A2 = some g → g < W.heap.size ∧ blkOf A ≠ some g) : PcR N AL w' B A' (n + 1) c' (xs ++ [.slice A1 p.length c1, .slice A2 (arcsN N p).length c2]) (ps ++ [p]) := by
 have hxl : xs.length = ps.length * 2 := by rw [h.own.1, h.len]
 have step : ∀ (D1 D2 : Option Addr) (d1 d2 : Nat) (q : List Nat), RdPc N AL W D1 D2 d1 d2 q → (∀ g, blkOf D1 = some g ∨ blkOf D2 = some g → g < W.heap.size ∧ blkOf A ≠ some g) → RdPc N AL w' D1 D2 d1 d2 q ∧ ∀ g, blkOf D1 = some g ∨ blkOf D2 = some g → g < w'.heap.size ∧ blkOf A' ≠ some g := by
  intro D1 D2 d1 d2 q h1 h2
  refine ⟨h1.grown hg (fun g _ e => (h2 g (.inl e)).2) (fun g _ e => (h2 g (.inr e)).2), fun g hg2 => ?_⟩
  obtain ⟨k1, k2⟩ := h2 g hg2
  refine ⟨Nat.lt_of_lt_of_le k1 hg.size, fun e => ?_⟩
  rcases hat with hat | hat
  · exact k2 (by rw [← hat]; exact e)
  · rw [hat] at e
    injection e with e
    omega
 refine ⟨ho, by simp [h.len], fun j q hq => ?_⟩
 rcases Nat.lt_trichotomy j ps.length with hj | hj | hj
 · rw [List.getElem?_append_left hj] at hq
   obtain ⟨D1, d1, D2, d2, h1, h2, h3, h4⟩ := h.at_ j q hq
   obtain ⟨k1, k2⟩ := step D1 D2 d1 d2 q h3 h4
   exact ⟨D1, d1, D2, d2, by rw [List.getElem?_append_left (by omega)]; exact h1, by rw [List.getElem?_append_left (by omega)]; exact h2, k1, k2⟩
 · subst hj
   rw [List.getElem?_append_right (Nat.le_refl _), Nat.sub_self] at hq
   cases hq
   obtain ⟨k1, k2⟩ := step A1 A2 c1 c2 p hp hne
   exact ⟨A1, c1, A2, c2, by rw [← hxl, List.getElem?_append_right (Nat.le_refl _), Nat.sub_self]; rfl, by rw [← hxl, List.getElem?_append_right (by omega), show xs.length + 1 - xs.length = 1 by omega]; rfl, k1, k2⟩
 · rw [List.getElem?_eq_none (by simp; omega)] at hq
   cases hq
end
theorem grown_next {a b c : World} {r r' : Option Nat} (h : a.grownBy b r) (hg : b.grownBy c r') (hA : ∀ k, r' = some k → r = some k ∨ a.heap.size ≤ k) : a.grownBy c r :=
 ⟨hg.os.trans h.os, hg.tape.trans h.tape, hg.output.trans h.output, Nat.le_trans h.size hg.size, fun k hk hne => (hg.block k (Nat.lt_of_lt_of_le hk h.size) (fun e => by
  rcases hA k e.symm with e2 | e2
  · exact hne e2.symm
  · omega)).trans (h.block k hk hne)⟩
theorem two_slices (A X : Option Addr) (m d k e : Nat) : ∀ u ∈ [Value.slice A m d, Value.slice X k e], u.oneCell' = true := by
 intro u hu
 simp at hu
 rcases hu with rfl | rfl <;> rfl
def PcsPost (N : NetD) (gc cp ce cl : Nat) (AP AE AL : Option Addr) (cs : List Value) (B : Nat) (A : Option Addr) (n : Nat) (ps qs : List (List Nat)) (w : World) (e : Ending) (w' : World) : Prop := ∃ A' c' xs',
 e = .returned (.tuple #[.slice A' (n + qs.length) c', .nilIface]) ∧ PcR N AL w' B A' (n + qs.length) c' xs' (ps ++ qs) ∧ CtV w' gc AP AE AL cp ce cl cs N ∧ w.grownBy w' (blkOf A) ∧ ∀ k, blkOf A' = some k → blkOf A = some k ∨ w.heap.size ≤ k
set_option maxHeartbeats 4000000 in
set_option maxRecDepth 20000 in
theorem cPieces_ok (gc cp ce cl B bd : Nat) (AP AE AL : Option Addr) (cs : List Value) (N : NetD) (hN : NetOk N) (hbd : 1 ≤ bd) (hbd2 : bd ≤ 9223372036854775807) (hB : ∀ k, B ≤ k → k ≠ gc ∧ blkOf AP ≠ some k ∧ blkOf AE ≠ some k ∧ blkOf AL ≠ some k) :
 ∀ (m : Nat) (vl : List Nat) (n c c1 c2 : Nat) (A A1 A2 : Option Addr) (xs : List Value) (ps : List (List Nat)) (w : World), vl.length ≤ m → CtV w gc AP AE AL cp ce cl cs N → RdPc N AL w A1 A2 c1 c2 vl → PcOk N.vs.length vl → PcR N AL w B A n c xs ps → n + vl.length ≤ 5000 → B ≤ w.heap.size →
  (∀ g, blkOf A1 = some g ∨ blkOf A2 = some g → g < w.heap.size ∧ blkOf A ≠ some g) →
  Calls Tryz.prog 35 #[.pointer (some ⟨gc, 0, none⟩), .slice A n c, .agg #[.slice A1 vl.length c1, .slice A2 (arcsN N vl).length c2], .int .i64 (bd : Int)] w (PcsPost N gc cp ce cl AP AE AL cs B A n ps (pcs N bd vl) w) := by
 intro m
 induction m with
 | zero =>
  intro vl n c c1 c2 A A1 A2 xs ps w hm h hp hok hr hn hBw hd
  obtain rfl : vl = [] := List.eq_nil_of_length_eq_zero (by omega)
  have HH := Lib.hid h
  have HR := Lib.hid hr
  rw [pcs_nil]
  clear h hp hr hd
  go_enter Tryz.func35, Tryz.ntmps35
  go_wp2_with fail
  go_ret2
  have hb : Below w.heap.size w (w.alloc (.cells #[.slice A1 0 c1, .slice A2 (arcsN N []).length c2] 87)) := bELt
  exact ⟨A, c, xs, rfl, by simpa using HR.out.below hb, HH.out.below hb, grown_below (World.grownBy.refl w _) hb, fun k hk => .inl hk⟩
 | succ m ih =>
  intro vl n c c1 c2 A A1 A2 xs ps w hm h hp hok hr hn hBw hd
  have HH := Lib.hid h
  have HR := Lib.hid hr
  have HP := Lib.hid hp
  have HOK := Lib.hid hok
  have HD := Lib.hid hd
  have HIH := Lib.hid ih
  have HBN := Lib.hid hB
  have HNK := Lib.hid hN
  clear h hp hr hd ih hok hB hN
  by_cases h0 : vl.length = 0
  · obtain rfl : vl = [] := List.eq_nil_of_length_eq_zero h0
    rw [pcs_nil]
    clear h0
    go_enter Tryz.func35, Tryz.ntmps35
    go_wp2_with fail
    go_ret2
    have hb : Below w.heap.size w (w.alloc (.cells #[.slice A1 0 c1, .slice A2 (arcsN N []).length c2] 87)) := bELt
    exact ⟨A, c, xs, rfl, by simpa using HR.out.below hb, HH.out.below hb, grown_below (World.grownBy.refl w _) hb, fun k hk => .inl hk⟩
  have e0 : ((vl.length : Int) == 0) = false := beq_eq_false_iff_ne.2 (by omega)
  by_cases hle : vl.length ≤ bd
  · rw [pcs_one N h0 (.inl hle)]
    have e1 : (vl.length : Int) ≤ (bd : Int) := by omega
    obtain ⟨w1, hw1⟩ : ∃ W, W = (w.alloc (.cells #[.slice A1 vl.length c1, .slice A2 (arcsN N vl).length c2] 87)).alloc (.cells #[.slice A1 vl.length c1, .slice A2 (arcsN N vl).length c2] 87) := ⟨_, rfl⟩
    have hb1 : Below w.heap.size w w1 := by rw [hw1]; exact bELt
    have hrd : Rds w1 2 (some ⟨w.heap.size + 1, 0, none⟩) 1 [.slice A1 vl.length c1, .slice A2 (arcsN N vl).length c2] := by
     rw [hw1]
     have := (Blk.new (w.alloc (.cells #[.slice A1 vl.length c1, .slice A2 (arcsN N vl).length c2] 87)) 87 #[.slice A1 vl.length c1, .slice A2 (arcsN N vl).length c2]).rds (s := 2) (m := 1) rfl
     simpa using this
    have HR1 := Lib.hid (HR.out.below hb1)
    have HH1 := Lib.hid (HH.out.below hb1)
    have HP1 := Lib.hid (HP.out.below hb1)
    have hown := HR1.out.own
    have hsz : B ≤ w1.heap.size := Nat.le_trans hBw hb1.size
    have HW1 := Lib.hid hw1
    have HB1 := Lib.hid hb1
    clear hw1 hb1
    go_enter Tryz.func35, Tryz.ntmps35
    go_wp2_with (at_builtin; rw [← HW1.out]; with_reducible refine wpList_app rfl (.tmp 23) (.tmp 25) 89 rfl 87 _ 2 48 infoPiece Tryz.underlying89 rfl (by omega) rfl rfl hown hrd (two_slices _ _ _ _ _ _) (by omega) (by omega) hsz ?_)
    intro A' c' w2 ho2 hg2 hat2
    have HR2 := Lib.hid (HR1.out.push ho2 hg2 hat2 HP1.out (fun g hg => ⟨Nat.lt_of_lt_of_le (HD.out g hg).1 HB1.out.size, (HD.out g hg).2⟩))
    have HH2 := Lib.hid (HH1.out.grown hg2 (fun k e => HBN.out k (HR1.out.own.lt k e).1))
    have HG2 := Lib.hid ((grown_below (World.grownBy.refl w (blkOf A)) HB1.out).trans hg2)
    have HAT := Lib.hid (show ∀ k, blkOf A' = some k → blkOf A = some k ∨ w.heap.size ≤ k from fun k hk => by
     rcases hat2 with e | e
     · exact .inl (by rw [← e]; exact hk)
     · rw [hk] at e; injection e with e; have := HB1.out.size; exact .inr (by omega))
    clear hown hrd hsz ho2 hg2 hat2
    go_wp2_with fail
    go_ret2
    exact ⟨A', c', _, rfl, HR2.out, HH2.out, HG2.out, HAT.out⟩
  have t2 : 2 ≤ vl.length := by omega
  have e1 : ¬ (vl.length : Int) ≤ (bd : Int) := by omega
  rw [pcs_two N (by omega) t2]
  have hl1 := hlf_len N true t2
  have hl2 := hlf_len N false t2
  have hsum : (pcs N bd (hlf N true vl)).length + (hlf N false vl).length ≤ vl.length := by
   have g1 := pcs_len_le N bd (HOK.out.hlf N true)
   have g2 := (hlf_perm N t2).length_eq
   rw [List.length_append] at g2
   omega
  have HAL := Lib.hid (show ∀ k, blkOf A = some k → k < w.heap.size from fun k hk => (HR.out.own.lt k hk).2)
  go_enter Tryz.func35, Tryz.ntmps35
  go_wp2_with fail
  (refine calls_named ?_; intro w1 hw1)
  have hb1 : Below w.heap.size w w1 := by rw [hw1]; exact bELt
  clear hw1
  with_reducible refine (cHalves_ok gc cp ce cl c1 c2 AP AE AL A1 A2 cs N vl w1 (HH.out.below hb1) (HP.out.below hb1) HOK.out t2 HNK.out).mono ?_
  rintro e w2 ⟨B1, d1, B2, d2, C1, f1, C2, f2, rfl, hp1, hp2, hfr, hb2⟩
  have HB2 := Lib.hid (Bel.step hb1 hb2)
  have HP1 := Lib.hid hp1
  have HP2 := Lib.hid hp2
  have HFR := Lib.hid (show ∀ g, blkOf B1 = some g ∨ blkOf B2 = some g ∨ blkOf C1 = some g ∨ blkOf C2 = some g → w.heap.size ≤ g ∧ g < w2.heap.size from fun g hg => by have := hfr g hg; have := hb1.size; omega)
  clear hp1 hp2 hfr hb1 hb2
  go_wp2_with fail
  (refine calls_named ?_; intro w3 hw3)
  have hb3 : Below w2.heap.size w2 w3 := by rw [hw3]; exact bELt
  have q11 : Blk w3 (w2.heap.size + 1) 87 #[.slice C1 (hlf N false vl).length f1, .slice C2 (arcsN N (hlf N false vl)).length f2] := by rw [hw3]; exact bLNt
  clear hw3
  have HB3 := Lib.hid (Bel.step HB2.out hb3)
  have HZ3 := Lib.hid hb3.size
  have HQ := Lib.hid q11
  have HC1 := Lib.hid (HIH.out (hlf N true vl) n c d1 d2 A B1 B2 xs ps w3 (by omega) (HH.out.below HB3.out) (HP1.out.below hb3) (HOK.out.hlf N true) (HR.out.below HB3.out) (by omega) (Nat.le_trans hBw HB3.out.size) (fun g hg => by
   have := HFR.out g (by rcases hg with hg | hg; exact .inl hg; exact .inr (.inl hg))
   exact ⟨by have := HZ3.out; omega, fun e => by have := HAL.out g e; omega⟩))
  have HP23 := Lib.hid (HP2.out.below hb3)
  clear q11 hb3 HP1 HP2
  with_reducible refine HC1.out.mono ?_
  rintro e w4 ⟨A', c', xs', rfl, hR4, hC4, hg4, hat4⟩
  have hne : ∀ g, w.heap.size ≤ g → blkOf A ≠ some g := fun g hg e => by have := HAL.out g e; omega
  have q4 := HQ.out.grown hg4 (hne _ (by have := HB2.out.size; omega))
  have k0 : w4.cell? ⟨w2.heap.size + 1, 0, none⟩ = some (.slice C1 (hlf N false vl).length f1) := by rw [q4.cell]; rfl
  have k1 : w4.cell? ⟨w2.heap.size + 1, 1, none⟩ = some (.slice C2 (arcsN N (hlf N false vl)).length f2) := by rw [q4.cell]; rfl
  have HC2 := Lib.hid (HIH.out (hlf N false vl) (n + (pcs N bd (hlf N true vl)).length) c' f1 f2 A' C1 C2 xs' (ps ++ pcs N bd (hlf N true vl)) w4 (by omega) hC4 (HP23.out.grown hg4 (fun g _ hg => hne g (HFR.out g (.inr (.inr (.inl hg)))).1) (fun g _ hg => hne g (HFR.out g (.inr (.inr (.inr hg)))).1)) (HOK.out.hlf N false) hR4 (by omega) (Nat.le_trans hBw (Nat.le_trans HB3.out.size hg4.size)) (fun g hg => by
   have hf := HFR.out g (by rcases hg with hg | hg; exact .inr (.inr (.inl hg)); exact .inr (.inr (.inr hg)))
   have h3 := HZ3.out
   have h4 := hg4.size
   refine ⟨by omega, fun e => ?_⟩
   rcases hat4 g e with e2 | e2
   · exact hne g hf.1 e2
   · omega))
  have HG4 := Lib.hid ((grown_below (World.grownBy.refl w (blkOf A)) HB3.out).trans hg4)
  have HA4 := Lib.hid (show ∀ k, blkOf A' = some k → blkOf A = some k ∨ w.heap.size ≤ k from fun k hk => (hat4 k hk).imp id (fun h => by have := HB3.out.size; omega))
  clear q4 hR4 hC4 hg4 hat4 HC1 HQ HP23
  go_wp2_with fail
  with_reducible refine HC2.out.mono ?_
  rintro e w5 ⟨A5, c5, xs5, rfl, hR5, hC5, hg5, hat5⟩
  have hl : n + (pcs N bd (hlf N true vl)).length + (pcs N bd (hlf N false vl)).length = n + (pcs N bd (hlf N true vl) ++ pcs N bd (hlf N false vl)).length := by rw [List.length_append]; omega
  rw [List.append_assoc, hl] at hR5
  rw [hl]
  have HR5 := Lib.hid hR5
  have HC5 := Lib.hid hC5
  have HG5 := Lib.hid (grown_next HG4.out hg5 HA4.out)
  have HA5 := Lib.hid (show ∀ k, blkOf A5 = some k → blkOf A = some k ∨ w.heap.size ≤ k from fun k hk => by
   rcases hat5 k hk with e | e
   · exact HA4.out k e
   · exact .inr (Nat.le_trans HG4.out.size e))
  clear hR5 hC5 hg5 hat5 HC2 hl
  go_wp2_with fail
  go_ret2
  exact ⟨A5, c5, xs5, by first | rfl | (rw [List.length_append]; rfl), HR5.out, HC5.out, HG5.out, HA5.out⟩
end Go.Proofs.YtpffhoefmcpniaaGreatDoor

namespace Go.Proofs.YtpffhoefmcpniaaGreatDoor
open Go.RowKit

attribute [local go_sem ↓] Go.wp_at_zero Go.wp_at_succ

def rowsP (ps : List (List Nat)) : List (List Int) := ps.map nats
theorem rowsP_take {ps : List (List Nat)} {i : Nat} {p : List Nat} (h : ps[i]? = some p) : rowsP (ps.take (i + 1)) = rowsP (ps.take i) ++ [nats p] := by
 obtain ⟨h1, e1⟩ := List.getElem?_eq_some_iff.1 h
 unfold rowsP
 rw [List.take_succ_eq_append_getElem h1, e1, List.map_append]
 rfl
def PcPost (qs : List (List Nat)) (w : World) (e : Ending) (w' : World) : Prop := ∃ A c, e = .returned (.tuple #[.slice A qs.length c, .nilIface]) ∧ RdT w' A qs.length (rowsP qs) ∧ qs.length ≤ c ∧ c ≤ 9223372036854775807 ∧ Below w.heap.size w w'
set_option maxHeartbeats 4000000 in
set_option maxRecDepth 20000 in
theorem nestPieces_ok (g bd k cv : Nat) (N : NetD) (AV : Option Addr) (vs : List Int) (w : World) (h : RdGr w g N) (hv : RdI w AV k vs) (hok : VrtOk N.vs.length vs) (hbd : 1 ≤ bd) (hbd2 : bd ≤ 9223372036854775807) :
 Calls Tryz.prog 19 #[.pointer (some ⟨g, 0, none⟩), .slice AV k cv, .int .i64 (bd : Int)] w (PcPost (pcs N bd (natsOf vs)) w) := by
 have HG := Lib.hid h
 have hN : NetOk N := by obtain ⟨A, B, C, I, O, P, n, m, k, c, d, e, ci, co, cp, h⟩ := h; exact h.ok
 have HNK := Lib.hid hN
 have hn4 := hN.lv
 have HV := Lib.hid hv
 have hkl : vs.length = k := hv.1
 have HOK := Lib.hid (show ∀ j, j < k → vGood N.vs.length vs j from fun j hj => hok j (by rw [hkl]; exact hj))
 have HPK := Lib.hid hok.ok
 have hkn : k ≤ 4096 := by have := hok.ok.len; rw [natsOf_len, hkl] at this; omega
 have HVN := Lib.hid hok.nats
 have HKL := Lib.hid hkl
 have hb0 : ¬ (bd : Int) < 1 := by omega
 clear h hv hok hN hkl
 go_enter Tryz.func19, Tryz.ntmps19
 go_wp2_with fail
 go_loopw [22] (fun q W => Below w.heap.size w W ∧ ∃ j : Nat, j ≤ k ∧ q = .int .i64 (j : Int)) (fun q _ => k - (intOf q).toNat)
 case atStart => exact ⟨Below.refl _ _, 0, Nat.zero_le _, rfl⟩
 case round =>
  obtain ⟨hbl, j, hj, rfl⟩ := hrel
  by_cases hjo : j < k
  · obtain ⟨b, o, x, rfl, hx, hc⟩ := (HV.out.below hbl).at_ hjo
    have HX := Lib.hid hx
    clear hx
    have i1 : (0 : Int) ≤ (j : Int) := by omega
    have i2 : (j : Int) < (k : Int) := by omega
    obtain ⟨x', hx', x0, x1, xa⟩ := HOK.out j hjo
    rw [HX.out] at hx'
    obtain rfl : x = x' := by injection hx'
    have x2 : ¬ x < 0 := by omega
    have x3 : ¬ x ≥ (N.vs.length : Int) := by omega
    have HXA := Lib.hid xa
    have HVT := Lib.hid (gVerts_any g N wr (HG.out.below hbl))
    clear hx' xa
    by_cases hz : j = 0
    · have e0 : ¬ ((j : Int) > 0) := by omega
      have e00 : ¬ 0 < j := by omega
      have HZ := Lib.hid hz
      clear hz
      go_wp2_with fail
      with_reducible refine HVT.out.mono ?_
      rintro e w' ⟨rfl, rfl⟩
      go_wp2_with fail
      go_roundw
      case rel => exact ⟨bELt, j + 1, by omega, by go_num⟩
      case measure => simp [intOf]; omega
    · obtain ⟨i, rfl⟩ : ∃ i, j = i + 1 := ⟨j - 1, by omega⟩
      obtain ⟨b', o', y, e, hy, hcy⟩ := (HV.out.below hbl).at_ (show i < k by omega)
      cases e
      have y1 := HXA.out y (by omega) hy
      have y2 : ¬ x ≤ y := by omega
      have e1 : ((i + 1 : Nat) : Int) - 1 = (i : Int) := by omega
      have e2 : (0 : Int) ≤ (i : Int) := by omega
      have e3 : (i : Int) < (k : Int) := by omega
      clear hz hy y1
      go_wp2_with fail
      with_reducible refine HVT.out.mono ?_
      rintro e w' ⟨rfl, rfl⟩
      go_wp2_with fail
      go_roundw
      case rel => exact ⟨bELt, i + 1 + 1, by omega, by go_num⟩
      case measure => simp [intOf]; omega
  obtain rfl : k = j := by omega
  clear hjo hj
  have HNC := Lib.hid (newCutter_ok g N wr (HG.out.below hbl))
  go_wp2_with fail
  with_reducible refine HNC.out.mono ?_
  rintro e w1 ⟨gc, AP, AE, AL, cp, ce, cl, cs, rfl, hgc, hlo, hC, hb1⟩
  have HC1 := Lib.hid hC
  have HB1 := Lib.hid (Bel.step hbl hb1)
  have hrv : RdI w1 AV k (nats (natsOf vs)) := by rw [← HVN.out]; exact HV.out.below HB1.out
  have HKK := Lib.hid (show (natsOf vs).length = k by rw [natsOf_len]; exact HKL.out)
  have hav : ∀ q, 0 < k → blkOf AV = some q → blkOf AL ≠ some q := fun q h0 hq e => by
   have h1 := HV.out.ltN h0 hq
   have h2 := hlo q (.inr (.inr e))
   have := hbl.size
   omega
  have HWH := Lib.hid (cWhole_ok gc cp ce cl AP AE AL AV cs N k cv (natsOf vs) w1 hC hrv hav HPK.out HNK.out)
  have HNW := Lib.hid (fun q hq => hC.new (k := q) hq)
  clear hgc hlo hC hb1 hrv hav HNC
  go_wp2_with fail
  with_reducible refine HWH.out.mono ?_
  rintro e w2 ⟨B1, d1, B2, d2, rfl, hp, hfr, hb2⟩
  have HB2 := Lib.hid (Bel.step HB1.out hb2)
  have HPI := Lib.hid (cPieces_ok gc cp ce cl w1.heap.size bd AP AE AL cs N HNK.out hbd hbd2 HNW.out (natsOf vs).length (natsOf vs) 0 0 d1 d2 none B1 B2 [] [] w2 (Nat.le_refl _) (HC1.out.below hb2) hp HPK.out (PcR.nil _ _ _ _) (by have := HKK.out; omega) hb2.size (fun q hq => ⟨(hfr q hq).2, fun e => by cases e⟩))
  have HZ2 := Lib.hid hb2.size
  clear hp hfr hb2 HWH
  go_wp2_with fail
  with_reducible refine HPI.out.mono ?_
  rintro e w3 ⟨A3, c3, xs3, rfl, hR3, hu1, hg3, hu2⟩
  rw [Nat.zero_add, List.nil_append] at hR3
  rw [Nat.zero_add]
  have hb3 : Below w2.heap.size w2 w3 := ⟨hg3.os, hg3.tape, hg3.output, hg3.size, fun q hq => hg3.block q hq (fun e => by cases e)⟩
  have HR3 := Lib.hid hR3
  have HB3 := Lib.hid (Bel.step HB2.out hb3)
  have hql : (pcs N bd (natsOf vs)).length ≤ 4096 := by have := pcs_len_le N bd HPK.out; have := HKK.out; omega
  generalize hqs : pcs N bd (natsOf vs) = qs at *
  clear hR3 hg3 hb3 HPI hqs hu1 hu2
  go_wp2_with fail
  go_loopw [13, 69] (fun a q W => Below w3.heap.size w3 W ∧ ∃ (i : Nat) (A4 : Option Addr) (c4 : Nat) (xs4 : List Value), i ≤ qs.length ∧ q = .int .i64 (i : Int) ∧ a = .slice A4 i c4 ∧ RwO W w3.heap.size 27 A4 i c4 xs4 (rowsP (qs.take i))) (fun _ q _ => qs.length - (intOf q).toNat)
  case atStart => exact ⟨Below.refl _ _, 0, none, 0, [], Nat.zero_le _, rfl, rfl, by simpa [rowsP] using RwO.nil _ _ _⟩
  case round =>
   obtain ⟨hb4, i, A4, c4, xs4, hi, rfl, rfl, hw4⟩ := hrel
   have HW4 := Lib.hid hw4
   have HBL := Lib.hid hb4
   clear hw4 hb4
   by_cases hlt : i < qs.length
   · have hp := List.getElem?_eq_getElem hlt
     obtain ⟨D1, e1, D2, e2, hx1, hx2, hpc, hfr⟩ := HR3.out.at_ i _ hp
     obtain ⟨b, o, rfl, k1⟩ := HR3.out.own.rds.2 _ _ hx1
     obtain ⟨b', o', e, k2⟩ := HR3.out.own.rds.2 _ _ hx2
     cases e
     have k1 := Below.cellOf HBL.out (Nat.le_refl _) k1
     have k2 := Below.cellOf HBL.out (Nat.le_refl _) k2
     rw [← Nat.add_assoc] at k2
     generalize hpe : qs[i] = p at *
     have HNX := Lib.hid (rowsP_take hp)
     have HPC := Lib.hid hpc
     have HFR := Lib.hid hfr
     have i1 : (i : Int) < (qs.length : Int) := by omega
     have i2 : (0 : Int) ≤ (i : Int) := by omega
     clear hp hx1 hx2 hpc hfr hpe
     obtain ⟨W4, hW4⟩ : ∃ W, W = (wr.alloc (.cells #[.slice D1 p.length e1, .slice D2 (arcsN N p).length e2] 87)).alloc (.cells #[.slice D1 p.length e1] 27) := ⟨_, rfl⟩
     have hb5 : Below wr.heap.size wr W4 := by rw [hW4]; exact bELt
     have hrd : Rds W4 1 (some ⟨wr.heap.size + 1, 0, none⟩) 1 [.slice D1 p.length e1] := by
      rw [hW4]
      have := (Blk.new (wr.alloc (.cells #[.slice D1 p.length e1, .slice D2 (arcsN N p).length e2] 87)) 27 #[.slice D1 p.length e1]).rds (s := 1) (m := 1) rfl
      simpa using this
     have HW5 := Lib.hid (HW4.out.below hb5)
     have HBL5 := Lib.hid (Bel.step HBL.out hb5)
     have hown := HW5.out.1
     have hsz : w3.heap.size ≤ W4.heap.size := HBL5.out.size
     have HWE := Lib.hid hW4
     clear hW4 hb5
     go_wp2_with (at_builtin; rw [← HWE.out]; with_reducible refine wpList_app rfl (.tmp 73) (.tmp 76) 32 rfl 27 _ 1 24 infoRw Tryz.underlying32 rfl (by omega) rfl rfl hown hrd (slice_one _ _ _) (by omega) (by omega) hsz ?_)
     intro A5 c5 w5 ho5 hg5 hat5
     have HB5 := Lib.hid (Bel.grownOwn HBL5.out hg5 hown hsz)
     have HR5 := Lib.hid (HW5.out.push ho5 hg5 hat5 (HPC.out.r1.below HBL5.out) (fun q hq => ⟨Nat.lt_of_lt_of_le (HFR.out q (.inl hq)).1 HBL5.out.size, fun e => by
      have h1 := (HFR.out q (.inl hq)).1
      have h2 := (HW5.out.1.lt q e).1
      omega⟩) HPC.out.k1 HPC.out.m1)
     clear hown hrd hsz ho5 hg5 hat5 k1 k2 HWE HW4 HBL
     go_wp2_with fail
     go_roundw
     case rel => exact ⟨HB5.out, i + 1, A5, c5, _, by omega, by go_num, rfl, by rw [HNX.out]; exact HR5.out⟩
     case measure => simp [intOf]; omega
   obtain rfl : i = qs.length := by omega
   rw [List.take_length] at HW4
   have hbe := Bel.step HB3.out HBL.out
   go_wp2_with fail
   go_ret2
   exact ⟨A4, c4, rfl, HW4.out.rdT, HW4.out.1.cap, HW4.out.1.capMax, hbe⟩
theorem nestPieces_low (g k cv : Nat) (bd : Int) (AV : Option Addr) (w : World) (hbd : bd < 1) :
 Calls Tryz.prog 19 #[.pointer (some ⟨g, 0, none⟩), .slice AV k cv, .int .i64 bd] w fun e w' => ∃ v, e = .returned (.tuple #[.slice none 0 0, v]) ∧ Chain w' v [((⟨#[110, 101, 115, 116]⟩ : ByteArray), 0)] 1 ∧ Below w.heap.size w w' := by
 go_enter Tryz.func19, Tryz.ntmps19
 go_wp2_with fail
 with_reducible refine (nestFault_any _ _ _ _).mono ?_
 rintro e w3 ⟨v, rfl, hc3, hb3⟩
 obtain ⟨tv, xv, rfl⟩ := chain_not_nil hc3
 have HCH := Lib.hid hc3
 clear hc3
 go_wp2_with fail
 go_ret2
 exact ⟨_, rfl, HCH.out, bELt⟩
set_option maxHeartbeats 2000000 in
theorem nestPieces_bad (g bd k cv i0 : Nat) (c0 : Int) (N : NetD) (AV : Option Addr) (vs : List Int) (w : World) (h : RdGr w g N) (hv : RdI w AV k vs) (hok : VrtBad N.vs.length 5 6 vs i0 c0) (hbd : 1 ≤ bd) (hk9 : k ≤ 1000000) :
 Calls Tryz.prog 19 #[.pointer (some ⟨g, 0, none⟩), .slice AV k cv, .int .i64 (bd : Int)] w fun e w' => ∃ v, e = .returned (.tuple #[.slice none 0 0, v]) ∧ Chain w' v [((⟨#[118, 101, 114, 116]⟩ : ByteArray), (i0 : Int))] c0 ∧ Below w.heap.size w w' := by
 have HG := Lib.hid h
 have HV := Lib.hid hv
 have hkl : vs.length = k := hv.1
 obtain ⟨hi0, hall, x0, hx0, hbad⟩ := hok
 rw [hkl] at hi0
 have HOK := Lib.hid hall
 have HX0 := Lib.hid hx0
 have HBAD := Lib.hid hbad
 have hb0 : ¬ (bd : Int) < 1 := by omega
 clear h hv hall hx0 hbad hkl
 go_enter Tryz.func19, Tryz.ntmps19
 go_wp2_with fail
 go_loopw [22] (fun q W => Below w.heap.size w W ∧ ∃ j : Nat, j ≤ i0 ∧ q = .int .i64 (j : Int)) (fun q _ => k - (intOf q).toNat)
 case atStart => exact ⟨Below.refl _ _, 0, Nat.zero_le _, rfl⟩
 case round =>
  obtain ⟨hbl, j, hj, rfl⟩ := hrel
  have hjk : j < k := by omega
  obtain ⟨b, o, x, rfl, hx, hc⟩ := (HV.out.below hbl).at_ hjk
  have HX := Lib.hid hx
  clear hx
  by_cases hjo : j < i0
  · skip
    have i1 : (0 : Int) ≤ (j : Int) := by omega
    have i2 : (j : Int) < (k : Int) := by omega
    obtain ⟨x', hx', x0, x1, xa⟩ := HOK.out j hjo
    rw [HX.out] at hx'
    obtain rfl : x = x' := by injection hx'
    have x2 : ¬ x < 0 := by omega
    have x3 : ¬ x ≥ (N.vs.length : Int) := by omega
    have HXA := Lib.hid xa
    have HVT := Lib.hid (gVerts_any g N wr (HG.out.below hbl))
    clear hx' xa
    by_cases hz : j = 0
    · have e0 : ¬ ((j : Int) > 0) := by omega
      have e00 : ¬ 0 < j := by omega
      have HZ := Lib.hid hz
      clear hz
      go_wp2_with fail
      with_reducible refine HVT.out.mono ?_
      rintro e w' ⟨rfl, rfl⟩
      go_wp2_with fail
      go_roundw
      case rel => exact ⟨bELt, j + 1, by omega, by go_num⟩
      case measure => simp [intOf]; omega
    · obtain ⟨i, rfl⟩ : ∃ i, j = i + 1 := ⟨j - 1, by omega⟩
      obtain ⟨b', o', y, e, hy, hcy⟩ := (HV.out.below hbl).at_ (show i < k by omega)
      cases e
      have y1 := HXA.out y (by omega) hy
      have y2 : ¬ x ≤ y := by omega
      have e1 : ((i + 1 : Nat) : Int) - 1 = (i : Int) := by omega
      have e2 : (0 : Int) ≤ (i : Int) := by omega
      have e3 : (i : Int) < (k : Int) := by omega
      clear hz hy y1
      go_wp2_with fail
      with_reducible refine HVT.out.mono ?_
      rintro e w' ⟨rfl, rfl⟩
      go_wp2_with fail
      go_roundw
      case rel => exact ⟨bELt, i + 1 + 1, by omega, by go_num⟩
      case measure => simp [intOf]; omega
  obtain rfl : j = i0 := by omega
  have hxx := HX0.out
  rw [HX.out] at hxx
  obtain rfl : x = x0 := by injection hxx
  have i1 : (0 : Int) ≤ (j : Int) := by omega
  have i2 : (j : Int) < (k : Int) := by omega
  have HVT := Lib.hid (gVerts_any g N wr (HG.out.below hbl))
  clear hxx hjo hj
  rcases HBAD.out with ⟨hr, rfl⟩ | ⟨h0, h1, hz, rfl, y, hy, hle⟩
  · by_cases hneg : x < 0
    · clear hr
      go_wp2_with fail
      with_reducible refine (nestFault_any _ _ _ _).mono ?_
      rintro e w3 ⟨v, rfl, hc3, hb3⟩
      obtain ⟨tv, xv, rfl⟩ := chain_not_nil hc3
      have HCH := Lib.hid hc3
      clear hc3
      go_wp2_with fail
      go_ret2
      exact ⟨_, rfl, HCH.out, bELt⟩
    · have hge : x ≥ (N.vs.length : Int) := by omega
      clear hr
      go_wp2_with fail
      with_reducible refine HVT.out.mono ?_
      rintro e w' ⟨rfl, rfl⟩
      go_wp2_with fail
      with_reducible refine (nestFault_any _ _ _ _).mono ?_
      rintro e w3 ⟨v, rfl, hc3, hb3⟩
      obtain ⟨tv, xv, rfl⟩ := chain_not_nil hc3
      have HCH := Lib.hid hc3
      clear hc3
      go_wp2_with fail
      go_ret2
      exact ⟨_, rfl, HCH.out, bELt⟩
  · obtain ⟨i, rfl⟩ : ∃ i, j = i + 1 := ⟨j - 1, by omega⟩
    obtain ⟨b', o', y', e, hy', hcy⟩ := (HV.out.below hbl).at_ (show i < k by omega)
    cases e
    simp only [Nat.add_sub_cancel] at hy
    rw [hy] at hy'
    obtain rfl : y = y' := by injection hy'
    have e1 : ((i + 1 : Nat) : Int) - 1 = (i : Int) := by omega
    have e2 : (0 : Int) ≤ (i : Int) := by omega
    have e3 : (i : Int) < (k : Int) := by omega
    have x2 : ¬ x < 0 := by omega
    have x3 : ¬ x ≥ (N.vs.length : Int) := by omega
    clear hz hy hy'
    go_wp2_with fail
    with_reducible refine HVT.out.mono ?_
    rintro e w' ⟨rfl, rfl⟩
    go_wp2_with fail
    with_reducible refine (nestFault_any _ _ _ _).mono ?_
    rintro e w3 ⟨v, rfl, hc3, hb3⟩
    obtain ⟨tv, xv, rfl⟩ := chain_not_nil hc3
    have HCH := Lib.hid hc3
    clear hc3
    go_wp2_with fail
    go_ret2
    exact ⟨_, rfl, HCH.out, bELt⟩
end Go.Proofs.YtpffhoefmcpniaaGreatDoor
