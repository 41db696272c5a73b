/- Parts of the proof: Nf3, Pt, NeP. -/
import Derived.Test.YtpffhoefmcpniaaGreatDoorB1
import Derived.Test.YtpffhoefmcpniaaGreatDoorB2
import Derived.Test.YtpffhoefmcpniaaGreatDoorB9
import Derived.Test.YtpffhoefmcpniaaGreatDoorB19
namespace Go.Proofs.YtpffhoefmcpniaaGreatDoor
open Go.RowKit

attribute [local go_sem ↓] Go.wp_at_zero Go.wp_at_succ

def RBestPost (E l : List (Int × Int)) (w : World) (e : Ending) (w' : World) : Prop := ∃ (A' : Option Addr) (n' c' : Nat) (s : Spl) (L : List Spl), e = .returned (.agg #[.slice A' n' c', .int .i64 s.cross, .int .i64 s.dir, .int .i64 s.kind]) ∧ RdB w' A' n' s.side ∧ n' ≤ c' ∧ IsAll E l 12 L ∧ Opt L 12 s ∧ Below w.heap.size w w'
set_option maxHeartbeats 8000000 in
set_option maxRecDepth 100000 in
theorem refBest_any (A B : Option Addr) (n m c d : Nat) (l E : List (Int × Int)) (w : World) (h : RdP w A n l) (hE : RdP w B m E) (hG : Good l E) (hn : n ≤ 4096) (hm : m ≤ 16384) :
 Calls Tryz.prog 84 #[.slice A n c, .slice B m d] w (RBestPost E l w) := by
 have HA := Lib.hid (show ∀ V, Below w.heap.size w V → Calls Tryz.prog 93 #[.slice A n c, .slice B m d] V (RAllPost E l V) from fun V hV => refAll_any A B n m c d l E V (h.below hV) (hE.below hV) hG hn hm)
 have hsn := (show l.length = n from h.1)
 have HSN := Lib.hid hsn
 have HG2 := Lib.hid hG.1
 clear hsn h hE hG
 go_enter Tryz.func84, Tryz.ntmps84
 go_wp2_with fail
 (refine calls_named ?_; intro w1 hw1)
 have hb1 : Below w.heap.size w w1 := by rw [hw1]; exact bELt
 have hR1 : Blk w1 w.heap.size 166 #[.slice none 0 0, .int .i64 0, .int .i64 0, .int .i64 0] := by rw [hw1]; exact bLNt
 clear hw1
 with_reducible refine (HA.out _ hb1).mono ?_
 rintro e w2 ⟨A2, c2, L, rfl, hS, hall, hc12, hb⟩
 have hR2 := hR1.below hb hR1.lt
 have hb2 : Below w.heap.size w w2 := Bel.step hb1 hb
 obtain ⟨b, o, A3, n3, c3, s0, rfl, hs0, x0, x1, x2, x3, hr3, hnc3⟩ := hS.at_ (i := 0) (by omega)
 have HS := Lib.hid hS
 have HALL := Lib.hid hall
 have HOPT := Lib.hid (Opt.one hs0)
 have HR3 := Lib.hid hr3
 have HR2 := Lib.hid hR2
 have hlt2 := hR2.lt
 rw [show o + 0 * 4 = o by omega] at x0 x1 x2 x3
 clear hS hall hs0 hr3 hR1 hR2 hb hb1 HA
 go_wp2_with fail
 (refine wp_named ?_; intro w4 hw4)
 have hB4 : Blk w4 w2.heap.size 166 #[.slice A3 n3 c3, .int .i64 s0.cross, .int .i64 s0.dir, .int .i64 s0.kind] := by rw [hw4]; exact bLNt
 have hb4 : Below w2.heap.size w2 w4 := by rw [hw4]; exact bELt
 clear hw4 x0 x1 x2 x3
 obtain ⟨gb, hgbe⟩ : ∃ gb, gb = w2.heap.size := ⟨_, rfl⟩
 rw [← hgbe] at hB4
 have hgb : w2.heap.size ≤ gb := by omega
 rw [← hgbe]
 clear hgbe
 go_loopw [7] (fun i W => ∃ (k : Nat) (A' : Option Addr) (n' c' : Nat) (s : Spl), 1 ≤ k ∧ k ≤ 12 ∧ i = .int .i64 k ∧ Blk W gb 166 #[.slice A' n' c', .int .i64 s.cross, .int .i64 s.dir, .int .i64 s.kind] ∧ RdB w2 A' n' s.side ∧ n' ≤ c' ∧ Opt L k s ∧ Below w2.heap.size w2 W) (fun i _ => 12 - (intOf i).toNat)
 case atStart => exact ⟨1, A3, n3, c3, s0, by omega, by omega, rfl, hB4, HR3.out, hnc3, HOPT.out, hb4⟩
 case round =>
  clear hB4 hb4
  obtain ⟨k, A', n', c', s, hk1, hk, rfl, hB, hr, hnc, hopt, hbl⟩ := hrel
  have HR := Lib.hid hr
  have HO := Lib.hid hopt
  obtain ⟨q0, q1, q2, q3⟩ := hB.four
  have HN' := Lib.hid (show n' = n from by
   obtain ⟨a, ha, hla, _⟩ := hopt
   rw [← hr.1, ((HALL.out.2 a s hla).sep HG2.out).len]; exact HSN.out)
  by_cases hlt : k < 12
  · obtain ⟨b', o', A5, n5, c5, s5, e, hs5, y0, y1, y2, y3, hr5, hnc5⟩ := HS.out.at_ hlt
    cases e
    have HL5 := Lib.hid hs5
    have hlen5 : s5.side.length = n := by
     have := ((HALL.out.2 _ s5 hs5).sep HG2.out).len
     rw [this]; exact HSN.out
    have hn5 : n5 = n := by rw [← hr5.1]; exact hlen5
    have HR5 := Lib.hid hr5
    have v0 := Below.cellOf hbl (Nat.le_refl _) y0
    have v1 := Below.cellOf hbl (Nat.le_refl _) y1
    have v2 := Below.cellOf hbl (Nat.le_refl _) y2
    have v3 := Below.cellOf hbl (Nat.le_refl _) y3
    have i1 : (0 : Int) ≤ (k : Int) := by omega
    have i2 : (k : Int) < 12 := by omega
    have HN5 := Lib.hid hn5
    have HB := Lib.hid hB
    have HBL := Lib.hid hbl
    have HU5 := Lib.hid (show ∀ V, Below w2.heap.size w2 V → Calls Tryz.prog 94 #[.slice A5 n5 c5] V fun e w' => e = .returned (.int .i64 (offB s5.side)) ∧ V = w' from fun V hV => uneven_any A5 n5 c5 s5.side _ (HR5.out.below hV) (by have := HN5.out; omega))
    have HU' := Lib.hid (show ∀ V, Below w2.heap.size w2 V → Calls Tryz.prog 94 #[.slice A' n' c'] V fun e w' => e = .returned (.int .i64 (offB s.side)) ∧ V = w' from fun V hV => uneven_any A' n' c' s.side _ (HR.out.below hV) (by have := HN'.out; omega))
    clear y0 y1 y2 y3 hs5 hlen5 hr5 hr hopt hn5 hB hbl
    by_cases g1 : s5.cross < s.cross
    · have HSX := Lib.hid (show ∀ V, V = wr.drew → V.cell? ⟨b, o + k * 4 + 1, none⟩ = some (.int .i64 s5.cross) ∧ V.cell? ⟨gb, 1, none⟩ = some (.int .i64 s.cross) ∧ V.cell? ⟨b, o + k * 4, none⟩ = some (.slice A5 n5 c5) ∧ V.cell? ⟨gb, 0, none⟩ = some (.slice A' n' c') ∧ (0 : Int) ≤ (k : Int) ∧ (k : Int) < 12 ∧ decide (s5.cross < s.cross) = true from fun V hV => by subst hV; exact ⟨v1, q1, v0, q0, i1, i2, decide_eq_true g1⟩)
      go_wp2_with fail
      refine wp_region_held_drew (S := fun V => V = wr.drew) (by kernel_rfl) rfl (fun _ => ?_)
      refine tk 0 20 (h := ⟨_, tv, ?_⟩)
      simp only [pE, List.set]
      refine tk 1 21 (h := ⟨_, tv, ?_⟩)
      simp only [pE, List.set]
      refine tk 2 22 (h := ⟨_, tv, ?_⟩)
      simp only [pE, List.set]
      refine tk 3 23 (h := ⟨_, tv, ?_⟩)
      simp only [pE, List.set]
      refine tk 4 24 (h := ⟨_, tv, ?_⟩)
      simp only [pE, List.set]
      refine tk 5 25 (h := ⟨_, tv, ?_⟩)
      simp only [pE, List.set]
      refine tk 6 26 (h := ⟨_, tv, ?_⟩)
      simp only [pE, List.set]
      refine tk 7 27 (h := ⟨_, tv, ?_⟩)
      simp only [pE, List.set]
      refine tk 8 28 (h := ⟨_, tv, ?_⟩)
      simp only [pE, List.set]
      refine tu 9 29 (h := ?_)
      simp only [pE, List.set]
      refine tu 10 30 (h := ?_)
      simp only [pE, List.set]
      refine tu 11 31 (h := ?_)
      simp only [pE, List.set]
      refine tu 12 32 (h := ?_)
      simp only [pE, List.set]
      refine tu 13 33 (h := ?_)
      simp only [pE, List.set]
      refine tu 14 34 (h := ?_)
      simp only [pE, List.set]
      refine tu 15 35 (h := ?_)
      simp only [pE, List.set]
      refine tu 16 36 (h := ?_)
      simp only [pE, List.set]
      refine tu 17 37 (h := ?_)
      simp only [pE, List.set]
      refine tu 18 38 (h := ?_)
      simp only [pE, List.set]
      refine tu 19 39 (h := ?_)
      simp only [pE, List.set]
      refine tu 20 40 (h := ?_)
      simp only [pE, List.set]
      refine tu 21 41 (h := ?_)
      simp only [pE, List.set]
      refine tu 22 42 (h := ?_)
      simp only [pE, List.set]
      refine tu 23 43 (h := ?_)
      simp only [pE, List.set]
      refine tu 24 44 (h := ?_)
      simp only [pE, List.set]
      refine tu 25 45 (h := ?_)
      simp only [pE, List.set]
      refine tu 26 46 (h := ?_)
      simp only [pE, List.set]
      refine tu 27 47 (h := ?_)
      simp only [pE, List.set]
      refine tu 28 48 (h := ?_)
      simp only [pE, List.set]
      refine tk 29 49 (h := ⟨_, tv, ?_⟩)
      simp only [pE, List.set]
      refine wpAnyH_done (by kernel_rfl) ?_ _
      obtain ⟨V, hV⟩ : ∃ V, V = wr.drew := ⟨_, rfl⟩
      have hBV : Blk V gb 166 #[.slice A' n' c', .int .i64 s.cross, .int .i64 s.dir, .int .i64 s.kind] := by rw [hV]; exact HB.out.drew
      have hLV : Below w2.heap.size w2 V := by rw [hV]; exact HBL.out.drew
      have v0 : V.cell? ⟨b, o + k * 4, none⟩ = some (.slice A5 n5 c5) := by rw [hV]; exact v0
      have v1 : V.cell? ⟨b, o + k * 4 + 1, none⟩ = some (.int .i64 s5.cross) := by rw [hV]; exact v1
      have v2 : V.cell? ⟨b, o + k * 4 + 2, none⟩ = some (.int .i64 s5.dir) := by rw [hV]; exact v2
      have v3 : V.cell? ⟨b, o + k * 4 + 3, none⟩ = some (.int .i64 s5.kind) := by rw [hV]; exact v3
      rw [← hV]
      clear hV
      have f0 := hBV.frozen 0
      have f1 := hBV.frozen 1
      have f2 := hBV.frozen 2
      have f3 := hBV.frozen 3
      obtain ⟨q0, q1, q2, q3⟩ := hBV.four
      have HB8 := Lib.hid (show Blk ((((V.setCell ⟨gb, 0, none⟩ (.slice A5 n5 c5)).setCell ⟨gb, 1, none⟩ (.int .i64 s5.cross)).setCell ⟨gb, 2, none⟩ (.int .i64 s5.dir)).setCell ⟨gb, 3, none⟩ (.int .i64 s5.kind)) gb 166 #[.slice A5 n5 c5, .int .i64 s5.cross, .int .i64 s5.dir, .int .i64 s5.kind] from (((hBV.set_ 0 _).set_ 1 _).set_ 2 _).set_ 3 _)
      have HL8 := Lib.hid (show Below w2.heap.size w2 ((((V.setCell ⟨gb, 0, none⟩ (.slice A5 n5 c5)).setCell ⟨gb, 1, none⟩ (.int .i64 s5.cross)).setCell ⟨gb, 2, none⟩ (.int .i64 s5.dir)).setCell ⟨gb, 3, none⟩ (.int .i64 s5.kind)) from (((hLV.setCell hgb _).setCell hgb _).setCell hgb _).setCell hgb _)
      go_wp2_with fail
      go_roundw
      case rel => exact ⟨k + 1, A5, n5, c5, s5, by omega, by omega, by go_num, HB8.out, HR5.out, hnc5, HO.out.turn HL5.out (.inl g1), HL8.out⟩
      case measure => simp [intOf]; omega
    have e1 : decide (s5.cross < s.cross) = false := decide_eq_false g1
    by_cases g2 : s5.cross = s.cross
    rotate_left
    · have e2 : (s5.cross == s.cross) = false := beq_eq_false_iff_ne.2 g2
      have HSX := Lib.hid (show ∀ V, V = wr.drew → V.cell? ⟨b, o + k * 4 + 1, none⟩ = some (.int .i64 s5.cross) ∧ V.cell? ⟨gb, 1, none⟩ = some (.int .i64 s.cross) ∧ V.cell? ⟨b, o + k * 4, none⟩ = some (.slice A5 n5 c5) ∧ V.cell? ⟨gb, 0, none⟩ = some (.slice A' n' c') ∧ (0 : Int) ≤ (k : Int) ∧ (k : Int) < 12 ∧ decide (s5.cross < s.cross) = false ∧ (s5.cross == s.cross) = false from fun V hV => by subst hV; exact ⟨v1, q1, v0, q0, i1, i2, e1, e2⟩)
      have G2 := Lib.hid (show s5.cross > s.cross by omega)
      clear g1 g2
      go_wp2_with fail
      refine wp_region_held_drew (S := fun V => V = wr.drew) (by kernel_rfl) rfl (fun _ => ?_)
      refine tk 0 20 (h := ⟨_, tv, ?_⟩)
      simp only [pE, List.set]
      refine tk 1 21 (h := ⟨_, tv, ?_⟩)
      simp only [pE, List.set]
      refine tk 2 22 (h := ⟨_, tv, ?_⟩)
      simp only [pE, List.set]
      refine tk 3 23 (h := ⟨_, tv, ?_⟩)
      simp only [pE, List.set]
      refine tk 4 24 (h := ⟨_, tv, ?_⟩)
      simp only [pE, List.set]
      refine tk 5 25 (h := ⟨_, tv, ?_⟩)
      simp only [pE, List.set]
      refine tk 6 26 (h := ⟨_, tv, ?_⟩)
      simp only [pE, List.set]
      refine tk 7 27 (h := ⟨_, tv, ?_⟩)
      simp only [pE, List.set]
      refine tk 8 28 (h := ⟨_, tv, ?_⟩)
      simp only [pE, List.set]
      refine tk 9 29 (h := ⟨_, tv, ?_⟩)
      simp only [pE, List.set]
      refine tk 10 30 (h := ⟨_, tv, ?_⟩)
      simp only [pE, List.set]
      refine tk 11 31 (h := ⟨_, tv, ?_⟩)
      simp only [pE, List.set]
      refine tk 12 32 (h := ⟨_, tv, ?_⟩)
      simp only [pE, List.set]
      refine tk 13 33 (h := ⟨_, tv, ?_⟩)
      simp only [pE, List.set]
      refine tk 14 34 (h := ⟨_, tv, ?_⟩)
      simp only [pE, List.set]
      refine tk 15 35 (h := ⟨_, tv, ?_⟩)
      simp only [pE, List.set]
      refine tk 16 36 (h := ⟨_, tv, ?_⟩)
      simp only [pE, List.set]
      refine tk 17 37 (h := ⟨_, tv, ?_⟩)
      simp only [pE, List.set]
      refine tu 18 38 (h := ?_)
      simp only [pE, List.set]
      refine tu 19 39 (h := ?_)
      simp only [pE, List.set]
      refine tu 20 40 (h := ?_)
      simp only [pE, List.set]
      refine tu 21 41 (h := ?_)
      simp only [pE, List.set]
      refine tu 22 42 (h := ?_)
      simp only [pE, List.set]
      refine tu 23 43 (h := ?_)
      simp only [pE, List.set]
      refine tu 24 44 (h := ?_)
      simp only [pE, List.set]
      refine tu 25 45 (h := ?_)
      simp only [pE, List.set]
      refine tu 26 46 (h := ?_)
      simp only [pE, List.set]
      refine tu 27 47 (h := ?_)
      simp only [pE, List.set]
      refine tk 28 48 (h := ⟨_, tv, ?_⟩)
      simp only [pE, List.set]
      refine tk 29 49 (h := ⟨_, tv, ?_⟩)
      simp only [pE, List.set]
      refine wpAnyH_done (by kernel_rfl) ?_ _
      go_wp2_with fail
      go_roundw
      case rel => exact ⟨k + 1, A', n', c', s, by omega, by omega, by go_num, HB.out.drew, HR.out, hnc, HO.out.keep HL5.out (.inl G2.out), HBL.out.drew⟩
      case measure => simp [intOf]; omega
    have G2 := Lib.hid g2
    have e2 : (s5.cross == s.cross) = true := by rw [g2]; simp
    clear g1 g2
    have HSX := Lib.hid (show ∀ V, V = wr.drew → V.cell? ⟨b, o + k * 4 + 1, none⟩ = some (.int .i64 s5.cross) ∧ V.cell? ⟨gb, 1, none⟩ = some (.int .i64 s.cross) ∧ V.cell? ⟨b, o + k * 4, none⟩ = some (.slice A5 n5 c5) ∧ V.cell? ⟨gb, 0, none⟩ = some (.slice A' n' c') ∧ (0 : Int) ≤ (k : Int) ∧ (k : Int) < 12 ∧ decide (s5.cross < s.cross) = false ∧ (s5.cross == s.cross) = true from fun V hV => by subst hV; exact ⟨v1, q1, v0, q0, i1, i2, e1, e2⟩)
    go_wp2_with fail
    refine wp_region_held_drew (S := fun V => V = wr.drew) (by kernel_rfl) rfl (fun _ => ?_)
    refine tk 0 20 (h := ⟨_, tv, ?_⟩)
    simp only [pE, List.set]
    refine tk 1 21 (h := ⟨_, tv, ?_⟩)
    simp only [pE, List.set]
    refine tk 2 22 (h := ⟨_, tv, ?_⟩)
    simp only [pE, List.set]
    refine tk 3 23 (h := ⟨_, tv, ?_⟩)
    simp only [pE, List.set]
    refine tk 4 24 (h := ⟨_, tv, ?_⟩)
    simp only [pE, List.set]
    refine tk 5 25 (h := ⟨_, tv, ?_⟩)
    simp only [pE, List.set]
    refine tk 6 26 (h := ⟨_, tv, ?_⟩)
    simp only [pE, List.set]
    refine tk 7 27 (h := ⟨_, tv, ?_⟩)
    simp only [pE, List.set]
    refine tk 8 28 (h := ⟨_, tv, ?_⟩)
    simp only [pE, List.set]
    refine tk 9 29 (h := ⟨_, tv, ?_⟩)
    simp only [pE, List.set]
    refine tk 10 30 (h := ⟨_, tv, ?_⟩)
    simp only [pE, List.set]
    refine tk 11 31 (h := ⟨_, tv, ?_⟩)
    simp only [pE, List.set]
    refine tk 12 32 (h := ⟨_, tv, ?_⟩)
    simp only [pE, List.set]
    refine tk 13 33 (h := ⟨_, tv, ?_⟩)
    simp only [pE, List.set]
    refine tk 14 34 (h := ⟨_, tv, ?_⟩)
    simp only [pE, List.set]
    refine tk 15 35 (h := ⟨_, tv, ?_⟩)
    simp only [pE, List.set]
    refine tk 16 36 (h := ⟨_, tv, ?_⟩)
    simp only [pE, List.set]
    refine tk 17 37 (h := ⟨_, tv, ?_⟩)
    simp only [pE, List.set]
    refine tk 18 38 (h := ⟨_, tv, ?_⟩)
    simp only [pE, List.set]
    refine tk 19 39 (h := ⟨_, tv, ?_⟩)
    simp only [pE, List.set]
    refine tk 20 40 (h := ⟨_, tv, ?_⟩)
    simp only [pE, List.set]
    refine tk 21 41 (h := ⟨_, tv, ?_⟩)
    simp only [pE, List.set]
    refine tk 22 42 (h := ⟨_, tv, ?_⟩)
    simp only [pE, List.set]
    refine tk 24 44 (h := ⟨_, tv, ?_⟩)
    simp only [pE, List.set]
    refine tk 25 45 (h := ⟨_, tv, ?_⟩)
    simp only [pE, List.set]
    refine wpAnyH_ready (rs := [23]) (by kernel_rfl) (by simp) ?_
    refine AllReadyH.cons (o := _) rfl (fun K hK => ?_) AllReadyH.nil
    go_simp
    with_reducible refine (HU5.out _ HBL.out.drew).mono ?_
    rintro e V1 ⟨rfl, rfl⟩
    go_simp
    refine hK.out _ _ rfl (fun _ => ?_)
    clear hK K
    refine wpAnyH_ready (rs := [26]) (by kernel_rfl) (by simp) ?_
    refine AllReadyH.cons (o := _) rfl (fun K hK => ?_) AllReadyH.nil
    go_simp
    with_reducible refine (HU'.out _ HBL.out.drew).mono ?_
    rintro e V2 ⟨rfl, rfl⟩
    go_simp
    refine hK.out _ _ rfl (fun _ => ?_)
    clear hK K
    by_cases g3 : offB s5.side < offB s.side
    · have G3 := Lib.hid g3
      have HSX0 := HSX
      clear HSX
      have HSX := Lib.hid (show ∀ V, V = wr.drew → (V.cell? ⟨b, o + k * 4 + 1, none⟩ = some (.int .i64 s5.cross) ∧ V.cell? ⟨gb, 1, none⟩ = some (.int .i64 s.cross) ∧ V.cell? ⟨b, o + k * 4, none⟩ = some (.slice A5 n5 c5) ∧ V.cell? ⟨gb, 0, none⟩ = some (.slice A' n' c') ∧ (0 : Int) ≤ (k : Int) ∧ (k : Int) < 12 ∧ decide (s5.cross < s.cross) = false ∧ (s5.cross == s.cross) = true) ∧ decide (offB s5.side < offB s.side) = true from fun V hV => ⟨HSX0.out V hV, decide_eq_true g3⟩)
      clear g3
      refine tk 27 47 (h := ⟨_, tv, ?_⟩)
      simp only [pE, List.set]
      refine tk 28 48 (h := ⟨_, tv, ?_⟩)
      simp only [pE, List.set]
      refine tk 29 49 (h := ⟨_, tv, ?_⟩)
      simp only [pE, List.set]
      refine wpAnyH_done (by kernel_rfl) ?_ _
      obtain ⟨V, hV⟩ : ∃ V, V = wr.drew := ⟨_, rfl⟩
      have hBV : Blk V gb 166 #[.slice A' n' c', .int .i64 s.cross, .int .i64 s.dir, .int .i64 s.kind] := by rw [hV]; exact HB.out.drew
      have hLV : Below w2.heap.size w2 V := by rw [hV]; exact HBL.out.drew
      have v0 : V.cell? ⟨b, o + k * 4, none⟩ = some (.slice A5 n5 c5) := by rw [hV]; exact v0
      have v1 : V.cell? ⟨b, o + k * 4 + 1, none⟩ = some (.int .i64 s5.cross) := by rw [hV]; exact v1
      have v2 : V.cell? ⟨b, o + k * 4 + 2, none⟩ = some (.int .i64 s5.dir) := by rw [hV]; exact v2
      have v3 : V.cell? ⟨b, o + k * 4 + 3, none⟩ = some (.int .i64 s5.kind) := by rw [hV]; exact v3
      rw [← hV]
      clear hV
      have f0 := hBV.frozen 0
      have f1 := hBV.frozen 1
      have f2 := hBV.frozen 2
      have f3 := hBV.frozen 3
      obtain ⟨q0, q1, q2, q3⟩ := hBV.four
      have HB8 := Lib.hid (show Blk ((((V.setCell ⟨gb, 0, none⟩ (.slice A5 n5 c5)).setCell ⟨gb, 1, none⟩ (.int .i64 s5.cross)).setCell ⟨gb, 2, none⟩ (.int .i64 s5.dir)).setCell ⟨gb, 3, none⟩ (.int .i64 s5.kind)) gb 166 #[.slice A5 n5 c5, .int .i64 s5.cross, .int .i64 s5.dir, .int .i64 s5.kind] from (((hBV.set_ 0 _).set_ 1 _).set_ 2 _).set_ 3 _)
      have HL8 := Lib.hid (show Below w2.heap.size w2 ((((V.setCell ⟨gb, 0, none⟩ (.slice A5 n5 c5)).setCell ⟨gb, 1, none⟩ (.int .i64 s5.cross)).setCell ⟨gb, 2, none⟩ (.int .i64 s5.dir)).setCell ⟨gb, 3, none⟩ (.int .i64 s5.kind)) from (((hLV.setCell hgb _).setCell hgb _).setCell hgb _).setCell hgb _)
      go_wp2_with fail
      go_roundw
      case rel => exact ⟨k + 1, A5, n5, c5, s5, by omega, by omega, by go_num, HB8.out, HR5.out, hnc5, HO.out.turn HL5.out (.inr ⟨G2.out, G3.out⟩), HL8.out⟩
      case measure => simp [intOf]; omega
    · have G3 := Lib.hid (show offB s.side ≤ offB s5.side by omega)
      have HSX0 := HSX
      clear HSX
      have HSX := Lib.hid (show ∀ V, V = wr.drew → (V.cell? ⟨b, o + k * 4 + 1, none⟩ = some (.int .i64 s5.cross) ∧ V.cell? ⟨gb, 1, none⟩ = some (.int .i64 s.cross) ∧ V.cell? ⟨b, o + k * 4, none⟩ = some (.slice A5 n5 c5) ∧ V.cell? ⟨gb, 0, none⟩ = some (.slice A' n' c') ∧ (0 : Int) ≤ (k : Int) ∧ (k : Int) < 12 ∧ decide (s5.cross < s.cross) = false ∧ (s5.cross == s.cross) = true) ∧ decide (offB s5.side < offB s.side) = false from fun V hV => ⟨HSX0.out V hV, decide_eq_false g3⟩)
      clear g3
      refine tk 27 47 (h := ⟨_, tv, ?_⟩)
      simp only [pE, List.set]
      refine tk 28 48 (h := ⟨_, tv, ?_⟩)
      simp only [pE, List.set]
      refine tk 29 49 (h := ⟨_, tv, ?_⟩)
      simp only [pE, List.set]
      refine wpAnyH_done (by kernel_rfl) ?_ _
      go_wp2_with fail
      go_roundw
      case rel => exact ⟨k + 1, A', n', c', s, by omega, by omega, by go_num, HB.out.drew, HR.out, hnc, HO.out.keep HL5.out (.inr ⟨G2.out, G3.out⟩), HBL.out.drew⟩
      case measure => simp [intOf]; omega
  · obtain rfl : k = 12 := by omega
    have hR9 := HR2.out.below hbl hlt2
    obtain ⟨r0, r1, r2, r3⟩ := hR9.four
    have f0 := hR9.frozen 0
    have f1 := hR9.frozen 1
    have f2 := hR9.frozen 2
    have f3 := hR9.frozen 3
    go_wp2_with fail
    obtain ⟨w9, hw9⟩ : ∃ w9, w9 = (((wr.setCell ⟨w.heap.size, 0, none⟩ (.slice A' n' c')).setCell ⟨w.heap.size, 1, none⟩ (.int .i64 s.cross)).setCell ⟨w.heap.size, 2, none⟩ (.int .i64 s.dir)).setCell ⟨w.heap.size, 3, none⟩ (.int .i64 s.kind) := ⟨_, rfl⟩
    rw [← hw9]
    have hR10 : Blk w9 w.heap.size 166 #[.slice A' n' c', .int .i64 s.cross, .int .i64 s.dir, .int .i64 s.kind] := by rw [hw9]; exact (((hR9.set_ 0 _).set_ 1 _).set_ 2 _).set_ 3 _
    have hbw : Below w.heap.size w wr := Bel.step hb2 hbl
    have hb9 : Below w.heap.size w w9 := by rw [hw9]; exact (((hbw.setCell (Nat.le_refl _) _).setCell (Nat.le_refl _) _).setCell (Nat.le_refl _) _).setCell (Nat.le_refl _) _
    have n1 : blkOf A' ≠ some w.heap.size := RdB.notS HR2.out (by have := HN'.out; have := HSN.out; have := HG2.out; omega) HR.out
    have hr9 : RdB w9 A' n' s.side := by rw [hw9]; exact ((((HR.out.below hbl).far _ n1).far _ n1).far _ n1).far _ n1
    clear hw9 r0 r1 r2 r3
    obtain ⟨r0, r1, r2, r3⟩ := hR10.four
    refine bodyPost_ret (v := .agg #[.slice A' n' c', .int .i64 s.cross, .int .i64 s.dir, .int .i64 s.kind]) (by simp [results, Tryz.results84, go_sem, r0, r1, r2, r3]) rfl ?_
    exact ⟨A', n', c', s, L, rfl, hr9, hnc, HALL.out, HO.out, hb9⟩
end Go.Proofs.YtpffhoefmcpniaaGreatDoor

namespace Go.Proofs.YtpffhoefmcpniaaGreatDoor
open Go.RowKit

theorem snoc_ind {P : List Int → Prop} (h0 : P []) (hs : ∀ l x, P l → P (l ++ [x])) (l : List Int) : P l := by
 have h : ∀ l : List Int, P l.reverse := by
  intro l
  induction l with
  | nil => exact h0
  | cons x l ih => rw [List.reverse_cons]; exact hs _ _ ih
 have := h l.reverse
 rwa [List.reverse_reverse] at this
def mostN (l : List Int) : Int := l.foldl (fun n x => max n (x + 1)) 0
theorem mostN_app (l : List Int) (x : Int) : mostN (l ++ [x]) = max (mostN l) (x + 1) := by simp [mostN]
theorem mostN_nonneg : ∀ l : List Int, 0 ≤ mostN l := by
 refine snoc_ind (by simp [mostN]) (fun l x ih => by rw [mostN_app]; omega)
theorem lt_mostN {l : List Int} {x : Int} : x ∈ l → x < mostN l := by
 revert x
 refine snoc_ind (P := fun l => ∀ {x : Int}, x ∈ l → x < mostN l) (fun h => by cases h) (fun l y ih => ?_) l
 · intro x h
   rw [mostN_app]
   rcases List.mem_append.1 h with h | h
   · have := ih h; omega
   · rw [List.mem_singleton.1 h]; omega
theorem mostN_mem {l : List Int} : 0 < mostN l → ∃ x ∈ l, mostN l = x + 1 := by
 refine snoc_ind (P := fun l => 0 < mostN l → ∃ x ∈ l, mostN l = x + 1) (fun h => by simp [mostN] at h) (fun l y ih => ?_) l
 · intro h
   rw [mostN_app] at h ⊢
   by_cases h1 : mostN l ≤ y + 1
   · exact ⟨y, by simp, by omega⟩
   · have h0 := mostN_nonneg l
     obtain ⟨x, hx, e⟩ := ih (by omega)
     exact ⟨x, List.mem_append_left _ hx, by omega⟩
theorem mostN_le {l : List Int} {n : Int} (h : ∀ x ∈ l, x < n) (hn : 0 ≤ n) : mostN l ≤ n := by
 by_cases h0 : 0 < mostN l
 · obtain ⟨x, hx, e⟩ := mostN_mem h0
   have := h x hx
   omega
 · omega
structure LvlOk (n : Nat) (l : List Int) : Prop where
 len : l.length = n
 lo : ∀ x ∈ l, 0 ≤ x
 hi : ∀ x ∈ l, x < n
 all : ∀ c : Nat, (c : Int) < mostN l → (c : Int) ∈ l
def NestOk (p l : List Int) : Prop := ∀ (a b : Nat) (x y u v : Int), p[a]? = some x → p[b]? = some y → l[a]? = some u → l[b]? = some v → x ≤ y → u ≤ v
structure PartOk (n : Nat) (ls : List (List Int)) : Prop where
 l1 : 1 ≤ ls.length
 l6 : ls.length ≤ 6
 lvl : ∀ l ∈ ls, LvlOk n l
 nest : ∀ (i : Nat) p l, ls[i]? = some p → ls[i + 1]? = some l → NestOk p l
noncomputable def lvlCode (n : Nat) (p : Option (List Int)) (l : List Int) : Int := by
 classical exact if l.length ≠ n then 1 else if LvlOk n l ∧ ∀ q, p = some q → NestOk q l then 0 else 10
end Go.Proofs.YtpffhoefmcpniaaGreatDoor

namespace Go.Proofs.YtpffhoefmcpniaaGreatDoor
open Go.RowKit

def sel (c : Bool) : List Nat → List Bool → List Nat
 | v :: vs, b :: bs => if b = c then v :: sel c vs bs else sel c vs bs
 | [], _ => []
 | _ :: _, [] => []
theorem sel_snoc (c x : Bool) (v : Nat) : ∀ (l : List Nat) (b : List Bool), l.length = b.length → sel c (l ++ [v]) (b ++ [x]) = sel c l b ++ if x = c then [v] else []
 | [], [], _ => by simp [sel]
 | [], _ :: _, h => by simp at h
 | _ :: _, [], h => by simp at h
 | u :: l, y :: b, h => by
  have ih := sel_snoc c x v l b (by simpa using h)
  simp only [List.cons_append, sel, ih]
  split <;> simp
theorem sel_take {c x : Bool} {l : List Nat} {b : List Bool} {k v : Nat} (hv : l[k]? = some v) (hb : b[k]? = some x) : sel c (l.take (k + 1)) (b.take (k + 1)) = sel c (l.take k) (b.take k) ++ if x = c then [v] else [] := by
 obtain ⟨h1, e1⟩ := List.getElem?_eq_some_iff.1 hv
 obtain ⟨h2, e2⟩ := List.getElem?_eq_some_iff.1 hb
 rw [List.take_succ_eq_append_getElem h1, List.take_succ_eq_append_getElem h2, e1, e2]
 exact sel_snoc c x v _ _ (by rw [List.length_take, List.length_take]; omega)
theorem sel_len : ∀ (l : List Nat) (b : List Bool), l.length = b.length → (sel true l b).length = cnt b ∧ (sel false l b).length + cnt b = b.length
 | [], [], _ => by simp [sel, cnt]
 | [], _ :: _, h => by simp at h
 | _ :: _, [], h => by simp at h
 | u :: l, y :: b, h => by
  have ih := sel_len l b (by simpa using h)
  unfold cnt at *
  cases y <;> simp [sel] <;> omega
theorem mem_sel {c : Bool} {v : Nat} : ∀ {l : List Nat} {b : List Bool}, v ∈ sel c l b ↔ ∃ i : Nat, l[i]? = some v ∧ b[i]? = some c
 | [], b => by simp [sel]
 | _ :: _, [] => by simp [sel]
 | u :: l, y :: b => by
  have ih := mem_sel (c := c) (v := v) (l := l) (b := b)
  constructor
  · intro h
    unfold sel at h
    split at h
    · rename_i e
      rcases List.mem_cons.1 h with rfl | h
      · exact ⟨0, rfl, by rw [← e]; rfl⟩
      · obtain ⟨i, h1, h2⟩ := ih.1 h
        exact ⟨i + 1, h1, h2⟩
    · obtain ⟨i, h1, h2⟩ := ih.1 h
      exact ⟨i + 1, h1, h2⟩
  · rintro ⟨i, h1, h2⟩
    unfold sel
    cases i with
    | zero =>
     simp at h1 h2
     subst h1 h2
     simp
    | succ i =>
     have := ih.2 ⟨i, by simpa using h1, by simpa using h2⟩
     split
     · exact List.mem_cons_of_mem _ this
     · exact this
theorem sel_sub (c : Bool) : ∀ (l : List Nat) (b : List Bool), (sel c l b).Sublist l
 | [], _ => by simp [sel]
 | _ :: _, [] => by simp [sel]
 | u :: l, y :: b => by
  unfold sel
  split
  · exact (sel_sub c l b).cons_cons u
  · exact (sel_sub c l b).cons u
theorem sel_perm : ∀ (l : List Nat) (b : List Bool), l.length = b.length → (sel true l b ++ sel false l b).Perm l
 | [], [], _ => by simp [sel]
 | [], _ :: _, h => by simp at h
 | _ :: _, [], h => by simp at h
 | u :: l, y :: b, h => by
  have ih := sel_perm l b (by simpa using h)
  cases y
  · simp [sel]
    exact (List.perm_middle).trans (ih.cons u)
  · simp [sel]
    exact ih
def PcOk (n : Nat) (vl : List Nat) : Prop := vl.Pairwise (· < ·) ∧ ∀ v ∈ vl, v < n
theorem PcOk.nodup {n : Nat} {vl : List Nat} (h : PcOk n vl) : vl.Nodup := h.1.imp (fun h => Nat.ne_of_lt h)
theorem PcOk.sel {n : Nat} {vl : List Nat} (h : PcOk n vl) (c : Bool) (b : List Bool) : PcOk n (sel c vl b) := ⟨h.1.sublist (sel_sub c vl b), fun v hv => h.2 v ((sel_sub c vl b).subset hv)⟩
theorem rise_len {n : Nat} : ∀ (l : List Nat) (a : Nat), l.Pairwise (· < ·) → (∀ v ∈ l, a ≤ v ∧ v < n) → l.length + a ≤ n ∨ l = []
 | [], _, _, _ => .inr rfl
 | u :: l, a, h, g => by
  have h1 := List.pairwise_cons.1 h
  have g1 := g u (List.mem_cons_self ..)
  rcases rise_len l (u + 1) h1.2 (fun v hv => ⟨h1.1 v hv, (g v (List.mem_cons_of_mem _ hv)).2⟩) with h2 | h2
  · left; simp; omega
  · left; subst h2; simp; omega
theorem PcOk.len {n : Nat} {vl : List Nat} (h : PcOk n vl) : vl.length ≤ n := by
 rcases rise_len vl 0 h.1 (fun v hv => ⟨Nat.zero_le _, h.2 v hv⟩) with h2 | h2
 · omega
 · subst h2; simp

def ptN (N : NetD) (v : Nat) : Int × Int := match N.vs[v]? with | some x => (x.1, x.2.1) | none => (0, 0)
def ptsN (N : NetD) (vl : List Nat) : List (Int × Int) := vl.map (ptN N)
def inA (N : NetD) (vl : List Nat) (k : Nat) : Bool := match N.ar[k]? with | some a => decide (a.1.toNat ∈ vl) && decide (a.2.1.toNat ∈ vl) | none => false
def arcsTo (N : NetD) (vl : List Nat) (k : Nat) : List Nat := (List.range k).filter (inA N vl)
def arcsN (N : NetD) (vl : List Nat) : List Nat := arcsTo N vl N.ar.length
theorem arcsTo_succ (N : NetD) (vl : List Nat) (k : Nat) : arcsTo N vl (k + 1) = arcsTo N vl k ++ if inA N vl k = true then [k] else [] := by
 unfold arcsTo
 rw [List.range_succ, List.filter_append]
 congr 1
 cases h : inA N vl k <;> simp [h]
theorem arcsTo_len (N : NetD) (vl : List Nat) (k : Nat) : (arcsTo N vl k).length ≤ k := by
 have := List.length_filter_le (inA N vl) (List.range k)
 simpa [arcsTo] using this
def edgOf (N : NetD) (vl : List Nat) (k : Nat) : Edg := match N.ar[k]? with | some a => ((vl.idxOf a.1.toNat : Int), (vl.idxOf a.2.1.toNat : Int)) | none => (0, 0)
def edgsN (N : NetD) (vl : List Nat) : List Edg := (arcsN N vl).map (edgOf N vl)
theorem mem_arcsN {N : NetD} {vl : List Nat} {k : Nat} : k ∈ arcsN N vl ↔ ∃ a, N.ar[k]? = some a ∧ a.1.toNat ∈ vl ∧ a.2.1.toNat ∈ vl := by
 unfold arcsN arcsTo
 rw [List.mem_filter, List.mem_range]
 unfold inA
 constructor
 · rintro ⟨h1, h2⟩
   rw [List.getElem?_eq_getElem h1] at h2 ⊢
   simp at h2
   exact ⟨_, rfl, h2.1, h2.2⟩
 · rintro ⟨a, h1, h2, h3⟩
   refine ⟨(List.getElem?_eq_some_iff.1 h1).1, ?_⟩
   rw [h1]
   simp [h2, h3]
theorem edgs_ends (N : NetD) (vl : List Nat) : Ends vl.length (edgsN N vl) := by
 intro e he
 unfold edgsN at he
 obtain ⟨k, hk, rfl⟩ := List.mem_map.1 he
 obtain ⟨a, h1, h2, h3⟩ := mem_arcsN.1 hk
 have g1 := List.idxOf_lt_length_iff.2 h2
 have g2 := List.idxOf_lt_length_iff.2 h3
 unfold edgOf
 rw [h1]
 simp only
 omega

def IsBest (E : List Edg) (l : List (Int × Int)) (b : List Bool) : Prop := ∃ L s, IsAll E l 12 L ∧ Opt L 12 s ∧ s.side = b
theorem IsBest.unique {E : List Edg} {l : List (Int × Int)} {b c : List Bool} (h : IsBest E l b) (g : IsBest E l c) : b = c := by
 obtain ⟨L, s, h1, h2, h3⟩ := h
 obtain ⟨M, t, g1, g2, g3⟩ := g
 obtain rfl := h1.unique g1
 obtain rfl := h2.unique g2
 rw [← h3, ← g3]
def dflt (n : Nat) : List Bool := List.replicate ((n + 1) / 2) true ++ List.replicate (n / 2) false
open Classical in
noncomputable def bestB (E : List Edg) (l : List (Int × Int)) : List Bool := if h : ∃ b, IsBest E l b then h.choose else dflt l.length
theorem bestB_eq {E : List Edg} {l : List (Int × Int)} {b : List Bool} (h : IsBest E l b) : bestB E l = b := by
 have hx : ∃ b, IsBest E l b := ⟨b, h⟩
 unfold bestB
 rw [dif_pos hx]
 exact hx.choose_spec.unique h
theorem IsBest.fair {E : List Edg} {l : List (Int × Int)} {b : List Bool} (h : IsBest E l b) (h2 : 2 ≤ l.length) : b.length = l.length ∧ endsN l.length ≤ cnt b ∧ endsN l.length + cnt b ≤ l.length := by
 obtain ⟨L, s, h1, ⟨a, ha, hL, _⟩, rfl⟩ := h
 have hs := (h1.2 a s hL).sep h2
 have hf := sep_fair h2 hs
 have hl := hs.len
 unfold fairB at hf
 simp at hf
 rw [hl] at hf
 have := ends_two h2
 have hc : cnt s.side ≤ s.side.length := by unfold cnt; exact List.count_le_length
 omega
theorem bestB_fair (E : List Edg) {l : List (Int × Int)} (h2 : 2 ≤ l.length) : (bestB E l).length = l.length ∧ endsN l.length ≤ cnt (bestB E l) ∧ endsN l.length + cnt (bestB E l) ≤ l.length := by
 by_cases h : ∃ b, IsBest E l b
 · obtain ⟨b, h⟩ := h
   rw [bestB_eq h]
   exact h.fair h2
 · unfold bestB
   rw [dif_neg h]
   have := ends_two h2
   have hc : cnt (dflt l.length) = (l.length + 1) / 2 := by unfold cnt dflt; simp [List.count_append, List.count_replicate]
   have hl : (dflt l.length).length = l.length := by simp [dflt]; omega
   omega
noncomputable def sideN (N : NetD) (vl : List Nat) : List Bool := bestB (edgsN N vl) (ptsN N vl)
noncomputable def hlf (N : NetD) (c : Bool) (vl : List Nat) : List Nat := sel c vl (sideN N vl)
theorem pts_len (N : NetD) (vl : List Nat) : (ptsN N vl).length = vl.length := by simp [ptsN]
theorem side_fair (N : NetD) {vl : List Nat} (h2 : 2 ≤ vl.length) : (sideN N vl).length = vl.length ∧ endsN vl.length ≤ cnt (sideN N vl) ∧ endsN vl.length + cnt (sideN N vl) ≤ vl.length := by
 have := bestB_fair (edgsN N vl) (l := ptsN N vl) (by rw [pts_len]; exact h2)
 rw [pts_len] at this
 exact this
theorem hlf_len (N : NetD) (c : Bool) {vl : List Nat} (h2 : 2 ≤ vl.length) : (hlf N c vl).length < vl.length ∧ vl.length ≤ 4 * (hlf N c vl).length := by
 have h := side_fair N h2
 have g := sel_len vl (sideN N vl) h.1.symm
 have e := ends_two h2
 have q : vl.length ≤ 4 * endsN vl.length := by unfold endsN; rw [if_neg (by omega)]; omega
 unfold hlf
 cases c <;> omega
theorem hlf_perm (N : NetD) {vl : List Nat} (h2 : 2 ≤ vl.length) : (hlf N true vl ++ hlf N false vl).Perm vl := sel_perm _ _ (side_fair N h2).1.symm
theorem PcOk.hlf {n : Nat} {vl : List Nat} (h : PcOk n vl) (N : NetD) (c : Bool) : PcOk n (hlf N c vl) := h.sel c _
noncomputable def pcs (N : NetD) (bd : Nat) (vl : List Nat) : List (List Nat) :=
 if vl.length = 0 then [] else if _h : vl.length ≤ bd ∨ vl.length < 2 then [vl] else pcs N bd (hlf N true vl) ++ pcs N bd (hlf N false vl)
termination_by vl.length
decreasing_by
 · exact (hlf_len N true (by omega)).1
 · exact (hlf_len N false (by omega)).1
theorem pcs_nil (N : NetD) (bd : Nat) : pcs N bd [] = [] := by rw [pcs]; simp
theorem pcs_one (N : NetD) {bd : Nat} {vl : List Nat} (h0 : vl.length ≠ 0) (h : vl.length ≤ bd ∨ vl.length < 2) : pcs N bd vl = [vl] := by rw [pcs, if_neg h0, dif_pos h]
theorem pcs_two (N : NetD) {bd : Nat} {vl : List Nat} (h : bd < vl.length) (h2 : 2 ≤ vl.length) : pcs N bd vl = pcs N bd (hlf N true vl) ++ pcs N bd (hlf N false vl) := by
 rw [pcs, if_neg (by omega), dif_neg (by omega)]
theorem pcs_ind (N : NetD) (bd : Nat) {Q : List Nat → List (List Nat) → Prop} (h0 : Q [] []) (h1 : ∀ vl, vl.length ≠ 0 → (vl.length ≤ bd ∨ vl.length < 2) → Q vl [vl])
 (h2 : ∀ vl, 2 ≤ vl.length → bd < vl.length → Q (hlf N true vl) (pcs N bd (hlf N true vl)) → Q (hlf N false vl) (pcs N bd (hlf N false vl)) → Q vl (pcs N bd (hlf N true vl) ++ pcs N bd (hlf N false vl))) : ∀ vl, Q vl (pcs N bd vl) := by
 have H : ∀ (n : Nat) (vl : List Nat), vl.length = n → Q vl (pcs N bd vl) := by
  intro n
  induction n using Nat.strongRecOn with
  | ind n ih =>
   intro vl hn
   by_cases e0 : vl.length = 0
   · rw [List.eq_nil_of_length_eq_zero e0, pcs_nil]; exact h0
   · by_cases e1 : vl.length ≤ bd ∨ vl.length < 2
     · rw [pcs_one N e0 e1]; exact h1 vl e0 e1
     · have t2 : 2 ≤ vl.length := by omega
       rw [pcs_two N (by omega) t2]
       exact h2 vl t2 (by omega) (ih _ (by rw [← hn]; exact (hlf_len N true t2).1) _ rfl) (ih _ (by rw [← hn]; exact (hlf_len N false t2).1) _ rfl)
 exact fun vl => H _ vl rfl
theorem pcs_perm (N : NetD) (bd : Nat) : ∀ vl, (pcs N bd vl).flatten.Perm vl := by
 refine pcs_ind N bd (Q := fun vl ps => ps.flatten.Perm vl) (by simp) (fun vl _ _ => by simp) (fun vl t2 _ h1 h2 => ?_)
 rw [List.flatten_append]
 exact (h1.append h2).trans (hlf_perm N t2)
theorem pcs_ok {n : Nat} (N : NetD) (bd : Nat) : ∀ vl, PcOk n vl → ∀ p ∈ pcs N bd vl, PcOk n p ∧ p ≠ [] := by
 refine pcs_ind N bd (Q := fun vl ps => PcOk n vl → ∀ p ∈ ps, PcOk n p ∧ p ≠ []) (fun _ p hp => by cases hp) (fun vl h0 _ h p hp => ?_) (fun vl _ _ h1 h2 h p hp => ?_)
 · rw [List.mem_singleton.1 hp]
   exact ⟨h, fun e => h0 (by rw [e]; rfl)⟩
 · rcases List.mem_append.1 hp with hp | hp
   · exact h1 (h.hlf N true) p hp
   · exact h2 (h.hlf N false) p hp
theorem pcs_le (N : NetD) {bd : Nat} (hb : 1 ≤ bd) : ∀ vl, ∀ p ∈ pcs N bd vl, p.length ≤ bd := by
 refine pcs_ind N bd (Q := fun vl ps => ∀ p ∈ ps, p.length ≤ bd) (fun p hp => by cases hp) (fun vl h0 h p hp => ?_) (fun vl _ _ h1 h2 p hp => ?_)
 · rw [List.mem_singleton.1 hp]; omega
 · rcases List.mem_append.1 hp with hp | hp
   · exact h1 p hp
   · exact h2 p hp
theorem flat_ones : ∀ {ps : List (List Nat)}, (∀ p ∈ ps, p.length = 1) → ps.flatten.length = ps.length
 | [], _ => rfl
 | p :: ps, h => by
  have := flat_ones (ps := ps) (fun q hq => h q (List.mem_cons_of_mem _ hq))
  have h1 := h p (List.mem_cons_self ..)
  simp at this ⊢
  omega
end Go.Proofs.YtpffhoefmcpniaaGreatDoor
