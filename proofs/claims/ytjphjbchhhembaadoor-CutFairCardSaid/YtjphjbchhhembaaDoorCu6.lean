/- CutBest, walked. -/
import Derived.Test.YtjphjbchhhembaaDoorCu5
namespace Go.Proofs.YtjphjbchhhembaaDoor
open Go.RowKit

attribute [local go_sem ↓] Go.wp_at_zero Go.wp_at_succ

theorem quiet_draws {P : Program} {f : FuncId} {args : Array Value} {w : World} {n : Nat} {v : Value}
    (h : Calls P f args (w.drewN n) fun e w' => e = .returned v ∧ ∃ q, w' = (w.drewN n).drewN q) : Calls P f args (w.drewN n) fun e w' => e = .returned v ∧ ∃ m, w' = w.drewN m :=
  h.mono fun _ _ ⟨he, q, hq⟩ => ⟨he, n + q, by rw [hq]; simp⟩
theorem field1 (A : Option Addr) (k c : Nat) (x : Int) (V : World) : (Instr.field 49 (.agg #[.slice A k c, .int .i64 x]) 1).run Tryd.prog V = .ok (.int .i64 x) V := by kernel_rfl

set_option maxHeartbeats 8000000 in
set_option maxRecDepth 100000 in
theorem cutBestLaw_walk (A B : Option Addr) (n m c d : Nat) (l E : List (Int × Int)) (w : World) (h : RdP w A n l) (hE : RdP w B m E) (hg : w.cell? ⟨0, 0, none⟩ = some errT) :
    Calls Tryd.prog 4 #[.slice A n c, .slice B m d] w fun e w' => e = .returned (.bool true) ∧ Below w.heap.size w w' := by
  have HK := Lib.hid (known11_any w hg)
  clear hg
  by_cases hf : n ≤ 24 ∧ m ≤ 80
  · have HF := Lib.hid (show ∀ V, Calls Tryd.prog 14 #[.slice A n c, .slice B m d] V fun e w' => e = .returned (.bool true) ∧ V = w' from fun V => by
      have := few_any A B n c m d V
      rw [decide_eq_true hf.1, decide_eq_true hf.2] at this
      exact this)
    obtain ⟨hn, hm⟩ := hf
    have HC := Lib.hid (show ∀ V, Below w.heap.size w V → Calls Tryd.prog 15 #[.slice A n c, .slice B m d] V fun e w' => CkRes (Good l E) e ∧ Below V.heap.size V w' from fun V hV => checkCut_any A B n m c d l E V (h.below hV) (hE.below hV) hn hm)
    go_enter Tryd.func4, Tryd.ntmps4
    go_wp2_with fail
    with_reducible refine HK.out.mono ?_
    rintro e w1 ⟨rfl, hb1⟩
    go_wp2_with fail
    with_reducible refine (HF.out _).mono ?_
    rintro e w' ⟨rfl, rfl⟩
    go_wp2_with fail
    with_reducible refine (HC.out _ hb1).mono ?_
    rintro e w2 ⟨⟨A2, k2, c2, x, rfl, hx⟩, hb2⟩
    have hbw2 : Below w.heap.size w w2 := Bel.step hb1 hb2
    have hfld := field1 A2 k2 c2 x
    clear hb1 hb2 HC HK HF
    rcases hx with ⟨rfl, hG⟩ | hx
    · have HG := Lib.hid hG
      clear hG
      go_wp2_with fail
      with_reducible refine (cutAll_any A B n m c d l E w2 (h.below hbw2) (hE.below hbw2) HG.out (by omega) (by omega)).mono ?_
      rintro e w3 ⟨A3, c3, L, rfl, hS, hall, hc12, hcm, hb3⟩
      have hbw3 : Below w.heap.size w w3 := Bel.step hbw2 hb3
      have HS := Lib.hid hS
      have HALL := Lib.hid hall
      clear hS hall hb3 hbw2
      go_wp2_with fail
      with_reducible refine (cutBest_any A B n m c d l E w3 (h.below hbw3) (hE.below hbw3) HG.out (by omega) (by omega)).mono ?_
      rintro e w4 ⟨A4, n4, c4, s, L', rfl, hr, hnc4, hall', hopt, hb4⟩
      obtain rfl := HALL.out.unique hall'
      obtain ⟨a, ha, hLa, hbest⟩ := hopt
      have hsp := HALL.out.2 a s hLa
      have hd := hsp.dir
      have hk := hsp.kind
      have hp : a / 3 ≤ 3 := by omega
      have hq : a % 3 ≤ 2 := by omega
      have hpq : a = 3 * (a / 3) + a % 3 := by omega
      have HSL := Lib.hid (hsp.sep HG.out.1).len
      have HLA := Lib.hid hLa
      have HB := Lib.hid hbest
      have HR := Lib.hid hr
      have HLN := Lib.hid (show l.length = n from h.1)
      obtain ⟨sd, sc, sdi, sk⟩ := s
      simp only at hd hk
      subst hd; subst hk
      generalize a / 3 = p at *
      generalize a % 3 = q at *
      obtain ⟨z, hz⟩ : ∃ z, z = sc := ⟨_, rfl⟩
      subst hz
      have HS4 := Lib.hid (HS.out.below hb4)
      have hbw4 : Below w.heap.size w w4 := Bel.step hbw3 hb4
      have hfl : A3 ≠ none := by
        obtain ⟨b, o, _, _, _, _, e, _⟩ := HS.out.at_ (i := 0) (by omega)
        rw [e]; simp
      clear hsp hLa hbest hr hall' hb4 HS
      have HPQ := Lib.hid hpq
      clear hpq hfl
      go_wp2_with fail
      (refine wp_named ?_; intro w5 hw5)
      have hb45 : Below w4.heap.size w4 w5 := by rw [hw5]; exact (by repeat (first | exact Below.refl _ _ | assumption | apply Below.drew | apply below_drewN | apply Bel.alloc | (refine Bel.setCell_ ?_ ?_; rotate_left; omega) | (refine Bel.step ?_ (by assumption))))
      have hbw5 : Below w.heap.size w w5 := Bel.step hbw4 hb45
      have hB5 : Blk w5 w4.heap.size 56 #[.slice A4 n4 c4, .int .i64 z, .int .i64 p, .int .i64 q] := by rw [hw5]; exact Blk.new _ _ _
      have HS5 := Lib.hid (HS4.out.below hb45)
      have HR5 := Lib.hid (HR.out.below hb45)
      have HY := Lib.hid (show n4 = n from by rw [← HR.out.1]; show sd.length = n; rw [HSL.out, HLN.out])
      clear hw5 hb45 HS4 HR
      obtain ⟨s0, s1, s2, s3⟩ := hB5.four
      go_loopw [10] (fun i W => ∃ k : Nat, k ≤ 12 ∧ i = .int .i64 k ∧ ∃ j, W = w5.drewN j) (fun i _ => 12 - (intOf i).toNat)
      case atStart => exact ⟨0, by omega, rfl, 0, rfl⟩
      case round =>
        obtain ⟨k, hk, rfl, j, hj⟩ := hrel
        have hb5r : Below w5.heap.size w5 wr := by rw [hj]; exact below_drewN (Below.refl _ _) j
        have HJ := Lib.hid hj
        have hBr := hB5.below hb5r hB5.lt
        have HSr := HS5.out.below hb5r
        have HRr := HR5.out.below hb5r
        clear hj s0 s1 s2 s3
        obtain ⟨s0, s1, s2, s3⟩ := hBr.four
        by_cases hlt : k < 12
        · obtain ⟨b, o, A6, n6, c6, t, e, ht, x0, x1, x2, x3, hr6, hnc6⟩ := HSr.at_ hlt
          subst e
          have hbt := HB.out k t (by omega) ht
          have HN6 := Lib.hid (show n6 = n from by rw [← hr6.1, ((HALL.out.2 k t ht).sep HG.out.1).len, HLN.out])
          obtain ⟨td, tc, tdi, tk⟩ := t
          simp only at hbt x1 x2 x3 hr6
          have HU6 := Lib.hid (show ∀ i, Calls Tryd.prog 18 #[.slice A6 n6 c6] (wr.drewN i) fun e w' => e = .returned (.int .i64 (offB td)) ∧ wr.drewN i = w' from fun i => uneven_any A6 n6 c6 td _ (hr6.below (below_drewN (Below.refl _ _) i)) (by have := HN6.out; omega))
          have HU4 := Lib.hid (show ∀ i, Calls Tryd.prog 18 #[.slice A4 n4 c4] (wr.drewN i) fun e w' => e = .returned (.int .i64 (offB sd)) ∧ wr.drewN i = w' from fun i => uneven_any A4 n4 c4 sd _ (HRr.below (below_drewN (Below.refl _ _) i)) (by have := HY.out; omega))
          generalize offB td = x at *
          generalize offB sd = y at *
          have HBT := Lib.hid hbt
          have i1 : (0 : Int) ≤ (k : Int) := by omega
          have i2 : (k : Int) < 12 := by omega
          have d1 : decide (tc < z) = false := decide_eq_false (by omega)
          clear ht hr6 hbt x2 x3 s2 s3 HRr HSr
          by_cases g1 : tc = z
          · subst g1
            have d3 : decide (x < y) = false := decide_eq_false (by have := HBT.out; omega)
            by_cases g2 : x = y
            · subst g2
              have d5 : decide ((k : Int) < 3 * (p : Int) + (q : Int)) = false := decide_eq_false (by have := HBT.out; have := HPQ.out; omega)
              go_wp2_with fail
              go_quiet ((go_at_call 18; first | (with_reducible exact quiet_left (HU6.out _)) | (with_reducible exact quiet_left (HU4.out _))))
              go_wp2_with fail
              go_quiet (fail)
              go_wp2_with fail
              go_roundw
              case rel => exact ⟨k + 1, by omega, by go_num, _, by rw [HJ.out, World.drewN_drewN]⟩
              case measure => simp [intOf]; omega
            · have d4 : (x == y) = false := by simpa using g2
              have G2 := Lib.hid g2
              clear g2
              go_wp2_with fail
              go_quiet ((go_at_call 18; first | (with_reducible exact quiet_left (HU6.out _)) | (with_reducible exact quiet_left (HU4.out _))))
              go_wp2_with fail
              go_quiet (fail)
              go_wp2_with fail
              go_roundw
              case rel => exact ⟨k + 1, by omega, by go_num, _, by rw [HJ.out, World.drewN_drewN]⟩
              case measure => simp [intOf]; omega
          · have d2 : (tc == z) = false := by simpa using g1
            have G1 := Lib.hid g1
            clear g1
            go_wp2_with fail
            go_quiet ((go_at_call 18; first | (with_reducible exact quiet_left (HU6.out _)) | (with_reducible exact quiet_left (HU4.out _))))
            go_wp2_with fail
            go_quiet (fail)
            go_wp2_with fail
            go_roundw
            case rel => exact ⟨k + 1, by omega, by go_num, _, by rw [HJ.out, World.drewN_drewN]⟩
            case measure => simp [intOf]; omega
        · obtain ⟨b, o, A6, n6, c6, t, e, ht, x0, x1, x2, x3, hr6, hnc6⟩ := HSr.at_ (i := 3 * p + q) (by omega)
          subst e
          have hts : t = ⟨sd, z, p, q⟩ := by
            have := HLA.out
            rw [HPQ.out, ht] at this
            exact Option.some.inj this
          subst hts
          simp only at x1 x2 x3 hr6
          have HSB := Lib.hid (show ∀ i, Calls Tryd.prog 19 #[.slice A6 n6 c6, .slice A4 n4 c4] (wr.drewN i) fun e w' => e = .returned (.bool true) ∧ ∃ q, w' = (wr.drewN i).drewN q from fun i => sameBools_any A6 A4 n6 n4 c6 c4 sd sd _ (hr6.below (below_drewN (Below.refl _ _) i)) (HRr.below (below_drewN (Below.refl _ _) i)) (by have h1 := hr6.1; have h2 : sd.length = l.length := HSL.out; have h3 := HLN.out; omega) rfl)
          have i1 : (0 : Int) ≤ 3 * (p : Int) + (q : Int) := by omega
          have i2 : 3 * (p : Int) + (q : Int) < 12 := by omega
          have i3 : (3 * (p : Int) + (q : Int)).toNat = 3 * p + q := by omega
          have hbwr : Below w.heap.size w wr := Bel.step hbw5 hb5r
          clear ht hr6 x2 x3 s2 s3 HRr HSr
          go_wp2_with fail
          go_quiet ((go_at_call 19; exact quiet_draws (HSB.out _)))
          go_wp2_with fail
          go_ret
          exact ⟨rfl, below_drewN hbwr _⟩
    · have hx1 : (x != 0) = true := by simpa using hx
      have hx2 : (x == 0) = false := by simpa using hx
      clear hx
      go_wp2_with fail
      go_ret
      exact ⟨rfl, hbw2⟩
  · have HF := Lib.hid (show ∀ V, Calls Tryd.prog 14 #[.slice A n c, .slice B m d] V fun e w' => e = .returned (.bool false) ∧ V = w' from fun V => by
      have h1 := few_any A B n c m d V
      have h2 : (decide (n ≤ 24) && decide (m ≤ 80)) = false := by simp; omega
      rw [h2] at h1
      exact h1)
    clear h hE hf
    go_enter Tryd.func4, Tryd.ntmps4
    go_wp2_with fail
    with_reducible refine HK.out.mono ?_
    rintro e w1 ⟨rfl, hb1⟩
    go_wp2_with fail
    with_reducible refine (HF.out _).mono ?_
    rintro e w' ⟨rfl, rfl⟩
    go_wp2_with fail
    go_ret
    exact ⟨rfl, hb1⟩
end Go.Proofs.YtjphjbchhhembaaDoor
