/- LineShares' walk. -/
import Derived.Test.YtjphjbchhhembaaA8
import Derived.Test.YtjphjbchhhembaaPl2
namespace Go.Proofs.Ytjphjbchhhembaa
open Go.RowKit

attribute [local go_sem ↓] Go.wp_at_zero Go.wp_at_succ
theorem Try.infoB : (Try.prog.info? 4).map (fun i => (i.zero, i.size, i.bytes)) = some (some (.bool false), 1, 1) := by kernel_rfl

set_option maxHeartbeats 4000000 in
set_option maxRecDepth 100000 in
theorem lineShares_walk (N : Nat) (A : Option Addr) (m c : Nat) (more : List Bool) (w : World) (hN : N ≤ 255) (h : RdB w A m more) (hm : m ≤ 4000000000000000000) :
    Calls Try.prog 4 #[.int .u8 N, .slice A m c] w fun e w' => e = .returned (.bool true) ∧ Below w.heap.size w w' := by
  go_enter Try.func4, Try.ntmps4
  go_wp2_with fail
  with_reducible refine (known10_any _).mono ?_
  rintro e w1 ⟨rfl, b1⟩
  replace h := h.below b1
  go_wp2_with fail
  go_loopw [5, 6] (fun v i W => ∃ (k : Nat) (A3 : Option Addr) (c3 : Nat), k ≤ N ∧ i = .int .i64 k ∧ v = .slice A3 k c3 ∧ Own W w1.heap.size 3 1 A3 k c3 (icells ((downI N).take k)) ∧ Below w1.heap.size w1 W) (fun _ i _ => N - (intOf i).toNat)
  case atStart => exact ⟨0, none, 0, Nat.zero_le _, rfl, rfl, Own.nil _ _ _ _, Below.refl _ _⟩
  case round =>
    obtain ⟨k, A3, c3, hk, rfl, rfl, hown, hbl⟩ := hrel
    by_cases hlt : k < N
    · have hx := downI_at hlt
      have hap : icells ((downI N).take (k + 1)) = icells ((downI N).take k) ++ [.int .i64 ((N : Int) - 1 - k)] := by rw [take_next hx, icells_app]; rfl
      have HAP := Lib.hid hap; clear hap hx
      have hz := hbl.size
      have hown1 := hown.alloc (.cells #[.int .i64 ((N : Int) - 1 - k)] 3)
      have hbl1 := Bel.alloc (o := .cells #[.int .i64 ((N : Int) - 1 - k)] 3) hbl
      have hb1 := Blk.new wr 3 #[.int .i64 ((N : Int) - 1 - k)]
      go_wp2_with (at_builtin; with_reducible refine wpList_app rfl (.tmp 23) (.tmp 29) 26 rfl 3 _ 1 8 Try.info3 Try.underlying26 rfl (by omega) rfl rfl hown1 (hb1.rds rfl) (by simp [Value.oneCell']) (by omega) (by omega) (by simp; omega) ?_)
      intro A4 c4 w4 hown4 hg4 _
      have hb4 := Bel.grownOwn hbl1 hg4 hown1 (by simp; omega)
      clear hown hbl hown1 hbl1 hb1 hg4
      go_wp2
      go_roundw
      case rel => exact ⟨k + 1, A4, c4, by omega, by go_num, rfl, by rw [HAP.out]; exact hown4, hb4⟩
      case measure => simp [intOf]; omega
    · obtain rfl : k = N := by omega
      have ht : (downI k).take k = downI k := List.take_of_length_le (by rw [downI_len]; omega)
      rw [ht] at hown
      have hro : RdI wr A3 k (downI k) := hown.rds.rdI
      have hcap := hown.cap
      have hb0 : Below w.heap.size w wr := Bel.step b1 hbl
      replace h := h.below hbl
      have hee : endsN k ≤ k := by unfold endsN; split <;> omega
      clear ht hown hbl b1
      go_wp2_with fail
      with_reducible refine (ends2_any _ k _ (downI k) _ hro (by omega) hcap).mono ?_
      rintro e w2 ⟨A5, A6, rfl, ha, hbb, b2⟩
      have hro2 := hro.below b2
      have hb02 := Bel.step hb0 b2
      have h2 := h.below b2
      clear hro hb0 h b2
      go_wp2_with fail
      with_reducible refine (half_any _ k _ (downI k) _ hro2 (by omega) hcap).mono ?_
      rintro e w3 ⟨A7, rfl, hh, b3⟩
      have hro3 := hro2.below b3
      have hb03 := Bel.step hb02 b3
      have h3 := h2.below b3
      have ha3 := ha.below b3
      have hbb3 := hbb.below b3
      clear hro2 hb02 h2 ha hbb b3
      have hmk := fun W => run_make1 (P := Try.prog) 33 4 (.bool false) 1 Try.infoB Try.underlying33 rfl k (by omega) (by omega) .i64 .i64 W
      by_cases h2k : k < 2
      · have he0 : endsN k = 0 := by unfold endsN; rw [if_pos h2k]
        have hh0 : (k + 1) / 2 = k := by omega
        rw [hh0, he0]
        have hFR : ∀ W g, RdB W g k (List.replicate k false) → Calls Try.prog 14 #[.slice g k k] W fun e w' => e = .returned (.bool false) ∧ W = w' := fun W g hr => by
          have := fair_any g k k _ W hr (by omega)
          rwa [show fairB (List.replicate k false) = false by simp [fairB]; omega] at this
        have HFR := Lib.hid hFR; clear hFR
        have hb1 : Blk (w3.alloc (.cells (zeros (.bool false) k) 4)) w3.heap.size 4 (bools (List.replicate k false)) := by rw [← zeros_bool]; exact Blk.new _ _ _
        have hr1 := hb1.rdB (n := k) (by simp)
        go_wp2_with fail
        with_reducible refine (HFR.out _ _ hr1).mono ?_
        rintro e w' ⟨rfl, rfl⟩
        go_wp2_with fail
        go_ret
        exact ⟨rfl, (by repeat (first | exact Below.refl _ _ | assumption | apply Below.drew | apply below_drewN | apply Bel.alloc | (refine Bel.setCell_ ?_ ?_; rotate_left; omega) | (refine Bel.step ?_ (by assumption))))⟩
      · have ht2 := two_ends (N := k) (by omega)
        obtain ⟨e, he⟩ : ∃ e, e = endsN k := ⟨_, rfl⟩
        rw [← he] at ht2 ha3 hbb3 hee
        rw [← he]
        have HE := Lib.hid he; clear he
        go_wp2_with fail
        go_loopw [12] (fun i W => ∃ j : Nat, j ≤ k ∧ i = .int .i64 j ∧ (∃ sl : List Bool, sl.length = k ∧ Blk W w3.heap.size 4 (bools sl)) ∧ Blk W (w3.heap.size + 1) 4 (bools (lastK k 0)) ∧ Below w3.heap.size w3 W) (fun i _ => k - (intOf i).toNat)
        case atStart =>
          refine ⟨0, Nat.zero_le _, rfl, ⟨List.replicate k false, by simp, ?_⟩, ?_, (by repeat (first | exact Below.refl _ _ | assumption | apply Below.drew | apply below_drewN | apply Bel.alloc | (refine Bel.setCell_ ?_ ?_; rotate_left; omega) | (refine Bel.step ?_ (by assumption))))⟩
          · rw [← zeros_bool]; exact (by repeat (first | assumption | (refine Blk.new' _ _ _ ?_; first | with_unfolding_all rfl | (simp; done)) | apply Blk.drewN | apply Blk.drew | apply Blk.alloc | (refine Blk.far_ ?_ ?_ _; rotate_left; omega)))
          · rw [lastK_zero, ← zeros_bool]; exact (by repeat (first | assumption | (refine Blk.new' _ _ _ ?_; first | with_unfolding_all rfl | (simp; done)) | apply Blk.drewN | apply Blk.drew | apply Blk.alloc | (refine Blk.far_ ?_ ?_ _; rotate_left; omega)))
        case round =>
          obtain ⟨j, hj, rfl, ⟨sl, hsl, hB1⟩, hB2, hbl⟩ := hrel
          have hz1 := hB2.lt
          by_cases hb : j < k ∧ j < m
          · obtain ⟨hjk, hjm⟩ := hb
            obtain ⟨mb, mo, x, rfl, hx, hcx⟩ := (h3.below hbl).at_ hjm
            obtain ⟨y, hy⟩ : ∃ y, sl[j]? = some y := ⟨sl[j], List.getElem?_eq_getElem (by omega)⟩
            have hcy := hB1.cellB hy
            have hfy := hB1.frozen j
            clear hx hy
            go_wp2
            go_roundw
            case rel => exact ⟨j + 1, by omega, by go_num, ⟨sl.set j x, by simp [hsl], Blk.setB hB1 rfl⟩, (by repeat (first | assumption | apply Blk.drewN | apply Blk.drew | apply Blk.alloc | (refine Blk.far_ ?_ ?_ _; rotate_left; omega))), (by repeat (first | exact Below.refl _ _ | assumption | apply Below.drew | apply below_drewN | apply Bel.alloc | (refine Bel.setCell_ ?_ ?_; rotate_left; omega) | (refine Bel.step ?_ (by assumption))))⟩
            case measure => simp [intOf]; omega
          · have hb30 := Bel.step hb03 hbl
            by_cases hjk : j < k
            all_goals
              try have hjm : ¬ j < m := by omega
              clear hb h3
              go_wp2_with fail
              obtain ⟨wo, rfl⟩ : ∃ wo : World, wo = wr := ⟨_, rfl⟩
              go_loopw [13] (fun i V => ∃ j : Nat, j ≤ (k + 1) / 2 ∧ i = .int .i64 j ∧ (∃ sl : List Bool, sl.length = k ∧ Blk V w3.heap.size 4 (bools sl)) ∧ Blk V (w3.heap.size + 1) 4 (bools (lastK k j)) ∧ Below w3.heap.size w3 V) (fun i _ => (k + 1) / 2 - (intOf i).toNat)
              case atStart => exact ⟨0, Nat.zero_le _, rfl, ⟨sl, hsl, hB1⟩, hB2, hbl⟩
              case round =>
                clear hB1 hB2 hbl hz1 hsl
                obtain ⟨i, hi, rfl, ⟨s3, hs3, hC1⟩, hC2, hbl3⟩ := hrel
                have hz3 := hC2.lt
                by_cases hih : i < (k + 1) / 2
                · obtain ⟨p, hp⟩ : ∃ p : Nat, (p : Int) = (k : Int) - 1 - i := ⟨k - 1 - i, by omega⟩
                  obtain ⟨hb', ho', x, rfl, hx, hcx⟩ := (hh.below hbl3).at_ hih
                  obtain ⟨ob, oo, y, rfl, hy, hcy⟩ := (hro3.below hbl3).at_ (i := i) (by omega)
                  have hx2 := (downI_inv (by rw [List.getElem?_take, if_pos hih] at hx; exact hx)).2
                  have hy2 := (downI_inv hy).2
                  rw [← hp] at hx2 hy2
                  subst hx2; subst hy2
                  have hpk : p < k := by omega
                  have hC2s := hC2.setB (lastK_set (N := k) (k := i) (by omega))
                  have hpe : k - 1 - i = p := by omega
                  rw [hpe] at hC2s
                  have hcz : wr.cell? ⟨w3.heap.size + 1, p, none⟩ = some (.bool ((lastK k i)[p]'(by rw [lastK_len]; exact hpk))) := hC2.cellB (List.getElem?_eq_getElem _)
                  have hfz := hC2.frozen p
                  have i1 : (0 : Int) ≤ (p : Int) := by omega
                  have i2 : (p : Int) < (k : Int) := by omega
                  have i3 : (0 : Int) ≤ (i : Int) := by omega
                  have i4 : (i : Int) < (k : Int) := by omega
                  have i5 : (i : Int) < (((k + 1) / 2 : Nat) : Int) := by omega
                  have HP := Lib.hid hp; clear hp
                  have HPE := Lib.hid hpe; clear hpe
                  clear hx hy
                  go_wp2
                  go_quiet (fail)
                  go_wp2
                  go_roundw
                  case rel =>
                    refine ⟨i + 1, by omega, by go_num, ⟨s3, hs3, (by repeat (first | assumption | apply Blk.drewN | apply Blk.drew | apply Blk.alloc | (refine Blk.far_ ?_ ?_ _; rotate_left; omega)))⟩, hC2s, (by repeat (first | exact Below.refl _ _ | assumption | apply Below.drew | apply below_drewN | apply Bel.alloc | (refine Bel.setCell_ ?_ ?_; rotate_left; omega) | (refine Bel.step ?_ (by assumption))))⟩
                  case measure => simp [intOf]; omega
                · obtain rfl : i = (k + 1) / 2 := by omega
                  have hb40 := Bel.step hb03 hbl3
                  go_wp2_with fail
                  obtain ⟨wq, rfl⟩ : ∃ wo : World, wo = wr := ⟨_, rfl⟩
                  go_loopw [14] (fun i V => ∃ j : Nat, j ≤ e ∧ i = .int .i64 j ∧ (∃ sl : List Bool, SideK k e j sl ∧ Blk V w3.heap.size 4 (bools sl)) ∧ Blk V (w3.heap.size + 1) 4 (bools (lastK k ((k + 1) / 2))) ∧ Below w3.heap.size w3 V) (fun i _ => e - (intOf i).toNat)
                  case atStart => exact ⟨0, Nat.zero_le _, rfl, ⟨s3, ⟨hs3, fun i hi => absurd hi (by omega)⟩, hC1⟩, hC2, hbl3⟩
                  case round =>
                    clear hC1 hC2 hbl3 hz3 hs3
                    obtain ⟨i, hi, rfl, ⟨s4, hs4, hD1⟩, hD2, hbl4⟩ := hrel
                    have hz4 := hD2.lt
                    by_cases hie : i < e
                    · obtain ⟨p, hp⟩ : ∃ p : Nat, (p : Int) = (k : Int) - 1 - i := ⟨k - 1 - i, by omega⟩
                      obtain ⟨q, hq⟩ : ∃ q : Nat, (q : Int) = (e : Int) - 1 - i := ⟨e - 1 - i, by omega⟩
                      obtain ⟨ab, ao, x, rfl, hx, hcx⟩ := (ha3.below hbl4).at_ hie
                      obtain ⟨bb, bo, y, rfl, hy, hcy⟩ := (hbb3.below hbl4).at_ hie
                      obtain ⟨ob, oo, z, rfl, hz, hcz⟩ := (hro3.below hbl4).at_ (i := i) (by omega)
                      obtain ⟨_, _, z2, eA, hz2, hcz2⟩ := (hro3.below hbl4).at_ (i := k - e + i) (by omega)
                      cases eA
                      have hx2 := (downI_inv (by rw [List.getElem?_take, if_pos hie] at hx; exact hx)).2
                      have hy2 := (downI_inv (by rw [List.getElem?_drop] at hy; exact hy)).2
                      have hzz := (downI_inv hz).2
                      have hzz2 := (downI_inv hz2).2
                      rw [← hp] at hx2 hzz
                      rw [show (k : Int) - 1 - ((k - e + i : Nat) : Int) = (q : Int) by omega] at hy2 hzz2
                      subst hx2; subst hy2; subst hzz; subst hzz2
                      have hpl : place ((downI k).drop (k - e)) (p : Int) = -1 := place_miss (fun j hj hjx => by
                        rw [List.getElem?_drop] at hjx
                        have := downI_inv hjx
                        rw [List.length_drop, downI_len] at hj
                        omega)
                      have hPC : ∀ W, Below w3.heap.size w3 W → Calls Try.prog 9 #[.slice (some ⟨bb, bo, none⟩) e e, .int .i64 p] W fun e w' => e = .returned (.int .i64 (-1)) ∧ W = w' := fun W hb => by
                        have := place_any (some ⟨bb, bo, none⟩) e e _ p W (hbb3.below hb) (by omega)
                        rw [hpl] at this
                        exact this
                      have HPC := Lib.hid hPC; clear hPC hpl
                      have hst := sideK_step hs4 ht2.1 hie
                      obtain ⟨v1, hv1⟩ : ∃ v1, s4[p]? = some v1 := ⟨s4[p]'(by rw [hs4.1]; omega), List.getElem?_eq_getElem _⟩
                      obtain ⟨v2, hv2⟩ : ∃ v2, (s4.set p true)[q]? = some v2 := ⟨(s4.set p true)[q]'(by rw [List.length_set, hs4.1]; omega), List.getElem?_eq_getElem _⟩
                      rw [show k - 1 - i = p by omega, show e - 1 - i = q by omega] at hst
                      have i1 : (0 : Int) ≤ (p : Int) := by omega
                      have i2 : (p : Int) < (k : Int) := by omega
                      have i3 : (0 : Int) ≤ (i : Int) := by omega
                      have i4 : (i : Int) < (k : Int) := by omega
                      have i5 : (i : Int) < (e : Int) := by omega
                      have i6 : (0 : Int) ≤ (q : Int) := by omega
                      have i7 : (q : Int) < (k : Int) := by omega
                      have i8 : IntKind.i64.wrap ((k : Int) - (e : Int)) = (k : Int) - (e : Int) := IntWalk.i64_in _ (by omega)
                      have i9 : IntKind.i64.wrap ((k : Int) - (e : Int) + (i : Int)) = (k : Int) - (e : Int) + (i : Int) := IntWalk.i64_in _ (by omega)
                      have i10 : ((k : Int) - (e : Int) + (i : Int)).toNat = k - e + i := by omega
                      have i11 : (0 : Int) ≤ (k : Int) - (e : Int) + (i : Int) := by omega
                      have i12 : (k : Int) - (e : Int) + (i : Int) < (k : Int) := by omega
                      have HP := Lib.hid hp; clear hp
                      have HQ := Lib.hid hq; clear hq
                      clear hx hy hz hz2
                      have HV1 := Lib.hid hv1; clear hv1
                      have HV2 := Lib.hid hv2; clear hv2
                      go_wp2
                      go_quiet ((go_at_call 9; exact quiet_left (HPC.out _ (by repeat (first | exact Below.refl _ _ | assumption | apply Below.drew | apply below_drewN | apply Bel.alloc | (refine Bel.setCell_ ?_ ?_; rotate_left; omega) | (refine Bel.step ?_ (by assumption)))))))
                      clear HPC i8 i9 i10 i11 i12
                      have hE1 : Blk (wr.drewN nq) w3.heap.size 4 (bools s4) := hD1
                      have hE2 : Blk (wr.drewN nq) (w3.heap.size + 1) 4 (bools (lastK k ((k + 1) / 2))) := hD2
                      have hE3 : Below w3.heap.size w3 (wr.drewN nq) := (by repeat (first | exact Below.refl _ _ | assumption | apply Below.drew | apply below_drewN | apply Bel.alloc | (refine Bel.setCell_ ?_ ?_; rotate_left; omega) | (refine Bel.step ?_ (by assumption))))
                      have hE4 : (wr.drewN nq).cell? ⟨ab, ao + i, none⟩ = some (.int .i64 p) := hcx
                      generalize wr.drewN nq = V at hE1 hE2 hE3 hE4 ⊢
                      have hE5 : Blk (V.setCell ⟨w3.heap.size, p, none⟩ (.bool true)) w3.heap.size 4 (bools (s4.set p true)) := hE1.setB rfl
                      have hE6 : Below w3.heap.size w3 (V.setCell ⟨w3.heap.size, p, none⟩ (.bool true)) := (by repeat (first | exact Below.refl _ _ | assumption | apply Below.drew | apply below_drewN | apply Bel.alloc | (refine Bel.setCell_ ?_ ?_; rotate_left; omega) | (refine Bel.step ?_ (by assumption))))
                      obtain ⟨_, _, y2, eA, hy2, hcy2⟩ := (hbb3.below hE6).at_ hie
                      cases eA
                      have hy3 := (downI_inv (by rw [List.getElem?_drop] at hy2; exact hy2)).2
                      rw [show (k : Int) - 1 - ((k - e + i : Nat) : Int) = (q : Int) by have := HQ.out; omega] at hy3
                      subst hy3
                      have d1 := hE1.cellB HV1.out
                      have d2 := hE1.frozen p
                      have d3 := hE5.cellB HV2.out
                      have d4 := hE5.frozen q
                      clear hy2 hcx hcy hcz hcz2
                      go_wp2
                      go_roundw
                      case rel => exact ⟨i + 1, by omega, by go_num, ⟨_, hst, hE5.setB rfl⟩, (by repeat (first | assumption | apply Blk.drewN | apply Blk.drew | apply Blk.alloc | (refine Blk.far_ ?_ ?_ _; rotate_left; omega))), (by repeat (first | exact Below.refl _ _ | assumption | apply Below.drew | apply below_drewN | apply Bel.alloc | (refine Bel.setCell_ ?_ ?_; rotate_left; omega) | (refine Bel.step ?_ (by assumption))))⟩
                      case measure => simp [intOf]; omega
                    · obtain rfl : i = e := by omega
                      have hf1 : fairB s4 = true := fair_sideK (N := k) (by omega) (by rw [← HE.out]; exact hs4)
                      have hf2 : fairB (lastK k ((k + 1) / 2)) = true := fair_lastK (N := k) (by omega)
                      have hF1 := fair_any _ k k s4 wr (hD1.rdB hs4.1) (by omega)
                      rw [hf1] at hF1
                      have hF2 := fair_any _ k k _ wr (hD2.rdB (lastK_len _ _)) (by omega)
                      rw [hf2] at hF2
                      have HF1 := Lib.hid hF1; clear hF1
                      have HF2 := Lib.hid hF2; clear hF2
                      clear hf1 hf2
                      go_wp2_with fail
                      with_reducible refine (HF1.out).mono ?_
                      rintro e w' ⟨rfl, rfl⟩
                      go_wp2_with fail
                      with_reducible refine (HF2.out).mono ?_
                      rintro e w' ⟨rfl, rfl⟩
                      go_wp2_with fail
                      go_ret
                      exact ⟨rfl, Bel.step hb03 hbl4⟩

theorem lineShares_walkI (a : Int) (A : Option Addr) (m c : Nat) (more : List Bool) (w : World) (h0 : 0 ≤ a) (h1 : a ≤ 255) (h : RdB w A m more) (hm : m ≤ 4000000000000000000) :
    Calls Try.prog 4 #[.int .u8 a, .slice A m c] w fun e w' => e = .returned (.bool true) ∧ Below w.heap.size w w' := by
  obtain ⟨N, rfl⟩ : ∃ N : Nat, a = N := ⟨a.toNat, by omega⟩
  exact lineShares_walk N A m c more w (by omega) h hm
end Go.Proofs.Ytjphjbchhhembaa
