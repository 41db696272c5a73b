/- flow.check, of what is right. -/
import Derived.Test.YtjphjbchhhembaaDoorFlM
namespace Go.Proofs.YtjphjbchhhembaaDoor
open Go.RowKit

attribute [local go_sem ↓] Go.wp_at_zero Go.wp_at_succ

theorem vertex_ok (v n g : Nat) (w : World) (hv : v < n) (hg : w.cell? ⟨g, 0, none⟩ = some (.int .i64 n)) :
    Calls Tryd.prog 121 #[.int .i64 v, .pointer (some ⟨g, 0, none⟩)] w fun e w' => e = .returned (.bool true) ∧ Below w.heap.size w w' := by
  have i1 : (0 : Int) ≤ (v : Int) := by omega
  have i2 : (v : Int) < (n : Int) := by omega
  go_enter Tryd.func121, Tryd.ntmps121
  go_wp2_with fail
  go_ret
  exact ⟨rfl, (by repeat (first | exact Below.refl _ _ | assumption | apply Below.drew | apply below_drewN | apply Bel.alloc | (refine Bel.setCell_ ?_ ?_; rotate_left; omega) | (refine Bel.step ?_ (by assumption))))⟩

set_option maxHeartbeats 4000000 in
theorem check_ok (A AS AD : Option Addr) (n m c ks cs kd cd : Nat) (E : List Edg) (s t : List Nat) (w : World) (h : RdP w A m E) (hE : Ends n E) (hs : RdI w AS ks (nats s)) (ht : RdI w AD kd (nats t)) (hsn : ∀ v ∈ s, v < n) (htn : ∀ v ∈ t, v < n) (hd : ∀ v ∈ t, v ∉ s) (hn : n ≤ 4096) (hm : m ≤ 16384) (hks : ks ≤ 1000000) (hkd : kd ≤ 1000000) :
    Calls Tryd.prog 100 #[.int .i64 n, .slice A m c, .slice AS ks cs, .slice AD kd cd] w fun e w' => e = .returned .nilIface ∧ Below w.heap.size w w' := by
  have HE := Lib.hid hE
  have HSN := Lib.hid hsn
  have HTN := Lib.hid htn
  have HD := Lib.hid hd
  have HV := Lib.hid (show ∀ (v : Nat) (V : World), v < n → V.cell? ⟨w.heap.size, 0, none⟩ = some (.int .i64 n) → Calls Tryd.prog 121 #[.int .i64 v, .pointer (some ⟨w.heap.size, 0, none⟩)] V fun e w' => e = .returned (.bool true) ∧ Below V.heap.size V w' from fun v V h1 h2 => vertex_ok v n _ V h1 h2)
  have hmk := run_makeB n (by omega)
  have j0 : decide ((n : Int) < 0) = false := decide_eq_false (by omega)
  have j1 : decide ((n : Int) > 4096) = false := decide_eq_false (by omega)
  have j2 : decide ((m : Int) > 16384) = false := decide_eq_false (by omega)
  clear hE hsn htn hd
  go_enter Tryd.func100, Tryd.ntmps100
  go_wp2_with fail
  (refine wp_named ?_; intro w1 hw1)
  have hb1 : Below w.heap.size w w1 := by rw [hw1]; exact (by repeat (first | exact Below.refl _ _ | assumption | apply Below.drew | apply below_drewN | apply Bel.alloc | (refine Bel.setCell_ ?_ ?_; rotate_left; omega) | (refine Bel.step ?_ (by assumption))))
  have hB1 : Blk w1 w.heap.size 3 #[.int .i64 n] := by rw [hw1]; exact Blk.new _ _ _
  clear hw1
  go_loopw [34] (fun i W => Below w.heap.size w W ∧ Blk W w.heap.size 3 #[.int .i64 n] ∧ ∃ k : Nat, k ≤ m ∧ i = .int .i64 k) (fun i _ => m - (intOf i).toNat)
  case atStart => exact ⟨hb1, hB1, 0, Nat.zero_le _, rfl⟩
  case round =>
    clear hb1 hB1
    obtain ⟨hbl, hB, k, hk, rfl⟩ := hrel
    by_cases hlt : k < m
    · obtain ⟨b, o, x, y, rfl, hx, cx, cy⟩ := h.at_ hlt
      have he := HE.out _ (List.mem_of_getElem? hx)
      obtain ⟨p, rfl⟩ : ∃ p : Nat, x = p := ⟨x.toNat, by simp only at he; omega⟩
      obtain ⟨q, rfl⟩ : ∃ q : Nat, y = q := ⟨y.toNat, by simp only at he; omega⟩
      have hp : p < n := by simp only at he; omega
      have hq : q < n := by simp only at he; omega
      have j1 := Below.cellOf hbl (Nat.le_refl _) cx
      have j2 := Below.cellOf hbl (Nat.le_refl _) cy
      have i1 : (0 : Int) ≤ (k : Int) := by omega
      have i2 : (k : Int) < (m : Int) := by omega
      clear hx he cx cy
      obtain ⟨W2, hW2⟩ : ∃ W2, W2 = wr.alloc (.cells #[.int .i64 p, .int .i64 q] 62) := ⟨_, rfl⟩
      have hbox : Blk W2 wr.heap.size 62 #[.int .i64 p, .int .i64 q] := by rw [hW2]; exact Blk.new _ _ _
      have hB2 : Blk W2 w.heap.size 3 #[.int .i64 n] := by rw [hW2]; exact hB.alloc _
      have hbl2 : Below w.heap.size w W2 := by rw [hW2]; exact (by repeat (first | exact Below.refl _ _ | assumption | apply Below.drew | apply below_drewN | apply Bel.alloc | (refine Bel.setCell_ ?_ ?_; rotate_left; omega) | (refine Bel.step ?_ (by assumption))))
      have HVP := Lib.hid (HV.out p W2 hp (by rw [hB2.cell]; rfl))
      have v1 := hbox.two.1
      have hlt0 := hbox.lt
      go_wp2_with fail
      rw [← hW2]
      with_reducible refine HVP.out.mono ?_
      rintro e w3 ⟨rfl, hb3⟩
      have v2 := (hbox.below hb3 hbox.lt).two.2.1
      have hB3 := hB2.below hb3 hB2.lt
      have hbl3 : Below w.heap.size w w3 := Bel.step hbl2 hb3
      have HVQ := Lib.hid (HV.out q w3 hq (by rw [hB3.cell]; rfl))
      clear HVP v1 hbox hB2 hbl2 hB hbl j1 j2 hb3 hW2
      go_wp2_with fail
      with_reducible refine HVQ.out.mono ?_
      rintro e w4 ⟨rfl, hb4⟩
      have hB4 := hB3.below hb4 hB3.lt
      have hbl4 : Below w.heap.size w w4 := Bel.step hbl3 hb4
      clear HVQ v2 hB3 hbl3 hb4
      go_wp2_with fail
      go_roundw
      case rel => exact ⟨hbl4, hB4, k + 1, by omega, by go_num⟩
      case measure => simp [intOf]; omega
    · obtain ⟨w5, hw5⟩ : ∃ w5, w5 = wr := ⟨_, rfl⟩
      subst hw5
      obtain rfl : m = k := by omega
      have v0 : w5.cell? ⟨w.heap.size, 0, none⟩ = some (.int .i64 n) := by rw [hB.cell]; rfl
      clear HE h
      go_wp2_with fail
      (refine wp_named ?_; intro w6 hw6)
      have hB6 : Blk w6 w.heap.size 3 #[.int .i64 n] := by rw [hw6]; exact hB.alloc _
      have hF6 : Blk w6 w5.heap.size 4 (bools (mkB n (s.take 0))) := by rw [hw6, mkB_nil]; exact Blk.new _ _ _
      have hb6 : Below w.heap.size w w6 := by rw [hw6]; exact (by repeat (first | exact Below.refl _ _ | assumption | apply Below.drew | apply below_drewN | apply Bel.alloc | (refine Bel.setCell_ ?_ ?_; rotate_left; omega) | (refine Bel.step ?_ (by assumption))))
      have hne : w.heap.size < w5.heap.size := hB.lt
      have hsz5 : w.heap.size ≤ w5.heap.size := hbl.size
      clear hw6 hB hbl v0
      go_loopw [58] (fun i W => Below w.heap.size w W ∧ Blk W w.heap.size 3 #[.int .i64 n] ∧ ∃ k : Nat, k ≤ ks ∧ i = .int .i64 k ∧ Blk W w5.heap.size 4 (bools (mkB n (s.take k)))) (fun i _ => ks - (intOf i).toNat)
      case atStart => exact ⟨hb6, hB6, 0, Nat.zero_le _, rfl, hF6⟩
      case round =>
        clear hb6 hB6 hF6
        obtain ⟨hbl, hB, k, hk, rfl, hF⟩ := hrel
        by_cases hlt : k < ks
        · obtain ⟨b, o, x, rfl, hx, cx⟩ := hs.at_ hlt
          obtain ⟨p, hp, rfl⟩ := nats_inv hx
          have hpn := HSN.out p (List.mem_of_getElem? hp)
          have j1 := Below.cellOf hbl (Nat.le_refl _) cx
          have i1 : (0 : Int) ≤ (k : Int) := by omega
          have i2 : (k : Int) < (ks : Int) := by omega
          have i3 : (0 : Int) ≤ (p : Int) := by omega
          have i4 : (p : Int) < (n : Int) := by omega
          have HVP := Lib.hid (HV.out p wr hpn (by rw [hB.cell]; rfl))
          have HN := Lib.hid (mkB_next (n := n) hp)
          clear hx hp cx
          go_wp2_with fail
          with_reducible refine HVP.out.mono ?_
          rintro e w3 ⟨rfl, hb3⟩
          have hB3 := hB.below hb3 hB.lt
          have hF3 := hF.below hb3 hF.lt
          have hbl3 : Below w.heap.size w w3 := Bel.step hbl hb3
          obtain ⟨z, hz⟩ : ∃ z, (mkB n (s.take k))[p]? = some z := ⟨_, List.getElem?_eq_getElem (by rw [mkB_len]; exact hpn)⟩
          have c1 := hF3.cellB hz
          have c1f := hF3.frozen p
          have HF4 := Lib.hid (hF3.setB (x := true) HN.out)
          have HB4 := Lib.hid (hB3.far_ (b := w5.heap.size) (o := p) (Nat.ne_of_lt hne) (.bool true))
          have hbl4 : Below w.heap.size w (w3.setCell ⟨w5.heap.size, p, none⟩ (.bool true)) := hbl3.setCell hsz5 _
          clear HVP hB hF hbl hb3 j1 hB3 hF3 hbl3
          go_wp2_with fail
          go_roundw
          case rel => exact ⟨hbl4, HB4.out, k + 1, by omega, by go_num, HF4.out⟩
          case measure => simp [intOf]; omega
        · obtain ⟨w7, hw7⟩ : ∃ w7, w7 = wr := ⟨_, rfl⟩
          subst hw7
          obtain rfl : ks = k := by omega
          clear HSN hs
          go_wp2_with fail
          go_loopw [15, 75] (fun bo i W => Below w.heap.size w W ∧ Blk W w.heap.size 3 #[.int .i64 n] ∧ ∃ k : Nat, k ≤ kd ∧ bo = .bool false ∧ i = .int .i64 k ∧ Blk W w5.heap.size 4 (bools (mkB n (s.take ks)))) (fun _ i _ => kd - (intOf i).toNat)
          case atStart => exact ⟨hbl, hB, 0, Nat.zero_le _, rfl, rfl, hF⟩
          case round =>
            clear hbl hB hF
            obtain ⟨hbl, hB, k, hk, rfl, rfl, hF⟩ := hrel
            by_cases hlt : k < kd
            · obtain ⟨b, o, x, rfl, hx, cx⟩ := ht.at_ hlt
              obtain ⟨p, hp, rfl⟩ := nats_inv hx
              have hpn := HTN.out p (List.mem_of_getElem? hp)
              have hps := HD.out p (List.mem_of_getElem? hp)
              have j1 := Below.cellOf hbl (Nat.le_refl _) cx
              have i1 : (0 : Int) ≤ (k : Int) := by omega
              have i2 : (k : Int) < (kd : Int) := by omega
              have i3 : (0 : Int) ≤ (p : Int) := by omega
              have i4 : (p : Int) < (n : Int) := by omega
              have HVP := Lib.hid (HV.out p wr hpn (by rw [hB.cell]; rfl))
              have hz : (mkB n (s.take ks))[p]? = some false := by
                have hl : p < (mkB n (s.take ks)).length := by rw [mkB_len]; exact hpn
                rw [List.getElem?_eq_getElem hl]
                have := (not_congr (mkB_at n (s.take ks) p)).2 (fun g => hps (List.mem_of_mem_take g.1))
                rw [List.getD_eq_getElem?_getD, List.getElem?_eq_getElem hl] at this
                simpa using this
              clear hx hp cx hps
              go_wp2_with fail
              with_reducible refine HVP.out.mono ?_
              rintro e w3 ⟨rfl, hb3⟩
              have hB3 := hB.below hb3 hB.lt
              have hF3 := hF.below hb3 hF.lt
              have hbl3 : Below w.heap.size w w3 := Bel.step hbl hb3
              have c1 := hF3.cellB hz
              clear HVP hB hF hbl hb3 j1 hz
              go_wp2_with fail
              go_roundw
              case rel => exact ⟨hbl3, hB3, k + 1, by omega, rfl, by go_num, hF3⟩
              case measure => simp [intOf]; omega
            · obtain rfl : kd = k := by omega
              go_wp2_with fail
              go_ret
              exact ⟨rfl, hbl⟩
end Go.Proofs.YtjphjbchhhembaaDoor
