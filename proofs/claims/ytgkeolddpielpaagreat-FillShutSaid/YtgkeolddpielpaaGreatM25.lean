/- Parts of the proof: Pd, Pe, FwP. -/
import Derived.Test.YtgkeolddpielpaaGreatM24
/- The document's check of cells: most, checkLevel. -/
namespace Go.Proofs.YtgkeolddpielpaaGreat
open Go.RowKit

attribute [local go_sem ↓] Go.wp_at_zero Go.wp_at_succ

set_option maxHeartbeats 400000 in
theorem most_any (A : Option Addr) (n c : Nat) (l : List Int) (w : World) (h : RdI w A n l) (hn : n ≤ 1000000) (hb : ∀ x ∈ l, 0 ≤ x ∧ x ≤ 1000000) :
    Calls Tryz.prog 131 #[.slice A n c] w fun e w' => e = .returned (.int .i64 (mostN l)) ∧ w = w' := by
  have HR := Lib.hid h
  have HL := Lib.hid h.1
  have HB := Lib.hid hb
  clear h hb
  go_enter Tryz.func131, Tryz.ntmps131
  go_wp2_with fail
  go_loop [3, 4] (fun m q => ∃ k : Nat, k ≤ n ∧ q = .int .i64 k ∧ m = .int .i64 (mostN (l.take k))) (fun _ q => n - (intOf q).toNat)
  case atStart => exact ⟨0, Nat.zero_le _, rfl, rfl⟩
  case round =>
    obtain ⟨k, hk, rfl, rfl⟩ := hrel
    by_cases hlt : k < n
    · obtain ⟨b, o, x, rfl, hx, hc⟩ := HR.out.at_ hlt
      have hxb := HB.out x (List.mem_of_getElem? hx)
      have HNX := Lib.hid (mostN_next hx)
      have i1 : (0 : Int) ≤ (k : Int) := by omega
      have i2 : (k : Int) < (n : Int) := by omega
      clear hx
      generalize mostN (l.take k) = m at *
      have HM := Lib.hid (show (if m < x + 1 then x + 1 else m) = max m (x + 1) by split <;> omega)
      go_wp2_with fail
      go_round
      case rel => exact ⟨k + 1, by omega, by go_num, by rw [HNX.out, ← HM.out]⟩
      case measure => simp [intOf]; omega
    · obtain rfl : n = k := by omega
      have HE := Lib.hid (show mostN (l.take n) = mostN l by rw [List.take_of_length_le (by rw [HL.out]; exact Nat.le_refl _)])
      go_wp2
      go_ret
      exact ⟨ret_int HE.out, rfl⟩
/-- The level ahead. -/
def prevOf (ls : List (List Int)) (i : Nat) : Option (List Int) := if i = 0 then none else ls[i - 1]?
theorem prevOf_zero (ls : List (List Int)) : prevOf ls 0 = none := rfl
theorem prevOf_succ (ls : List (List Int)) (j : Nat) : prevOf ls (j + 1) = ls[j]? := rfl
theorem lvlCode_len {n : Nat} {p : Option (List Int)} {l : List Int} (h : l.length ≠ n) : lvlCode n p l = 1 := by unfold lvlCode; rw [if_pos h]
theorem lvlCode_no {n : Nat} {p : Option (List Int)} {l : List Int} (h : l.length = n) (hn : ¬ (LvlOk n l ∧ ∀ q, p = some q → NestOk q l)) : lvlCode n p l = 10 := by
  unfold lvlCode; rw [if_neg (fun e => e h), if_neg hn]
theorem lvlCode_ok {n : Nat} {p : Option (List Int)} {l : List Int} (h : LvlOk n l) (hn : ∀ q, p = some q → NestOk q l) : lvlCode n p l = 0 := by
  unfold lvlCode; rw [if_neg (fun e => e h.len), if_pos ⟨h, hn⟩]


set_option maxHeartbeats 2000000 in
set_option maxRecDepth 20000 in
theorem checkLevel_any (Q : Option Addr) (n L cq i : Nat) (ls : List (List Int)) (l : List Int) (w : World) (h : RdT w Q L ls) (hl : ls[i]? = some l) (hn : n ≤ 4096) (hL : L ≤ 1000000) (hprev : ∀ j p, i = j + 1 → ls[j]? = some p → p.length = n) :
    Calls Tryz.prog 92 #[.int .i64 n, .agg #[.slice Q L cq], .int .i64 ((i : Int) + 1), .slice none 0 0] w fun e w' => e = .returned (.int .i64 (lvlCode n (prevOf ls i) l)) ∧ Below w.heap.size w w' := by
  have hi : i < L := by rw [← h.1]; exact (List.getElem?_eq_some_iff.1 hl).1
  have HT := Lib.hid h
  obtain ⟨b, o, A, m, c, l', rfl, hl', hc, hr, q1, q2⟩ := h.at_ hi
  rw [hl] at hl'
  cases hl'
  have HR := Lib.hid hr
  have HLEN := Lib.hid hr.1
  have HLL := Lib.hid hl
  have HPV := Lib.hid hprev
  have hca := fun ob => Below.cellOf (show Below w.heap.size w (w.alloc ob) from bELt) (Nat.le_refl _) hc
  have i1 : (0 : Int) ≤ (i : Int) := by omega
  have i2 : (i : Int) < (L : Int) := by omega
  have i5 : (i : Int) + 1 - 1 = (i : Int) := by omega
  have hmk := run_makeI n (by omega)
  clear h hr hl hprev q1
  by_cases hmn : m = n
  rotate_left
  · have e1 : ((m : Int) != (n : Int)) = true := by simp; omega
    have e2 : ((m : Int) == (n : Int)) = false := by simp; omega
    have HC := Lib.hid (lvlCode_len (n := n) (p := prevOf ls i) (l := l) (by rw [HLEN.out]; exact hmn))
    go_enter Tryz.func92, Tryz.ntmps92
    go_wp2_with fail
    go_ret
    exact ⟨ret_int HC.out.symm, bELt⟩
  subst hmn
  go_enter Tryz.func92, Tryz.ntmps92
  go_wp2_with fail
  (refine wp_named ?_; intro w1 hw1)
  have hb1 : Below w.heap.size w w1 := by rw [hw1]; exact bELt
  have hQ : Blk w1 w.heap.size 29 #[.slice (some ⟨b, o, none⟩) L cq] := by rw [hw1]; exact bLNt
  have HR1 := Lib.hid (HR.out.below hb1)
  clear hw1 hca
  go_loop [10] (fun q => ∃ k : Nat, k ≤ m ∧ q = .int .i64 k ∧ ∀ j x, j < k → l[j]? = some x → 0 ≤ x ∧ x < m) (fun q => m - (intOf q).toNat)
  case atStart => exact ⟨0, Nat.zero_le _, rfl, fun _ _ h => absurd h (Nat.not_lt_zero _)⟩
  case round =>
    obtain ⟨k, hk, rfl, hall⟩ := hrel
    have HA := Lib.hid hall
    clear hall
    by_cases hlt : k < m
    · obtain ⟨b', o', x, rfl, hx, hcx⟩ := HR1.out.at_ hlt
      have j1 : (0 : Int) ≤ (k : Int) := by omega
      have j2 : (k : Int) < (m : Int) := by omega
      have HX := Lib.hid hx
      clear hx
      by_cases hok : 0 ≤ x ∧ x < m
      · have g0 := hok.1
        have g1 := hok.2
        have HOK := Lib.hid hok
        clear hok
        go_wp2_with fail
        go_round
        case rel => exact ⟨k + 1, by omega, by go_num, fun j y hj hy => by
          by_cases e : j = k
          · subst e
            rw [HX.out] at hy
            cases hy
            exact HOK.out
          · exact HA.out j y (by omega) hy⟩
        case measure => simp [intOf]; omega
      · have HC := Lib.hid (lvlCode_no (n := m) (p := prevOf ls i) (l := l) HLEN.out (fun hh => hok ⟨hh.1.lo x (List.mem_of_getElem? HX.out), hh.1.hi x (List.mem_of_getElem? HX.out)⟩))
        by_cases hx0 : x < 0
        · clear hok
          go_wp2_with fail
          go_ret
          exact ⟨ret_int HC.out.symm, hb1⟩
        · have hx1 : ¬ x < m := by omega
          have hx2 : x ≥ m := by omega
          clear hok
          go_wp2_with fail
          go_ret
          exact ⟨ret_int HC.out.symm, hb1⟩
    · obtain rfl : m = k := by omega
      have HN := Lib.hid (show ∀ x ∈ l, 0 ≤ x ∧ x < m from fun x hx => by
        obtain ⟨j, hj⟩ := List.getElem?_of_mem hx
        exact HA.out j x (by rw [← HLEN.out]; exact (List.getElem?_eq_some_iff.1 hj).1) hj)
      clear HA
      go_wp2_with fail
      (refine wp_named ?_; intro w2 hw2)
      have hb2 : Below w1.heap.size w1 w2 := by rw [hw2]; exact bELt
      have hQ2 := hQ.below hb2 hQ.lt
      have hB2 : Blk w2 w1.heap.size 3 (ints (cntI (l.take 0) m)) := by rw [hw2, List.take_zero, cntI_zero]; exact Blk.new _ _ _
      have hbw2 := Bel.step hb1 hb2
      have hz12 := hb1.size
      clear hw2 hmk
      go_loopw [12] (fun q W => Below w1.heap.size w1 W ∧ ∃ k : Nat, k ≤ m ∧ q = .int .i64 k ∧ Blk W w1.heap.size 3 (ints (cntI (l.take k) m))) (fun q _ => m - (intOf q).toNat)
      case atStart => exact ⟨hb2, 0, Nat.zero_le _, rfl, hB2⟩
      case round =>
        clear hb2 hB2 hQ2 hbw2
        obtain ⟨hbl, k, hk, rfl, hB⟩ := hrel
        by_cases hlt2 : k < m
        · obtain ⟨b', o', x, rfl, hx, hcx⟩ := HR1.out.at_ hlt2
          have hxx := HN.out x (List.mem_of_getElem? hx)
          obtain ⟨v, rfl⟩ : ∃ v : Nat, x = v := ⟨x.toNat, by omega⟩
          have hv : v < m := by omega
          have hcx2 := Below.cellOf hbl (Nat.le_refl _) hcx
          have c1 := hB.cellI (cntI_get (l := l.take k) hv)
          have c1f := hB.frozen v
          have d1 := cntI_bd l k (v : Int)
          have HBN := Lib.hid (hB.setI (cntI_next hx hv))
          have j1 : (0 : Int) ≤ (k : Int) := by omega
          have j2 : (k : Int) < (m : Int) := by omega
          have j3 : (0 : Int) ≤ (v : Int) := by omega
          have j4 : (v : Int) < (m : Int) := by omega
          clear hx hcx hB hxx
          generalize (l.take k).countP (fun x => x == (v : Int)) = p at *
          have hbn : Below w1.heap.size w1 (wr.setCell ⟨w1.heap.size, v, none⟩ (.int .i64 ((p : Int) + 1))) := hbl.setCell (Nat.le_refl _) _
          go_wp2_with fail
          go_roundw
          case rel => exact ⟨hbn, k + 1, by omega, by go_num, HBN.out⟩
          case measure => simp [intOf]; omega
        · obtain rfl : m = k := by omega
          rw [List.take_of_length_le (by rw [HLEN.out]; exact Nat.le_refl _)] at hB
          have m0 := mostN_nonneg l
          have m1 := mostN_le (l := l) (n := (m : Int)) (fun x hx => (HN.out x hx).2) (by omega)
          obtain ⟨w3, hw3⟩ : ∃ w3, w3 = wr := ⟨_, rfl⟩
          subst hw3
          have hbw3 := Bel.step hb1 hbl
          have HMO := Lib.hid (most_any A m c l w3 (HR.out.below hbw3) (by omega) (fun x hx => by have := HN.out x hx; omega))
          obtain ⟨M, hM⟩ : ∃ M : Nat, mostN l = M := ⟨(mostN l).toNat, by omega⟩
          rw [hM] at HMO m0 m1
          have HMM := Lib.hid hM
          clear hM
          go_wp2_with fail
          go_loop [13] (fun q => ∃ k : Nat, k ≤ M ∧ q = .int .i64 k ∧ ∀ c : Nat, c < k → (c : Int) ∈ l) (fun q => M - (intOf q).toNat)
          case atStart => exact ⟨0, Nat.zero_le _, rfl, fun _ h => absurd h (Nat.not_lt_zero _)⟩
          case round =>
            obtain ⟨k, hk, rfl, hall⟩ := hrel
            have HA := Lib.hid hall
            clear hall
            go_wp2_with fail
            with_reducible refine HMO.out.mono ?_
            rintro e w' ⟨rfl, rfl⟩
            by_cases hlt3 : k < M
            · have hkm : k < m := by omega
              have c1 := hB.cellI (cntI_get (l := l) hkm)
              have j1 : (0 : Int) ≤ (k : Int) := by omega
              have j2 : (k : Int) < (m : Int) := by omega
              have HCT := Lib.hid (show 0 < l.countP (fun x => x == (k : Int)) ↔ (k : Int) ∈ l from by rw [List.countP_pos_iff]; simp)
              generalize l.countP (fun x => x == (k : Int)) = p at *
              by_cases hp : p = 0
              · subst hp
                have HC := Lib.hid (lvlCode_no (n := m) (p := prevOf ls i) (l := l) HLEN.out (fun hh => by
                  have := HCT.out.2 (hh.1.all k (by rw [HMM.out]; omega))
                  omega))
                go_wp2_with fail
                go_ret
                exact ⟨ret_int HC.out.symm, hbw3⟩
              · have e1 : ((p : Int) == 0) = false := by simp; exact hp
                have HP := Lib.hid (HCT.out.1 (by omega))
                clear hp
                go_wp2_with fail
                go_round
                case rel => exact ⟨k + 1, by omega, by go_num, fun c hc => by
                  by_cases e : c = k
                  · subst e; exact HP.out
                  · exact HA.out c (by omega)⟩
                case measure => simp [intOf]; omega
            · obtain rfl : M = k := by omega
              have HLV := Lib.hid (show LvlOk m l from ⟨HLEN.out, fun x hx => (HN.out x hx).1, fun x hx => (HN.out x hx).2, fun c hc => HA.out c (by rw [HMM.out] at hc; omega)⟩)
              have hQ3 := hQ.below hbl hQ.lt
              clear HA HN hB
              have q0 := hQ3.cell 0
              simp only [List.getElem?_toArray, List.getElem?_cons_zero] at q0
              have HRw := Lib.hid (HR.out.below hbw3)
              by_cases hi0 : i = 0
              · have HC := Lib.hid (lvlCode_ok (n := m) (p := prevOf ls i) HLV.out (fun q hq => by rw [hi0, prevOf_zero] at hq; cases hq))
                have e1 : ¬ ((i : Int) + 1 > 1) := by omega
                have e2 : ¬ (0 < i) := by omega
                have e3 : ¬ ((i : Int) > 0) := by omega
                clear hi0
                have hb99 : Below w3.heap.size w3 w3 := Below.refl _ _
                by_cases hm0 : 0 < m
                · skip
                  go_wp2_with fail
                  go_loop [14] (fun q => q = .int .i64 0) (fun _ => 0)
                  case atStart => rfl
                  case round =>
                    subst hrel
                    go_wp2_with fail
                    go_loop [16] (fun q => q = .int .i64 0) (fun _ => 0)
                    case atStart => rfl
                    case round =>
                      subst hrel
                      go_wp2_with fail
                      all_goals
                        go_ret
                        exact ⟨ret_int HC.out.symm, Bel.step hbw3 hb99⟩
                · skip
                  go_wp2_with fail
                  go_loop [14] (fun q => q = .int .i64 0) (fun _ => 0)
                  case atStart => rfl
                  case round =>
                    subst hrel
                    go_wp2_with fail
                    go_loop [16] (fun q => q = .int .i64 0) (fun _ => 0)
                    case atStart => rfl
                    case round =>
                      subst hrel
                      go_wp2_with fail
                      all_goals
                        go_ret
                        exact ⟨ret_int HC.out.symm, Bel.step hbw3 hb99⟩
              · obtain ⟨j, rfl⟩ : ∃ j, i = j + 1 := ⟨i - 1, by omega⟩
                obtain ⟨bp, op, A', m', c', p, e, hp, hcp, hrp, q1', q2'⟩ := HT.out.at_ (show j < L by omega)
                cases e
                obtain rfl : m = m' := by rw [← hrp.1]; exact (HPV.out j p rfl hp).symm
                have HPP := Lib.hid hp
                have HRp := Lib.hid (hrp.below hbw3)
                have HCP := Lib.hid (Below.cellOf hbw3 (Nat.le_refl _) hcp)
                have i3 : ((j : Int) + 1 + 1) - 2 = (j : Int) := by omega
                have i4 : (0 : Int) ≤ (j : Int) := by omega
                have i6 : (j : Int) < (L : Int) := by omega
                have i7 : (j : Int) + 1 + 1 > 1 := by omega
                have HLp := Lib.hid hrp.1
                clear hrp hp hcp q1' hi0
                go_wp2_with fail
                go_loopw [14] (fun q W => Below w3.heap.size w3 W ∧ ∃ k : Nat, k ≤ m ∧ q = .int .i64 k ∧ ∀ (a v : Nat) (x y u z : Int), a < k → p[a]? = some x → p[v]? = some y → l[a]? = some u → l[v]? = some z → x ≤ y → u ≤ z) (fun q _ => m - (intOf q).toNat)
                case atStart => exact ⟨Below.refl _ _, 0, Nat.zero_le _, rfl, fun _ _ _ _ _ _ h => absurd h (Nat.not_lt_zero _)⟩
                case round =>
                  obtain ⟨hbr, k, hk, rfl, hall⟩ := hrel
                  have HA := Lib.hid hall
                  clear hall
                  by_cases hlt4 : k < m
                  · obtain ⟨pb, po, x, rfl, hx, hcx⟩ := HRp.out.at_ hlt4
                    obtain ⟨lb, lo, u, rfl, hu, hcu⟩ := HRw.out.at_ hlt4
                    have k1 : (0 : Int) ≤ (k : Int) := by omega
                    have k2 : (k : Int) < (m : Int) := by omega
                    have HX := Lib.hid hx
                    have HU := Lib.hid hu
                    clear hx hu
                    obtain ⟨wo, hwo⟩ : ∃ wo, wo = wr := ⟨_, rfl⟩
                    subst hwo
                    go_wp2_with fail
                    go_loopw [15] (fun q W => Below w3.heap.size w3 W ∧ ∃ v : Nat, v ≤ m ∧ q = .int .i64 v ∧ ∀ (v' : Nat) (y z : Int), v' < v → p[v']? = some y → l[v']? = some z → x ≤ y → u ≤ z) (fun q _ => m - (intOf q).toNat)
                    case atStart => exact ⟨hbr, 0, Nat.zero_le _, rfl, fun _ _ _ h => absurd h (Nat.not_lt_zero _)⟩
                    case round =>
                      clear hbr
                      obtain ⟨hbr, v, hv, rfl, hall⟩ := hrel
                      have HV := Lib.hid hall
                      clear hall
                      by_cases hlt5 : v < m
                      · obtain ⟨pb', po', y, e, hy, hcy⟩ := HRp.out.at_ hlt5
                        cases e
                        obtain ⟨lb', lo', z, e, hz, hcz⟩ := HRw.out.at_ hlt5
                        cases e
                        have HY := Lib.hid hy
                        have HZ := Lib.hid hz
                        have q0' := Below.cellOf hbr (Nat.le_refl _) q0
                        have hcp' := Below.cellOf hbr (Nat.le_refl _) HCP.out
                        have hcx' := Below.cellOf hbr (Nat.le_refl _) hcx
                        have hcu' := Below.cellOf hbr (Nat.le_refl _) hcu
                        have hcy' := Below.cellOf hbr (Nat.le_refl _) hcy
                        have hcz' := Below.cellOf hbr (Nat.le_refl _) hcz
                        have k3 : (0 : Int) ≤ (v : Int) := by omega
                        have k4 : (v : Int) < (m : Int) := by omega
                        clear hy hz hcy hcz
                        by_cases hxy : x ≤ y
                        · by_cases huz : u > z
                          · have HC := Lib.hid (lvlCode_no (n := m) (p := prevOf ls (j + 1)) (l := l) HLEN.out (fun hh => by
                              have := hh.2 p (by rw [prevOf_succ]; exact HPP.out) k v x y u z HX.out HY.out HU.out HZ.out hxy
                              omega))
                            have e1 : decide (x ≤ y) = true := by simpa using hxy
                            go_wp2_with fail
                            go_quiet (fail)
                            go_wp2_with fail
                            go_ret
                            exact ⟨ret_int HC.out.symm, Bel.step hbw3 (below_drewN hbr _)⟩
                          · have e1 : decide (x ≤ y) = true := by simpa using hxy
                            have HO := Lib.hid huz
                            go_wp2_with fail
                            go_quiet (fail)
                            go_wp2_with fail
                            go_roundw
                            case rel => exact ⟨below_drewN hbr _, v + 1, by omega, by go_num, fun v' y' z' hv' h1 h2 h3 => by
                              by_cases e : v' = v
                              · subst e
                                rw [HZ.out] at h2
                                cases h2
                                have := HO.out
                                omega
                              · exact HV.out v' y' z' (by omega) h1 h2 h3⟩
                            case measure => simp [intOf]; omega
                        · have e1 : decide (x ≤ y) = false := by simpa using hxy
                          have HO := Lib.hid hxy
                          go_wp2_with fail
                          go_quiet (fail)
                          go_wp2_with fail
                          go_roundw
                          case rel => exact ⟨below_drewN hbr _, v + 1, by omega, by go_num, fun v' y' z' hv' h1 h2 h3 => by
                            by_cases e : v' = v
                            · subst e
                              rw [HY.out] at h1
                              cases h1
                              have := HO.out
                              omega
                            · exact HV.out v' y' z' (by omega) h1 h2 h3⟩
                          case measure => simp [intOf]; omega
                      · obtain rfl : m = v := by omega
                        go_wp2_with fail
                        go_roundw
                        case rel => exact ⟨hbr, k + 1, by omega, by go_num, fun a v x' y u' z ha h1 h2 h3 h4 h5 => by
                          by_cases e : a = k
                          · subst e
                            rw [HX.out] at h1
                            rw [HU.out] at h3
                            cases h1
                            cases h3
                            exact HV.out v y z (by rw [← HLp.out]; exact (List.getElem?_eq_some_iff.1 h2).1) h2 h4 h5
                          · exact HA.out a v x' y u' z (by omega) h1 h2 h3 h4 h5⟩
                        case measure => simp [intOf]; omega
                  · obtain rfl : m = k := by omega
                    have HC := Lib.hid (lvlCode_ok (n := m) (p := prevOf ls (j + 1)) HLV.out (fun q hq => by
                      rw [prevOf_succ, HPP.out] at hq
                      cases hq
                      intro a v x y u z h1 h2 h3 h4 h5
                      exact HA.out a v x y u z (by rw [← HLp.out]; exact (List.getElem?_eq_some_iff.1 h1).1) h1 h2 h3 h4 h5))
                    clear HA
                    go_wp2_with fail
                    have hb99 := hbr
                    go_loop [16] (fun q => q = .int .i64 0) (fun _ => 0)
                    case atStart => rfl
                    case round =>
                      subst hrel
                      go_wp2_with fail
                      all_goals
                        go_ret
                        exact ⟨ret_int HC.out.symm, Bel.step hbw3 hb99⟩
end Go.Proofs.YtgkeolddpielpaaGreat

/- The document's CheckPart, law13.Few, law13.May, law15.May. -/
namespace Go.Proofs.YtgkeolddpielpaaGreat
open Go.RowKit

attribute [local go_sem ↓] Go.wp_at_zero Go.wp_at_succ

theorem lvlCode_inv {n : Nat} {p : Option (List Int)} {l : List Int} (h : lvlCode n p l = 0) : LvlOk n l ∧ ∀ q, p = some q → NestOk q l := by
  unfold lvlCode at h
  split at h
  · cases h
  · split at h
    · assumption
    · cases h
set_option maxHeartbeats 2000000 in
set_option maxRecDepth 20000 in
theorem checkPart_any (Q : Option Addr) (n L cq : Nat) (ls : List (List Int)) (w : World) (h : RdT w Q L ls) :
    Calls Tryz.prog 63 #[.int .i64 n, .agg #[.slice Q L cq], .slice none 0 0] w fun e w' => CkRes0 (PartOk n ls) e ∧ Below w.heap.size w w' := by
  have HT := Lib.hid h
  clear h
  by_cases q0 : (n : Int) > 4096
  · go_enter Tryz.func63, Tryz.ntmps63
    go_wp2_with fail
    (refine calls_named ?_; intro w5 hw5)
    have hB5 : Blk w5 (w.heap.size + 1) 126 #[.slice none 0 0, .int .i64 0] := by rw [hw5]; exact bLNt
    have hb5 : Below w.heap.size w w5 := by rw [hw5]; exact bELt
    clear hw5
    with_reducible refine (refAt0_any _ _ _ _).mono ?_
    rintro e w2 ⟨⟨A4, n4, m4, rfl, hg4⟩, hb⟩
    have hB2 := Blk.below hB5 hb hB5.lt
    obtain ⟨c0, c1, f0, f1⟩ := hB2.two
    have hb2 : Below w.heap.size w w2 := Bel.step hb5 hb
    go_wp2_with fail
    refine bodyPost_ret (v := .agg #[.slice A4 n4 m4, .int .i64 4]) (by simp [results, Tryz.results63, go_sem, c0, c1]) rfl ?_
    first | exact ⟨CkRes0.no (by decide), bELt⟩ | exact ⟨CkRes.no (Wg.mono (B := w5.heap.size) (Wg.setCell (Wg.setCell hg4 hB5.lt _) hB5.lt _) hb5.size) (by decide), bELt⟩
  by_cases q1 : (L : Int) > 6
  · go_enter Tryz.func63, Tryz.ntmps63
    go_wp2_with fail
    (refine calls_named ?_; intro w5 hw5)
    have hB5 : Blk w5 (w.heap.size + 1) 126 #[.slice none 0 0, .int .i64 0] := by rw [hw5]; exact bLNt
    have hb5 : Below w.heap.size w w5 := by rw [hw5]; exact bELt
    clear hw5
    with_reducible refine (refAt0_any _ _ _ _).mono ?_
    rintro e w2 ⟨⟨A4, n4, m4, rfl, hg4⟩, hb⟩
    have hB2 := Blk.below hB5 hb hB5.lt
    obtain ⟨c0, c1, f0, f1⟩ := hB2.two
    have hb2 : Below w.heap.size w w2 := Bel.step hb5 hb
    go_wp2_with fail
    refine bodyPost_ret (v := .agg #[.slice A4 n4 m4, .int .i64 4]) (by simp [results, Tryz.results63, go_sem, c0, c1]) rfl ?_
    first | exact ⟨CkRes0.no (by decide), bELt⟩ | exact ⟨CkRes.no (Wg.mono (B := w5.heap.size) (Wg.setCell (Wg.setCell hg4 hB5.lt _) hB5.lt _) hb5.size) (by decide), bELt⟩
  by_cases q2 : L = 0
  · have j1 : ((L : Int) == 0) = true := by simp; exact q2
    go_enter Tryz.func63, Tryz.ntmps63
    go_wp2_with fail
    (refine calls_named ?_; intro w5 hw5)
    have hB5 : Blk w5 (w.heap.size + 1) 126 #[.slice none 0 0, .int .i64 0] := by rw [hw5]; exact bLNt
    have hb5 : Below w.heap.size w w5 := by rw [hw5]; exact bELt
    clear hw5
    with_reducible refine (refAt0_any _ _ _ _).mono ?_
    rintro e w2 ⟨⟨A4, n4, m4, rfl, hg4⟩, hb⟩
    have hB2 := Blk.below hB5 hb hB5.lt
    obtain ⟨c0, c1, f0, f1⟩ := hB2.two
    have hb2 : Below w.heap.size w w2 := Bel.step hb5 hb
    go_wp2_with fail
    refine bodyPost_ret (v := .agg #[.slice A4 n4 m4, .int .i64 1]) (by simp [results, Tryz.results63, go_sem, c0, c1]) rfl ?_
    first | exact ⟨CkRes0.no (by decide), bELt⟩ | exact ⟨CkRes.no (Wg.mono (B := w5.heap.size) (Wg.setCell (Wg.setCell hg4 hB5.lt _) hB5.lt _) hb5.size) (by decide), bELt⟩
  have j1 : ((L : Int) == 0) = false := by simp; exact q2
  go_enter Tryz.func63, Tryz.ntmps63
  go_wp2_with fail
  (refine wp_named ?_; intro w1 hw1)
  have hb1 : Below w.heap.size w w1 := by rw [hw1]; exact bELt
  have hQ : Blk w1 w.heap.size 29 #[.slice Q L cq] := by rw [hw1]; exact bLNt
  have hB : Blk w1 (w.heap.size + 1) 126 #[.slice none 0 0, .int .i64 0] := by rw [hw1]; exact bLNt
  clear hw1
  go_loopw [7] (fun q W => Below w.heap.size w W ∧ Blk W w.heap.size 29 #[.slice Q L cq] ∧ Blk W (w.heap.size + 1) 126 #[.slice none 0 0, .int .i64 0] ∧ ∃ i : Nat, i ≤ L ∧ q = .int .i64 ((i : Int) + 1) ∧ ∀ (j : Nat) (l : List Int), j < i → ls[j]? = some l → LvlOk n l ∧ ∀ q, prevOf ls j = some q → NestOk q l) (fun q _ => L + 1 - (intOf q).toNat)
  case atStart => exact ⟨hb1, hQ, hB, 0, Nat.zero_le _, rfl, fun _ _ h => absurd h (Nat.not_lt_zero _)⟩
  case round =>
    clear hb1 hQ hB
    obtain ⟨hbl, hQ, hB, i, hi, rfl, hall⟩ := hrel
    have HA := Lib.hid hall
    clear hall
    have y0 := hQ.cell 0
    simp only [List.getElem?_toArray, List.getElem?_cons_zero] at y0
    by_cases hlt : i < L
    · obtain ⟨l, hl⟩ : ∃ l, ls[i]? = some l := ⟨_, List.getElem?_eq_getElem (by rw [HT.out.1]; exact hlt)⟩
      have HCL := Lib.hid (checkLevel_any Q n L cq i ls l wr (HT.out.below hbl) hl (by omega) (by omega) (fun j p e hp => (HA.out j p (by omega) hp).1.len))
      have HLL := Lib.hid hl
      have HI := Lib.hid (@lvlCode_inv n (prevOf ls i) l)
      have i1 : (i : Int) + 1 ≤ (L : Int) := by omega
      clear hl
      generalize lvlCode n (prevOf ls i) l = code at *
      go_wp2_with fail
      with_reducible refine HCL.out.mono ?_
      rintro e w2 ⟨rfl, hb2⟩
      have hQ2 := hQ.below hb2 hQ.lt
      have hB2 := hB.below hb2 hB.lt
      have hbw2 := Bel.step hbl hb2
      clear hQ hB y0 HCL hb2
      by_cases hc : code = 0
      · subst hc
        have HO := Lib.hid (HI.out rfl)
        clear HI
        go_wp2_with fail
        go_roundw
        case rel => exact ⟨hbw2, hQ2, hB2, i + 1, by omega, by go_num, fun j l' hj hl' => by
          by_cases e : j = i
          · subst e
            rw [HLL.out] at hl'
            cases hl'
            exact HO.out
          · exact HA.out j l' (by omega) hl'⟩
        case measure => simp [intOf]; omega
      · have e1 : (code == 0) = false := by simpa using hc
        have e2 : (code != 0) = true := by simpa using hc
        have HC := Lib.hid hc
        clear hc
        go_wp2_with fail
        with_reducible refine (refAt0_any _ _ _ _).mono ?_
        rintro e w3 ⟨⟨A4, n4, m4, rfl, hg4⟩, hb3⟩
        have hB3 := hB2.below hb3 hB2.lt
        obtain ⟨c0, c1, f0, f1⟩ := hB3.two
        have hbw3 := Bel.step hbw2 hb3
        go_wp2_with fail
        refine bodyPost_ret (v := .agg #[.slice A4 n4 m4, .int .i64 code]) (by simp [results, Tryz.results63, go_sem, c0, c1]) rfl ?_
        exact ⟨CkRes0.no HC.out, bELt⟩
    · obtain rfl : L = i := by omega
      obtain ⟨c0, c1, f0, f1⟩ := hB.two
      have zB := hB.lt
      have HP := Lib.hid (show PartOk n ls from ⟨by rw [HT.out.1]; omega, by rw [HT.out.1]; omega, fun l hl => by
        obtain ⟨j, hj⟩ := List.getElem?_of_mem hl
        exact (HA.out j l (by rw [← HT.out.1]; exact (List.getElem?_eq_some_iff.1 hj).1) hj).1, fun j p l hp hl => (HA.out (j + 1) l (by rw [← HT.out.1]; exact (List.getElem?_eq_some_iff.1 hl).1) hl).2 p (by rw [prevOf_succ]; exact hp)⟩)
      clear HA
      go_wp2_with fail
      refine bodyPost_ret (v := .agg #[.slice none 0 0, .int .i64 0]) (by simp [results, Tryz.results63, go_sem, c0, c1]) rfl ?_
      exact ⟨⟨_, _, _, _, rfl, .inl ⟨rfl, HP.out⟩⟩, bELt⟩
structure FewP (ls : List (List Int)) : Prop where
  l : ls.length ≤ 10
  r : ∀ l ∈ ls, l.length ≤ 60
set_option maxHeartbeats 1000000 in
theorem fewP_any (Q : Option Addr) (L cq : Nat) (ls : List (List Int)) (w : World) (h : RdT w Q L ls) (hL : L ≤ 9223372036854775807) :
    Calls Tryz.prog 62 #[.agg #[.slice Q L cq]] w fun e w' => BoolRes (FewP ls) e ∧ Below w.heap.size w w' := by
  have HT := Lib.hid h
  have HLE := Lib.hid h.1
  clear h
  go_enter Tryz.func62, Tryz.ntmps62
  go_wp2_with fail
  (refine wp_named ?_; intro w1 hw1)
  have hb1 : Below w.heap.size w w1 := by rw [hw1]; exact bELt
  have hQ : Blk w1 w.heap.size 29 #[.slice Q L cq] := by rw [hw1]; exact bLNt
  have H1 := Lib.hid (HT.out.below hb1)
  clear hw1
  have y0 := hQ.cell 0
  simp only [List.getElem?_toArray, List.getElem?_cons_zero] at y0
  go_loop [3] (fun q => ∃ i : Nat, i ≤ L ∧ q = .int .i64 i ∧ ∀ j l, j < i → ls[j]? = some l → l.length ≤ 60) (fun q => L - (intOf q).toNat)
  case atStart => exact ⟨0, Nat.zero_le _, rfl, fun _ _ h => absurd h (Nat.not_lt_zero _)⟩
  case round =>
    obtain ⟨i, hi, rfl, hall⟩ := hrel
    have HA := Lib.hid hall
    clear hall
    by_cases hlt : i < L
    · obtain ⟨b, o, A, n, c, l, rfl, hl, hc, hr, q1, q2⟩ := H1.out.at_ hlt
      have i1 : (0 : Int) ≤ (i : Int) := by omega
      have i2 : (i : Int) < (L : Int) := by omega
      have HLL := Lib.hid hl
      have HR := Lib.hid hr.1
      clear hl hr
      by_cases q3 : (n : Int) > 60
      · go_wp2_with fail
        go_ret
        exact ⟨⟨false, rfl, fun h => by cases h⟩, hb1⟩
      · go_wp2_with fail
        go_round
        case rel => exact ⟨i + 1, by omega, by go_num, fun j l' hj hl' => by
          by_cases e : j = i
          · subst e
            rw [HLL.out] at hl'
            cases hl'
            rw [HR.out]
            omega
          · exact HA.out j l' (by omega) hl'⟩
        case measure => simp [intOf]; omega
    · obtain rfl : L = i := by omega
      go_wp2_with fail
      go_ret
      refine ⟨⟨_, rfl, fun h => ⟨by rw [HLE.out]; have := of_decide_eq_true h; omega, fun l hl => ?_⟩⟩, hb1⟩
      obtain ⟨j, hj⟩ := List.getElem?_of_mem hl
      exact HA.out j l (by rw [← HLE.out]; exact (List.getElem?_eq_some_iff.1 hj).1) hj
set_option maxHeartbeats 1000000 in
theorem may13_any (Q : Option Addr) (n L cq : Nat) (ls : List (List Int)) (w : World) (h : RdT w Q L ls) (hL : L ≤ 9223372036854775807) :
    Calls Tryz.prog 36 #[.int .i64 n, .agg #[.slice Q L cq]] w fun e w' => BoolRes (FewP ls ∧ n ≤ 60 ∧ PartOk n ls) e ∧ Below w.heap.size w w' := by
  have HT := Lib.hid h
  clear h
  go_enter Tryz.func36, Tryz.ntmps36
  go_wp2_with fail
  (refine calls_named ?_; intro w1 hw1)
  have hb1 : Below w.heap.size w w1 := by rw [hw1]; exact bELt
  have hQ : Blk w1 w.heap.size 29 #[.slice Q L cq] := by rw [hw1]; exact bLNt
  clear hw1
  with_reducible refine (fewP_any Q L cq ls w1 (HT.out.below hb1) hL).mono ?_
  rintro e w2 ⟨⟨bb, rfl, hf⟩, hb2⟩
  have hbw2 := Bel.step hb1 hb2
  have y0 := (hQ.below hb2 hQ.lt).cell 0
  simp only [List.getElem?_toArray, List.getElem?_cons_zero] at y0
  clear hQ hb2
  cases bb
  · go_wp2_with fail
    go_ret
    exact ⟨⟨false, rfl, fun h => by cases h⟩, hbw2⟩
  have HF := Lib.hid (hf rfl)
  clear hf
  by_cases q0 : (n : Int) ≤ 60
  rotate_left
  · go_wp2_with fail
    go_ret
    exact ⟨⟨false, rfl, fun h => by cases h⟩, hbw2⟩
  go_wp2_with fail
  with_reducible refine (checkPart_any Q n L cq ls w2 (HT.out.below hbw2)).mono ?_
  rintro e w3 ⟨⟨A4, k4, c4, x, rfl, hx⟩, hb3⟩
  have hbw3 := Bel.step hbw2 hb3
  have hfe := fieldErr A4 k4 c4 x w3
  clear y0
  rcases hx with ⟨rfl, hG⟩ | hx
  · have HG := Lib.hid hG
    clear hG
    go_wp2_with fail
    go_ret
    exact ⟨⟨true, rfl, fun _ => ⟨HF.out, by omega, HG.out⟩⟩, hbw3⟩
  · go_wp2_with fail
    go_ret
    exact ⟨⟨_, rfl, fun h => absurd (by simpa using h) hx⟩, hbw3⟩
structure MayOk (N : NetD) (ls : List (List Int)) : Prop where
  small : SmallOk N
  few : FewP ls
  part : PartOk N.vs.length ls
set_option maxHeartbeats 1000000 in
theorem may15_any (A B C Q : Option Addr) (n m k c d e L cq : Nat) (N : NetD) (ls : List (List Int)) (w : World) (h : RdNet w A B C n m k N) (hk : k ≤ 9223372036854775807) (hq : RdT w Q L ls) (hL : L ≤ 9223372036854775807) :
    Calls Tryz.prog 8 #[.agg #[.slice A n c, .slice B m d, .slice C k e], .agg #[.slice Q L cq]] w fun e w' => BoolRes (MayOk N ls) e ∧ Below w.heap.size w w' := by
  have HH := Lib.hid h
  have HT := Lib.hid hq
  have HLV := Lib.hid h.1.1
  clear h hq
  go_enter Tryz.func8, Tryz.ntmps8
  go_wp2_with fail
  (refine calls_named ?_; intro w1 hw1)
  have hb1 : Below w.heap.size w w1 := by rw [hw1]; exact bELt
  have hN : Blk w1 w.heap.size 26 #[.slice A n c, .slice B m d, .slice C k e] := by rw [hw1]; exact bLNt
  have hQ : Blk w1 (w.heap.size + 1) 29 #[.slice Q L cq] := by rw [hw1]; exact bLNt
  clear hw1
  with_reducible refine (small_any A B C n m k c d e N w1 (HH.out.below hb1) hk).mono ?_
  rintro r w2 ⟨⟨bb, rfl, hf⟩, hb2⟩
  have hbw2 := Bel.step hb1 hb2
  have y0 := (hQ.below hb2 hQ.lt).cell 0
  simp only [List.getElem?_toArray, List.getElem?_cons_zero] at y0
  obtain ⟨n0, n1, n2⟩ := (hN.below hb2 hN.lt).three
  clear hQ hb2 hN
  cases bb
  · go_wp2_with fail
    go_ret
    exact ⟨⟨false, rfl, fun h => by cases h⟩, hbw2⟩
  have HF := Lib.hid (hf rfl)
  clear hf
  go_wp2_with fail
  with_reducible refine (may13_any Q n L cq ls w2 (HT.out.below hbw2) hL).mono ?_
  rintro r w3 ⟨⟨bb, rfl, hf⟩, hb3⟩
  have HF2 := Lib.hid hf
  have hbw3 := Bel.step hbw2 hb3
  clear hf
  go_wp2_with fail
  go_ret
  exact ⟨⟨bb, rfl, fun h => ⟨HF.out, (HF2.out h).1, by rw [HLV.out]; exact (HF2.out h).2.2⟩⟩, hbw3⟩
end Go.Proofs.YtgkeolddpielpaaGreat

/- FillWider: what it reaches at level 1; through a cell is no dearer than through one within it. -/
namespace Go.Proofs.YtgkeolddpielpaaGreat
open Go.RowKit

attribute [local go_sem ↓] Go.wp_at_zero Go.wp_at_succ

theorem downIn_one (o : Nat) (c a : Int) (w : World) : Calls Tryz.prog 14 #[.pointer (some ⟨o, 0, none⟩), .int .i64 1, .int .i64 c, .int .i64 a] w fun e w' => e = .returned (.tuple #[.int .i64 (-1), .int .i64 (-1)]) ∧ w = w' := by
  go_enter Tryz.func14, Tryz.ntmps14
  go_wp2_with fail
  go_ret2
  exact ⟨rfl, rfl⟩
theorem downOut_one (o : Nat) (c a : Int) (w : World) : Calls Tryz.prog 16 #[.pointer (some ⟨o, 0, none⟩), .int .i64 1, .int .i64 c, .int .i64 a] w fun e w' => e = .returned (.tuple #[.int .i64 (-1), .int .i64 (-1)]) ∧ w = w' := by
  go_enter Tryz.func16, Tryz.ntmps16
  go_wp2_with fail
  go_ret2
  exact ⟨rfl, rfl⟩
theorem has_neg (o : Nat) (i : Int) (w : World) : Calls Tryz.prog 39 #[.pointer (some ⟨o, 0, none⟩), .int .i64 i, .int .i64 (-1)] w fun e w' => e = .returned (.bool false) ∧ w = w' := by
  go_enter Tryz.func39, Tryz.ntmps39
  go_wp2_with fail
  go_ret
  exact ⟨rfl, rfl⟩
theorem at_neg (o : Nat) (i a b : Int) (w : World) : Calls Tryz.prog 30 #[.pointer (some ⟨o, 0, none⟩), .int .i64 i, .int .i64 (-1), .int .i64 a, .int .i64 b] w fun e w' => e = .returned (.int .i64 (-1)) ∧ w = w' := by
  have HH := Lib.hid (has_neg o i w)
  go_enter Tryz.func30, Tryz.ntmps30
  go_wp2_with fail
  with_reducible refine HH.out.mono ?_
  rintro e w' ⟨rfl, rfl⟩
  go_wp2_with fail
  go_ret
  exact ⟨rfl, rfl⟩

theorem EntC.wide {N : NetD} (hok : NetOk N) {mk mk' : List Bool} {s t : Nat} {v v' : Int} (hm : ∀ u, mk.getD u false = true → mk'.getD u false = true) (h : EntC N mk s t v) (g : EntC N mk' s t v') : v' ≤ v := by
  rcases h with ⟨⟨p, c, d, h1, h2, rfl⟩, _⟩ | ⟨rfl, _⟩
  · have hp : OutC (StA N mk') (OuA N) s t (c + d) := ⟨p, c, d, h1.mono (fun p q d ⟨y, g1, g2, g3, g4, g5, g6⟩ => ⟨y, g1, g2, g3, hm _ g4, hm _ g5, g6⟩), h2, rfl⟩
    rcases g with ⟨_, g2⟩ | ⟨_, g2⟩
    · exact g2 _ hp
    · exact absurd hp (g2 _)
  · have := g.bd hok
    unfold INF
    omega
theorem mkOf_true {l : List Int} {c : Int} {u : Nat} : (mkOf l c).getD u false = true ↔ l[u]? = some c := by
  unfold mkOf
  rw [List.getD_eq_getElem?_getD, List.getElem?_map]
  cases h : l[u]? with
  | none => simp
  | some z => simp
theorem mkOf_nest {l lb : List Int} {n u q c : Nat} (hn : NestOk lb l) (h1 : l.length = n) (h2 : lb.length = n) (hb : lb[u]? = some (q : Int)) (hl : l[u]? = some (c : Int)) (x : Nat) (h : (mkOf lb q).getD x false = true) : (mkOf l c).getD x false = true := by
  rw [mkOf_true] at h ⊢
  have hx : x < n := by rw [← h2]; exact (List.getElem?_eq_some_iff.1 h).1
  have e1 := cellOf_get (l := l) (v := x) (by omega)
  have c1 := hn u x _ _ _ _ hb h hl e1 (by omega)
  have c2 := hn x u _ _ _ _ h hb e1 hl (by omega)
  rw [e1]
  congr 1
  omega
theorem lb_eq {ar : List Tri} {aa v : Nat} (h : (ar.map (·.2.1))[aa]? = some (v : Int)) : ∃ y, ar[aa]? = some y ∧ y.2.1 = (v : Int) := by
  rw [List.getElem?_map] at h
  cases ha : ar[aa]? with
  | none => rw [ha] at h; cases h
  | some y => rw [ha] at h; exact ⟨y, rfl, Option.some.inj h⟩
/-- What FillWider asks of an entry above level 1. -/
theorem wider_le {N : NetD} (hok : NetOk N) {ls : List (List Int)} (hP : PartOk N.vs.length ls) {cl : List Int} (hall : IsAll N ls cl) {k k' j c a b s t q p p2 : Nat} {l lb : List Int} {x y : GateD} {v v' : Int} (he : IsEnt N ls k (j + 1) l c x a b s t) (he' : IsEnt N ls k' j lb q y p p2 s t)
    (hv : cl[k]? = some v) (hv' : cl[k']? = some v') : v ≤ v' := by
  obtain ⟨v1, e1, h1⟩ := hall.at_ he
  obtain ⟨v2, e2, h2⟩ := hall.at_ he'
  rw [hv] at e1; cases e1
  rw [hv'] at e2; cases e2
  have hL := hP.lvl l (List.mem_of_getElem? he.hl)
  have hB := hP.lvl lb (List.mem_of_getElem? he'.hl)
  obtain ⟨y1, ha1, _, hc1⟩ := (gate_in he.hx).1 (List.mem_of_getElem? he.ha)
  obtain ⟨y2, ha2, _, hc2⟩ := (gate_in he'.hx).1 (List.mem_of_getElem? he'.ha)
  rw [ha1] at ha2
  cases ha2
  have ho := hok.arcs y1 (List.mem_of_getElem? ha1)
  have g0 := ho.g0; have g1 := ho.g1
  obtain ⟨u, hu⟩ : ∃ u : Nat, y1.2.1 = (u : Int) := ⟨y1.2.1.toNat, by omega⟩
  have f1 := cellOf_get (l := l) (v := u) (by rw [hL.len]; omega)
  have f2 := cellOf_get (l := lb) (v := u) (by rw [hB.len]; omega)
  rw [hu] at hc1 hc2
  rw [hc1] at f1
  rw [hc2] at f2
  exact EntC.wide hok (mkOf_nest (hP.nest j lb l he'.hl he.hl) hL.len hB.len f2 f1) h2 h1
end Go.Proofs.YtgkeolddpielpaaGreat
