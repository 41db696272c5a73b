/- Square of roundsmanref28: true of square tables of costs. -/
import Derived.Test.YtjphjbchhhembaaGreatDoorTab
namespace Go.Proofs.YtjphjbchhhembaaGreatDoor
open Go.RowKit

set_option maxHeartbeats 1000000 in
theorem refSquare_any (A : Option Addr) (n c N : Nat) (ls : List (List Int)) (w : World) (h : RdT w A n ls) (hn : n ≤ 4000000000000000000) (hN : N ≤ 4000000000000000000) :
    Calls Tryz.prog 44 #[.int .i64 N, .slice A n c] w fun e w' => (∃ v, e = .returned v ∧ WOk (sqB N ls) v) ∧ Below w.heap.size w w' := by
  have hlen := h.1
  by_cases hnN : n = N
  · subst hnN
    go_enter Tryz.func44, Tryz.ntmps44
    go_wp2_with fail
    (refine wp_named ?_; intro w1 hw1)
    have hb1 : Below w.heap.size w w1 := by rw [hw1]; exact (by repeat (first | exact Below.refl _ _ | assumption | apply Below.drew | apply below_drewN | apply Bel.alloc | (refine Bel.setCell_ ?_ ?_; rotate_left; omega) | (refine Bel.step ?_ (by assumption))))
    have hB : Blk w1 w.heap.size 55 #[.slice none 0 0, .int .i64 0] := by rw [hw1]; exact Blk.new _ _ _
    have h1 := h.below hb1
    have HL := Lib.hid hlen
    clear hw1 h hlen
    go_loop [5] (fun i => ∃ k : Nat, k ≤ n ∧ i = .int .i64 k ∧ ∀ j l, j < k → ls[j]? = some l → rowB n l = true) (fun i => n - (intOf i).toNat)
    case atStart => exact ⟨0, Nat.zero_le _, rfl, fun _ _ h => absurd h (by omega)⟩
    case round =>
      obtain ⟨k, hk, rfl, hj⟩ := hrel
      have HJ := Lib.hid hj; clear hj
      by_cases hlt : k < n
      · obtain ⟨b, o, A1, n1, c1, l, rfl, hl, hc, hr, hr1, hr2⟩ := h1.at_ hlt
        have HX := Lib.hid hl
        have hll := hr.1
        by_cases hn1 : n1 = n
        · subst hn1
          go_wp2_with fail
          go_loop [6] (fun i => ∃ m : Nat, m ≤ n1 ∧ i = .int .i64 m ∧ ∀ j x, j < m → l[j]? = some x → 0 ≤ x ∧ x ≤ 1152921504606846976) (fun i => n1 - (intOf i).toNat)
          case atStart => exact ⟨0, Nat.zero_le _, rfl, fun _ _ h => absurd h (by omega)⟩
          case round =>
            obtain ⟨m, hm, rfl, hj2⟩ := hrel
            have HJ2 := Lib.hid hj2; clear hj2
            by_cases hlt2 : m < n1
            · obtain ⟨b2, o2, x, rfl, hx, hc2⟩ := hr.at_ hlt2
              by_cases hbad : x < 0 ∨ x > 1152921504606846976
              · have HS := Lib.hid (sqB_row (n := n1) HX.out (rowB_cost hx hbad))
                clear hx
                by_cases g1 : x < 0
                · clear hbad
                  go_wp2_with fail
                  with_reducible refine (refAt_any _ _ _ _).mono ?_
                  rintro e w2 ⟨v, rfl, ⟨A4, n4, m4, rfl, h4, h5⟩, hb⟩
                  have hB2 : Blk w2 w.heap.size 55 #[.slice none 0 0, .int .i64 0] := Blk.below hB hb hB.lt
                  obtain ⟨c0, c1, f0, f1⟩ := hB2.two
                  have hb2 : Below w.heap.size w w2 := Bel.step hb1 hb
                  go_wp2_with fail
                  refine bodyPost_ret (v := .agg #[.slice A4 n4 m4, .int .i64 8]) (by simp [results, Tryz.results44, go_sem, c0, c1]) rfl ?_
                  exact ⟨⟨_, rfl, A4, n4, m4, 8, rfl, by rw [HS.out]; simp⟩, (by repeat (first | exact Below.refl _ _ | assumption | apply Below.drew | apply below_drewN | apply Bel.alloc | (refine Bel.setCell_ ?_ ?_; rotate_left; omega) | (refine Bel.step ?_ (by assumption))))⟩
                · have g2 : x > 1152921504606846976 := by omega
                  clear hbad
                  go_wp2_with fail
                  with_reducible refine (refAt_any _ _ _ _).mono ?_
                  rintro e w2 ⟨v, rfl, ⟨A4, n4, m4, rfl, h4, h5⟩, hb⟩
                  have hB2 : Blk w2 w.heap.size 55 #[.slice none 0 0, .int .i64 0] := Blk.below hB hb hB.lt
                  obtain ⟨c0, c1, f0, f1⟩ := hB2.two
                  have hb2 : Below w.heap.size w w2 := Bel.step hb1 hb
                  go_wp2_with fail
                  refine bodyPost_ret (v := .agg #[.slice A4 n4 m4, .int .i64 8]) (by simp [results, Tryz.results44, go_sem, c0, c1]) rfl ?_
                  exact ⟨⟨_, rfl, A4, n4, m4, 8, rfl, by rw [HS.out]; simp⟩, (by repeat (first | exact Below.refl _ _ | assumption | apply Below.drew | apply below_drewN | apply Bel.alloc | (refine Bel.setCell_ ?_ ?_; rotate_left; omega) | (refine Bel.step ?_ (by assumption))))⟩
              · have HX2 := Lib.hid hx; clear hx
                have g1 : ¬ x < 0 := by omega
                have g2 : ¬ x > 1152921504606846976 := by omega
                clear hbad
                go_wp2_with fail
                go_round
                case rel => exact ⟨m + 1, by omega, by go_num, fun j y hj hy => by
                  rcases Nat.lt_or_ge j m with h1 | h1
                  · exact HJ2.out j y h1 hy
                  · obtain rfl : j = m := by omega
                    rw [HX2.out] at hy; cases hy; omega⟩
                case measure => simp [intOf]; omega
            · have hrow := Lib.hid (rowB_all (n := n1) (l := l) hll (fun i x hx => HJ2.out i x (by have := (List.getElem?_eq_some_iff.1 hx).1; omega) hx))
              go_wp2_with fail
              go_round
              case rel => exact ⟨k + 1, by omega, by go_num, fun j y hj hy => by
                rcases Nat.lt_or_ge j k with h1 | h1
                · exact HJ.out j y h1 hy
                · obtain rfl : j = k := by omega
                  rw [HX.out] at hy; cases hy; exact hrow.out⟩
              case measure => simp [intOf]; omega
        · have HS := Lib.hid (sqB_row (n := n) HX.out (rowB_len (n := n) (by omega)))
          go_wp2_with fail
          with_reducible refine (refAt_any _ _ _ _).mono ?_
          rintro e w2 ⟨v, rfl, ⟨A4, n4, m4, rfl, h4, h5⟩, hb⟩
          have hB2 : Blk w2 w.heap.size 55 #[.slice none 0 0, .int .i64 0] := Blk.below hB hb hB.lt
          obtain ⟨c0, c1, f0, f1⟩ := hB2.two
          have hb2 : Below w.heap.size w w2 := Bel.step hb1 hb
          go_wp2_with fail
          refine bodyPost_ret (v := .agg #[.slice A4 n4 m4, .int .i64 1]) (by simp [results, Tryz.results44, go_sem, c0, c1]) rfl ?_
          exact ⟨⟨_, rfl, A4, n4, m4, 1, rfl, by rw [HS.out]; simp⟩, (by repeat (first | exact Below.refl _ _ | assumption | apply Below.drew | apply below_drewN | apply Bel.alloc | (refine Bel.setCell_ ?_ ?_; rotate_left; omega) | (refine Bel.step ?_ (by assumption))))⟩
      · have hs := Lib.hid (sqB_all (n := n) HL.out (fun i l hl => HJ.out i l (by have := (List.getElem?_eq_some_iff.1 hl).1; have := HL.out; omega) hl))
        obtain ⟨c0, c1, f0, f1⟩ := hB.two
        go_wp2_with fail
        refine bodyPost_ret (v := .agg #[.slice none 0 0, .int .i64 0]) (by simp [results, Tryz.results44, go_sem, c0, c1]) rfl ?_
        exact ⟨⟨_, rfl, none, 0, 0, 0, rfl, by rw [hs.out]; simp⟩, (by repeat (first | exact Below.refl _ _ | assumption | apply Below.drew | apply below_drewN | apply Bel.alloc | (refine Bel.setCell_ ?_ ?_; rotate_left; omega) | (refine Bel.step ?_ (by assumption))))⟩
  · have hne := sqB_len (n := N) (ls := ls) (by omega)
    have HN := Lib.hid hne; clear hne
    go_enter Tryz.func44, Tryz.ntmps44
    go_wp2_with fail
    with_reducible refine (refAt_any _ _ _ _).mono ?_
    rintro e w1 ⟨v, rfl, ⟨A1, n1, m1, rfl, h1, h2⟩, hb⟩
    have hB : Blk w1 w.heap.size 55 #[.slice none 0 0, .int .i64 0] := (Blk.new _ _ _).below hb (by simp)
    obtain ⟨c0, c1, f0, f1⟩ := hB.two
    have hb1 : Below w.heap.size w w1 := Bel.step (by repeat (first | exact Below.refl _ _ | assumption | apply Below.drew | apply below_drewN | apply Bel.alloc | (refine Bel.setCell_ ?_ ?_; rotate_left; omega) | (refine Bel.step ?_ (by assumption)))) hb
    go_wp2_with fail
    refine bodyPost_ret (v := .agg #[.slice A1 n1 m1, .int .i64 1]) (by simp [results, Tryz.results44, go_sem, c0, c1]) rfl ?_
    exact ⟨⟨_, rfl, A1, n1, m1, 1, rfl, by rw [HN.out]; simp⟩, (by repeat (first | exact Below.refl _ _ | assumption | apply Below.drew | apply below_drewN | apply Bel.alloc | (refine Bel.setCell_ ?_ ?_; rotate_left; omega) | (refine Bel.step ?_ (by assumption))))⟩
end Go.Proofs.YtjphjbchhhembaaGreatDoor
