/- known of layer 10. -/
import Derived.Test.YtjphjbchhhembaaA7
namespace Go.Proofs.Ytjphjbchhhembaa
open Go.RowKit

theorem sameInts_eq (A B : Option Addr) (n m c d : Nat) (l : List Int) (w : World) (h : RdI w A n l) (g : RdI w B m l) (hn : n ≤ 1000000000) :
    Calls Try.prog 11 #[.slice A n c, .slice B m d] w fun e w' => e = .returned (.bool true) ∧ ∃ q, w' = w.drewN q :=
  (sameInts_any A B n m c d l l w h g hn).mono fun _ _ ⟨he, hq⟩ => ⟨by rw [he]; simp, hq⟩
theorem litI (w : World) (t : TypeId) (l : List Int) {g : Nat} (hg : g = w.heap.size) {n : Nat} (hn : l.length = n) : RdI (w.alloc (.cells (ints l) t)) (some ⟨g, 0, none⟩) n l := (Blk.new' w t (ints l) hg).rdI hn
theorem litB (w : World) (t : TypeId) (l : List Bool) {g : Nat} (hg : g = w.heap.size) {n : Nat} (hn : l.length = n) : RdB (w.alloc (.cells (bools l) t)) (some ⟨g, 0, none⟩) n l := (Blk.new' w t (bools l) hg).rdB hn

def kpts : List (Int × Int) := [(3, 0), (0, 4), (3, 1), (-1, -1)]

set_option maxHeartbeats 1000000 in
set_option maxRecDepth 100000 in
theorem known10_any (w : World) : Calls Try.prog 6 #[] w fun e w' => e = .returned (.bool true) ∧ Below w.heap.size w w' := by
  have h0 : RdP (w.alloc (.cells #[.int .i64 3, .int .i64 0, .int .i64 0, .int .i64 4, .int .i64 3, .int .i64 1, .int .i64 (-1), .int .i64 (-1)] 30)) (some ⟨w.heap.size, 0, none⟩) 4 kpts := by
    have := (Blk.new w 30 (pcells kpts).toArray).rds (s := 2) (m := 4) rfl
    exact this.rdP
  have hbd : ∀ p ∈ kpts, -1000000000000 ≤ p.1 ∧ p.1 ≤ 1000000000000 ∧ -1000000000000 ≤ p.2 ∧ p.2 ≤ 1000000000000 := by decide
  have b0 : ∀ o, Below w.heap.size w (w.alloc o) := fun o => (Below.refl _ _).alloc (Nat.le_refl _) o
  have HB := Lib.hid hbd; clear hbd
  go_enter Try.func6, Try.ntmps6
  go_wp2_with fail
  with_reducible refine (copies_any _ 4 _ kpts _ h0 (by omega)).mono ?_
  rintro e w1 ⟨A1, c1, rfl, h1, b1⟩
  have h01 := h0.below b1
  have b01 := Bel.step (b0 _) b1
  clear b1 h0
  go_wp2_with fail
  with_reducible refine (order_any _ 4 _ kpts 0 _ h1 (by omega) (by omega) (by omega) HB.out).mono ?_
  rintro e w2 ⟨A2, rfl, h2, b2⟩
  have h02 := h01.below b2
  have b02 := Bel.step b01 b2
  clear b2 h01 h1 b01
  have h2 : RdI w2 A2 4 [3, 1, 0, 2] := by have := h2; rw [show order kpts 0 = [3, 1, 0, 2] from order_k1] at this; exact this
  have HE := ends2_any A2 4 4 [3, 1, 0, 2] w2 h2 (by omega) (by omega)
  rw [show endsN 4 = 1 from rfl] at HE
  have HE' := Lib.hid HE; clear HE
  go_wp2_with fail
  with_reducible refine (HE'.out).mono ?_
  rintro e w3 ⟨A3, A4, rfl, h3, h4, b3⟩
  have h03 := h02.below b3
  have h23 := h2.below b3
  have b03 := Bel.step b02 b3
  have h3 : RdI w3 A3 1 [3] := h3
  have h4 : RdI w3 A4 1 [2] := h4
  clear b3 h02 h2 b02 HE'
  go_wp2_with fail
  with_reducible refine (sameInts_eq _ _ 4 4 _ _ [3, 1, 0, 2] _ (h23.below (by repeat (first | exact Below.refl _ _ | assumption | apply Below.drew | apply below_drewN | apply Bel.alloc | (refine Bel.setCell_ ?_ ?_; rotate_left; omega) | (refine Bel.step ?_ (by assumption))))) (by with_unfolding_all exact litI _ _ [3, 1, 0, 2] (by first | rfl | simp) rfl) (by omega)).mono ?_
  rintro e w' ⟨rfl, q, rfl⟩
  go_wp2_with fail
  with_reducible refine (order_any _ 4 _ kpts 3 _ (h03.below (by repeat (first | exact Below.refl _ _ | assumption | apply Below.drew | apply below_drewN | apply Bel.alloc | (refine Bel.setCell_ ?_ ?_; rotate_left; omega) | (refine Bel.step ?_ (by assumption))))) (by omega) (by omega) (by omega) HB.out).mono ?_
  rintro e w4 ⟨A5, rfl, h5, b4⟩
  have h5 : RdI w4 A5 4 [1, 3, 2, 0] := by have := h5; rw [show order kpts 3 = [1, 3, 2, 0] from order_k2] at this; exact this
  have b34 : Below w3.heap.size w3 w4 := (by repeat (first | exact Below.refl _ _ | assumption | apply Below.drew | apply below_drewN | apply Bel.alloc | (refine Bel.setCell_ ?_ ?_; rotate_left; omega) | (refine Bel.step ?_ (by assumption))))
  have h34 := h3.below b34
  have h44 := h4.below b34
  have b04 := Bel.step b03 b34
  clear b4 b34 b03 h3 h4 h03 h23
  go_wp2_with fail
  with_reducible refine (sameInts_eq _ _ 4 4 _ _ [1, 3, 2, 0] _ (h5.below (by repeat (first | exact Below.refl _ _ | assumption | apply Below.drew | apply below_drewN | apply Bel.alloc | (refine Bel.setCell_ ?_ ?_; rotate_left; omega) | (refine Bel.step ?_ (by assumption))))) (by with_unfolding_all exact litI _ _ [1, 3, 2, 0] (by first | rfl | simp) rfl) (by omega)).mono ?_
  rintro e w' ⟨rfl, q2, rfl⟩
  go_wp2_with fail
  with_reducible refine (sameInts_eq _ _ 1 1 _ _ [3] _ (h34.below (by repeat (first | exact Below.refl _ _ | assumption | apply Below.drew | apply below_drewN | apply Bel.alloc | (refine Bel.setCell_ ?_ ?_; rotate_left; omega) | (refine Bel.step ?_ (by assumption))))) (by with_unfolding_all exact litI _ _ [3] (by first | rfl | simp) rfl) (by omega)).mono ?_
  rintro e w' ⟨rfl, q3, rfl⟩
  go_wp2_with fail
  with_reducible refine (sameInts_eq _ _ 1 1 _ _ [2] _ (h44.below (by repeat (first | exact Below.refl _ _ | assumption | apply Below.drew | apply below_drewN | apply Bel.alloc | (refine Bel.setCell_ ?_ ?_; rotate_left; omega) | (refine Bel.step ?_ (by assumption))))) (by with_unfolding_all exact litI _ _ [2] (by first | rfl | simp) rfl) (by omega)).mono ?_
  rintro e w' ⟨rfl, q4, rfl⟩
  go_wp2_with fail
  with_reducible refine (half_any _ 3 _ [7, 8, 9] _ (by with_unfolding_all exact litI _ _ [7, 8, 9] (by first | rfl | simp) rfl) (by omega) (by omega)).mono ?_
  rintro e w5 ⟨A6, rfl, h6, b5⟩
  have h6 : RdI w5 A6 2 [7, 8] := h6
  have b45 : Below w4.heap.size w4 w5 := (by repeat (first | exact Below.refl _ _ | assumption | apply Below.drew | apply below_drewN | apply Bel.alloc | (refine Bel.setCell_ ?_ ?_; rotate_left; omega) | (refine Bel.step ?_ (by assumption))))
  have b05 := Bel.step b04 b45
  clear b5 b45 b04 h34 h44 h5
  go_wp2_with fail
  with_reducible refine (sameInts_eq _ _ 2 2 _ _ [7, 8] _ (h6.below (by repeat (first | exact Below.refl _ _ | assumption | apply Below.drew | apply below_drewN | apply Bel.alloc | (refine Bel.setCell_ ?_ ?_; rotate_left; omega) | (refine Bel.step ?_ (by assumption))))) (by with_unfolding_all exact litI _ _ [7, 8] (by first | rfl | simp) rfl) (by omega)).mono ?_
  rintro e w' ⟨rfl, q5, rfl⟩
  have HK : ∀ W, Calls Try.prog 10 #[.agg #[.int .i64 5, .int .i64 7], .int .i64 2] W fun e w' => e = .returned (.int .i64 12) ∧ ∃ q, w' = (W.alloc (.cells #[.int .i64 5, .int .i64 7] 30)).drewN q := fun W =>
    key_any 5 7 2 W (by omega) (by omega) (by omega) (by omega) (by omega) (by omega)
  have HK' := Lib.hid HK; clear HK
  go_wp2_with fail
  with_reducible refine (HK'.out _).mono ?_
  rintro e w' ⟨rfl, q6, rfl⟩
  go_wp2_with fail
  have HF1 : ∀ A W, RdB W A 2 [true, false] → Calls Try.prog 14 #[.slice A 2 2] W fun e w' => e = .returned (.bool true) ∧ W = w' := fun A W h => fair_any A 2 2 _ W h (by omega)
  have HF2 : ∀ A W, RdB W A 1 [true] → Calls Try.prog 14 #[.slice A 1 1] W fun e w' => e = .returned (.bool false) ∧ W = w' := fun A W h => fair_any A 1 1 _ W h (by omega)
  have HF3 : ∀ A W, RdB W A 5 [true, true, true, true, false] → Calls Try.prog 14 #[.slice A 5 5] W fun e w' => e = .returned (.bool false) ∧ W = w' := fun A W h => fair_any A 5 5 _ W h (by omega)
  have HF1' := Lib.hid HF1; clear HF1
  have HF2' := Lib.hid HF2; clear HF2
  have HF3' := Lib.hid HF3; clear HF3
  with_reducible refine (HF1'.out _ _ (by with_unfolding_all exact litB _ _ [true, false] (by first | rfl | simp) rfl)).mono ?_
  rintro e w' ⟨rfl, rfl⟩
  go_wp2_with fail
  with_reducible refine (HF2'.out _ _ (by with_unfolding_all exact litB _ _ [true] (by first | rfl | simp) rfl)).mono ?_
  rintro e w' ⟨rfl, rfl⟩
  go_wp2_with fail
  with_reducible refine (HF3'.out _ _ (by with_unfolding_all exact litB _ _ [true, true, true, true, false] (by first | rfl | simp) rfl)).mono ?_
  rintro e w' ⟨rfl, rfl⟩
  go_wp2_with fail
  go_ret
  exact ⟨rfl, (by repeat (first | exact Below.refl _ _ | assumption | apply Below.drew | apply below_drewN | apply Bel.alloc | (refine Bel.setCell_ ?_ ?_; rotate_left; omega) | (refine Bel.step ?_ (by assumption))))⟩
end Go.Proofs.Ytjphjbchhhembaa
