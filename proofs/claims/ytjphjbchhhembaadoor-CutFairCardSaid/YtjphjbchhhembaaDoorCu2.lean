/- cut.Check, the document's CheckCut. -/
import Derived.Test.YtjphjbchhhembaaDoorCu1
namespace Go.Proofs.YtjphjbchhhembaaDoor
open Go.RowKit

attribute [local go_sem ↓] Go.wp_at_zero Go.wp_at_succ

theorem cutFault_any (s : ByteArray) (k c : Int) (w : World) : Calls Tryd.prog 71 #[.string s, .int .i64 k, errV c] w fun e w' => ∃ v, e = .returned v ∧ Chain w' v [(s, k)] c ∧ Below w.heap.size w w' := by
  go_enter Tryd.func71, Tryd.ntmps71
  go_wp2
  go_ret
  exact ⟨_, rfl, ⟨w.heap.size, 0, errV c, rfl, by simp, by simp, by simp, rfl⟩, (by repeat (first | exact Below.refl _ _ | assumption | apply Below.drew | apply below_drewN | apply Bel.alloc | (refine Bel.setCell_ ?_ ?_; rotate_left; omega) | (refine Bel.step ?_ (by assumption))))⟩

theorem near1_bd {p : Int × Int} (h : near1 p = true) : -1048576 ≤ p.1 ∧ p.1 ≤ 1048576 ∧ -1048576 ≤ p.2 ∧ p.2 ≤ 1048576 := by
  unfold near1 coordB at h
  simp only [Bool.and_eq_true, decide_eq_true_eq] at h
  omega

set_option maxHeartbeats 4000000 in
theorem cutCheck_ok (A B : Option Addr) (n m c d : Nat) (l E : List (Int × Int)) (w : World) (h : RdP w A n l) (hE : RdP w B m E) (h2 : 2 ≤ n) (hn : n ≤ 4096) (hm : m ≤ 16384) (hb : ∀ p ∈ l, near1 p = true) (he : Ends n E) :
    Calls Tryd.prog 44 #[.slice A n c, .slice B m d] w fun e w' => e = .returned .nilIface ∧ Below w.heap.size w w' := by
  have HB := Lib.hid hb
  have HE := Lib.hid he
  have j0 : ¬ (n : Int) < 2 := by omega
  have j1 : ¬ (n : Int) > 4096 := by omega
  have j2 : ¬ (m : Int) > 16384 := by omega
  clear hb he
  go_enter Tryd.func44, Tryd.ntmps44
  go_wp2_with fail
  go_loopw [30] (fun i W => Below w.heap.size w W ∧ ∃ k : Nat, k ≤ n ∧ i = .int .i64 k) (fun i _ => n - (intOf i).toNat)
  case atStart => exact ⟨Below.refl _ _, 0, Nat.zero_le _, rfl⟩
  case round =>
    obtain ⟨hbl, k, hk, rfl⟩ := hrel
    by_cases hlt : k < n
    · obtain ⟨g, o, x, y, rfl, hx, cx, cy⟩ := h.at_ hlt
      have hbd := near1_bd (HB.out _ (List.mem_of_getElem? hx))
      obtain ⟨b1, b2, b3, b4⟩ := hbd
      have j3 := Below.cellOf hbl (Nat.le_refl _) cx
      have j4 := Below.cellOf hbl (Nat.le_refl _) cy
      have i1 : (0 : Int) ≤ (k : Int) := by omega
      have i2 : (k : Int) < (n : Int) := by omega
      have x0 : ∀ V, (Instr.index 62 (.agg #[.int .i64 x, .int .i64 y]) (.int .i64 0)).run Tryd.prog V = .ok (.int .i64 x) V := fun _ => by kernel_rfl
      have x1 : ∀ V, (Instr.index 62 (.agg #[.int .i64 x, .int .i64 y]) (.int .i64 1)).run Tryd.prog V = .ok (.int .i64 y) V := fun _ => by kernel_rfl
      clear hx cx cy
      simp only at b1 b2 b3 b4
      go_wp2_with fail
      (refine wp_named ?_; intro w3 hw3)
      have hb3 : Below w.heap.size w w3 := by rw [hw3]; exact (by repeat (first | exact Below.refl _ _ | assumption | apply Below.drew | apply below_drewN | apply Bel.alloc | (refine Bel.setCell_ ?_ ?_; rotate_left; omega) | (refine Bel.step ?_ (by assumption))))
      clear hw3 j3 j4
      go_loopw [36] (fun i W => Below w.heap.size w W ∧ (i = .int .i64 0 ∨ i = .int .i64 1 ∨ i = .int .i64 2)) (fun i _ => 2 - (intOf i).toNat)
      case atStart => exact ⟨hb3, Or.inl rfl⟩
      case round =>
        obtain ⟨hbl2, hi⟩ := hrel
        rcases hi with rfl | rfl | rfl
        · go_wp2_with fail
          go_roundw
          case rel => exact ⟨hbl2, Or.inr (Or.inl rfl)⟩
          case measure => simp [intOf]
        · go_wp2_with fail
          go_roundw
          case rel => exact ⟨hbl2, Or.inr (Or.inr rfl)⟩
          case measure => simp [intOf]
        · go_wp2_with fail
          go_roundw
          case rel => exact ⟨hbl2, k + 1, by omega, by go_num⟩
          case measure => simp [intOf]; omega
    · go_wp2_with fail
      (refine wp_named ?_; intro w5 hw5)
      subst hw5
      go_loopw [52] (fun i W => Below w.heap.size w W ∧ ∃ k : Nat, k ≤ m ∧ i = .int .i64 k) (fun i _ => m - (intOf i).toNat)
      case atStart => exact ⟨hbl, 0, Nat.zero_le _, rfl⟩
      case round =>
        clear hbl
        obtain ⟨hbl, q, hq, rfl⟩ := hrel
        by_cases hlt2 : q < m
        · obtain ⟨g, o, x, y, rfl, hx, cx, cy⟩ := hE.at_ hlt2
          obtain ⟨b1, b2, b3, b4⟩ := HE.out _ (List.mem_of_getElem? hx)
          have j3 := Below.cellOf hbl (Nat.le_refl _) cx
          have j4 := Below.cellOf hbl (Nat.le_refl _) cy
          have i1 : (0 : Int) ≤ (q : Int) := by omega
          have i2 : (q : Int) < (m : Int) := by omega
          have x0 : ∀ V, (Instr.index 62 (.agg #[.int .i64 x, .int .i64 y]) (.int .i64 0)).run Tryd.prog V = .ok (.int .i64 x) V := fun _ => by kernel_rfl
          have x1 : ∀ V, (Instr.index 62 (.agg #[.int .i64 x, .int .i64 y]) (.int .i64 1)).run Tryd.prog V = .ok (.int .i64 y) V := fun _ => by kernel_rfl
          clear hx cx cy
          simp only at b1 b2 b3 b4
          go_wp2_with fail
          (refine wp_named ?_; intro w3 hw3)
          have hb3 : Below w.heap.size w w3 := by rw [hw3]; exact (by repeat (first | exact Below.refl _ _ | assumption | apply Below.drew | apply below_drewN | apply Bel.alloc | (refine Bel.setCell_ ?_ ?_; rotate_left; omega) | (refine Bel.step ?_ (by assumption))))
          clear hw3 j3 j4
          go_loopw [58] (fun i W => Below w.heap.size w W ∧ (i = .int .i64 0 ∨ i = .int .i64 1 ∨ i = .int .i64 2)) (fun i _ => 2 - (intOf i).toNat)
          case atStart => exact ⟨hb3, Or.inl rfl⟩
          case round =>
            obtain ⟨hbl2, hi⟩ := hrel
            rcases hi with rfl | rfl | rfl
            · go_wp2_with fail
              go_roundw
              case rel => exact ⟨hbl2, Or.inr (Or.inl rfl)⟩
              case measure => simp [intOf]
            · go_wp2_with fail
              go_roundw
              case rel => exact ⟨hbl2, Or.inr (Or.inr rfl)⟩
              case measure => simp [intOf]
            · go_wp2_with fail
              go_roundw
              case rel => exact ⟨hbl2, q + 1, by omega, by go_num⟩
              case measure => simp [intOf]; omega
        · go_wp2_with fail
          go_ret
          exact ⟨rfl, hbl⟩

theorem cutCheck_short (A B : Option Addr) (n m c d : Nat) (w : World) (h2 : n < 2) :
    Calls Tryd.prog 44 #[.slice A n c, .slice B m d] w fun e w' => ∃ v, e = .returned v ∧ Chain w' v [(⟨#[99, 117, 116]⟩, 0)] 1 ∧ Below w.heap.size w w' := by
  have j0 : (n : Int) < 2 := by omega
  go_enter Tryd.func44, Tryd.ntmps44
  go_wp2_with fail
  with_reducible refine (cutFault_any _ _ _ _).mono ?_
  rintro e w2 ⟨v, rfl, hch, hb⟩
  go_wp2_with fail
  go_ret
  exact ⟨_, rfl, hch, hb⟩

/-- Points and edges that may be. -/
def Good (l E : List (Int × Int)) : Prop := 2 ≤ l.length ∧ (∀ p ∈ l, near1 p = true) ∧ Ends l.length E
/-- What tells no error: just of what may be. -/
def CkRes (G : Prop) (e : Ending) : Prop := ∃ (A : Option Addr) (k c : Nat) (x : Int), e = .returned (.agg #[.slice A k c, .int .i64 x]) ∧ ((x = 0 ∧ G) ∨ x ≠ 0)
theorem CkRes.no {G : Prop} {A : Option Addr} {k c : Nat} {x : Int} (hx : x ≠ 0) : CkRes G (.returned (.agg #[.slice A k c, .int .i64 x])) := ⟨A, k, c, x, rfl, .inr hx⟩

set_option maxHeartbeats 4000000 in
theorem checkCut_any (A B : Option Addr) (n m c d : Nat) (l E : List (Int × Int)) (w : World) (h : RdP w A n l) (hE : RdP w B m E) (hn : n ≤ 24) (hm : m ≤ 80) :
    Calls Tryd.prog 15 #[.slice A n c, .slice B m d] w fun e w' => CkRes (Good l E) e ∧ Below w.heap.size w w' := by
  by_cases h2 : n < 2
  · have j0 : (n : Int) < 2 := by omega
    go_enter Tryd.func15, Tryd.ntmps15
    go_wp2_with fail
    (refine calls_named ?_; intro w5 hw5)
    have hB5 : Blk w5 (w.heap.size) 49 #[.slice none 0 0, .int .i64 0] := by rw [hw5]; exact (by repeat (first | assumption | (refine Blk.new' _ _ _ ?_; first | with_unfolding_all rfl | (simp; done)) | apply Blk.drewN | apply Blk.drew | apply Blk.alloc | (refine Blk.far_ ?_ ?_ _; rotate_left; omega)))
    have hb5 : Below w.heap.size w w5 := by rw [hw5]; exact (by repeat (first | exact Below.refl _ _ | assumption | apply Below.drew | apply below_drewN | apply Bel.alloc | (refine Bel.setCell_ ?_ ?_; rotate_left; omega) | (refine Bel.step ?_ (by assumption))))
    clear hw5
    with_reducible refine (refAt_any _ _ _ _).mono ?_
    rintro e w2 ⟨v, rfl, ⟨A4, n4, m4, rfl, h4, h5⟩, hb⟩
    have hB2 := Blk.below hB5 hb hB5.lt
    obtain ⟨c0, c1, f0, f1⟩ := hB2.two
    have hb2 : Below w.heap.size w w2 := Bel.step hb5 hb
    go_wp2_with fail
    refine bodyPost_ret (v := .agg #[.slice A4 n4 m4, .int .i64 1]) (by simp [results, Tryd.results15, go_sem, c0, c1]) rfl ?_
    exact ⟨CkRes.no (by omega), (by repeat (first | exact Below.refl _ _ | assumption | apply Below.drew | apply below_drewN | apply Bel.alloc | (refine Bel.setCell_ ?_ ?_; rotate_left; omega) | (refine Bel.step ?_ (by assumption))))⟩
  have j0 : ¬ (n : Int) < 2 := by omega
  have j1 : ¬ (n : Int) > 4096 := by omega
  have j2 : ¬ (m : Int) > 16384 := by omega
  have HL := Lib.hid h.1
  have HM := Lib.hid hE.1
  go_enter Tryd.func15, Tryd.ntmps15
  go_wp2_with fail
  (refine wp_named ?_; intro w1 hw1)
  have hb1 : Below w.heap.size w w1 := by rw [hw1]; exact (by repeat (first | exact Below.refl _ _ | assumption | apply Below.drew | apply below_drewN | apply Bel.alloc | (refine Bel.setCell_ ?_ ?_; rotate_left; omega) | (refine Bel.step ?_ (by assumption))))
  have hR1 : Blk w1 w.heap.size 49 #[.slice none 0 0, .int .i64 0] := by rw [hw1]; exact (by repeat (first | assumption | (refine Blk.new' _ _ _ ?_; first | with_unfolding_all rfl | (simp; done)) | apply Blk.drewN | apply Blk.drew | apply Blk.alloc | (refine Blk.far_ ?_ ?_ _; rotate_left; omega)))
  clear hw1
  go_loop [5] (fun i => ∃ k : Nat, k ≤ n ∧ i = .int .i64 k ∧ ∀ j p, j < k → l[j]? = some p → near1 p = true) (fun i => n - (intOf i).toNat)
  case atStart => exact ⟨0, Nat.zero_le _, rfl, fun j p hj => absurd hj (by omega)⟩
  case round =>
    obtain ⟨k, hk, rfl, hall⟩ := hrel
    have HA := Lib.hid hall
    clear hall
    by_cases hlt : k < n
    · obtain ⟨g, o, x, y, rfl, hx, cx, cy⟩ := h.at_ hlt
      have HX := Lib.hid hx
      have dx := Below.cellOf hb1 (Nat.le_refl _) cx
      have dy := Below.cellOf hb1 (Nat.le_refl _) cy
      have i1 : (0 : Int) ≤ (k : Int) := by omega
      have i2 : (k : Int) < (n : Int) := by omega
      clear hx cx cy
      cases hcx : coordB x
      · have HC := Lib.hid (show Calls Tryd.prog 43 #[.int .i64 x] w1 fun e w' => e = .returned (.bool false) ∧ w1 = w' from by rw [← hcx]; exact coord_any x w1)
        clear hcx
        go_wp2_with fail
        with_reducible refine HC.out.mono ?_
        rintro e w' ⟨rfl, rfl⟩
        go_wp2_with fail
        (refine calls_named ?_; intro w5 hw5)
        have hB5 : Blk w5 (w.heap.size) 49 #[.slice none 0 0, .int .i64 0] := by rw [hw5]; exact (by repeat (first | assumption | (refine Blk.new' _ _ _ ?_; first | with_unfolding_all rfl | (simp; done)) | apply Blk.drewN | apply Blk.drew | apply Blk.alloc | (refine Blk.far_ ?_ ?_ _; rotate_left; omega)))
        have hb5 : Below w.heap.size w w5 := by rw [hw5]; exact (by repeat (first | exact Below.refl _ _ | assumption | apply Below.drew | apply below_drewN | apply Bel.alloc | (refine Bel.setCell_ ?_ ?_; rotate_left; omega) | (refine Bel.step ?_ (by assumption))))
        clear hw5
        with_reducible refine (refAt_any _ _ _ _).mono ?_
        rintro e w2 ⟨v, rfl, ⟨A4, n4, m4, rfl, h4, h5⟩, hb⟩
        have hB2 := Blk.below hB5 hb hB5.lt
        obtain ⟨c0, c1, f0, f1⟩ := hB2.two
        have hb2 : Below w.heap.size w w2 := Bel.step hb5 hb
        go_wp2_with fail
        refine bodyPost_ret (v := .agg #[.slice A4 n4 m4, .int .i64 1]) (by simp [results, Tryd.results15, go_sem, c0, c1]) rfl ?_
        exact ⟨CkRes.no (by omega), (by repeat (first | exact Below.refl _ _ | assumption | apply Below.drew | apply below_drewN | apply Bel.alloc | (refine Bel.setCell_ ?_ ?_; rotate_left; omega) | (refine Bel.step ?_ (by assumption))))⟩
      · have HC := Lib.hid (show Calls Tryd.prog 43 #[.int .i64 x] w1 fun e w' => e = .returned (.bool true) ∧ w1 = w' from by rw [← hcx]; exact coord_any x w1)
        cases hcy : coordB y
        · have HD := Lib.hid (show Calls Tryd.prog 43 #[.int .i64 y] w1 fun e w' => e = .returned (.bool false) ∧ w1 = w' from by rw [← hcy]; exact coord_any y w1)
          clear hcx hcy
          go_wp2_with fail
          with_reducible refine HC.out.mono ?_
          rintro e w' ⟨rfl, rfl⟩
          go_wp2_with fail
          with_reducible refine HD.out.mono ?_
          rintro e w' ⟨rfl, rfl⟩
          go_wp2_with fail
          (refine calls_named ?_; intro w5 hw5)
          have hB5 : Blk w5 (w.heap.size) 49 #[.slice none 0 0, .int .i64 0] := by rw [hw5]; exact (by repeat (first | assumption | (refine Blk.new' _ _ _ ?_; first | with_unfolding_all rfl | (simp; done)) | apply Blk.drewN | apply Blk.drew | apply Blk.alloc | (refine Blk.far_ ?_ ?_ _; rotate_left; omega)))
          have hb5 : Below w.heap.size w w5 := by rw [hw5]; exact (by repeat (first | exact Below.refl _ _ | assumption | apply Below.drew | apply below_drewN | apply Bel.alloc | (refine Bel.setCell_ ?_ ?_; rotate_left; omega) | (refine Bel.step ?_ (by assumption))))
          clear hw5
          with_reducible refine (refAt_any _ _ _ _).mono ?_
          rintro e w2 ⟨v, rfl, ⟨A4, n4, m4, rfl, h4, h5⟩, hb⟩
          have hB2 := Blk.below hB5 hb hB5.lt
          obtain ⟨c0, c1, f0, f1⟩ := hB2.two
          have hb2 : Below w.heap.size w w2 := Bel.step hb5 hb
          go_wp2_with fail
          refine bodyPost_ret (v := .agg #[.slice A4 n4 m4, .int .i64 1]) (by simp [results, Tryd.results15, go_sem, c0, c1]) rfl ?_
          exact ⟨CkRes.no (by omega), (by repeat (first | exact Below.refl _ _ | assumption | apply Below.drew | apply below_drewN | apply Bel.alloc | (refine Bel.setCell_ ?_ ?_; rotate_left; omega) | (refine Bel.step ?_ (by assumption))))⟩
        · have HD := Lib.hid (show Calls Tryd.prog 43 #[.int .i64 y] w1 fun e w' => e = .returned (.bool true) ∧ w1 = w' from by rw [← hcy]; exact coord_any y w1)
          have HN := Lib.hid (show near1 (x, y) = true from by simp [near1, hcx, hcy])
          clear hcx hcy
          go_wp2_with fail
          with_reducible refine HC.out.mono ?_
          rintro e w' ⟨rfl, rfl⟩
          go_wp2_with fail
          with_reducible refine HD.out.mono ?_
          rintro e w' ⟨rfl, rfl⟩
          go_wp2_with fail
          go_round
          case rel => exact ⟨k + 1, by omega, by go_num, fun j p hj hp => by
            rcases Nat.lt_or_ge j k with h1 | h1
            · exact HA.out j p h1 hp
            · obtain rfl : j = k := by omega
              rw [HX.out] at hp
              cases hp
              exact HN.out⟩
          case measure => simp [intOf]; omega
    · obtain rfl : k = n := by omega
      have HA2 := Lib.hid (show ∀ p ∈ l, near1 p = true from fun p hp => by
        obtain ⟨j, hj, e⟩ := List.getElem_of_mem hp
        exact HA.out j p (by rw [HL.out] at hj; exact hj) (by rw [List.getElem?_eq_getElem hj, e]))
      go_wp2_with fail
      go_loop [6] (fun i => ∃ q : Nat, q ≤ m ∧ i = .int .i64 q ∧ ∀ j p, j < q → E[j]? = some p → 0 ≤ p.1 ∧ p.1 < k ∧ 0 ≤ p.2 ∧ p.2 < k) (fun i => m - (intOf i).toNat)
      case atStart => exact ⟨0, Nat.zero_le _, rfl, fun j p hj => absurd hj (by omega)⟩
      case round =>
        obtain ⟨q, hq, rfl, hall⟩ := hrel
        have HE := Lib.hid hall
        clear hall
        by_cases hlt2 : q < m
        · obtain ⟨g, o, x, y, rfl, hx, cx, cy⟩ := hE.at_ hlt2
          have HX := Lib.hid hx
          have dx := Below.cellOf hb1 (Nat.le_refl _) cx
          have dy := Below.cellOf hb1 (Nat.le_refl _) cy
          have i1 : (0 : Int) ≤ (q : Int) := by omega
          have i2 : (q : Int) < (m : Int) := by omega
          clear hx cx cy
          by_cases q1 : x < 0
          ·
            go_wp2_with fail
            (refine calls_named ?_; intro w5 hw5)
            have hB5 : Blk w5 (w.heap.size) 49 #[.slice none 0 0, .int .i64 0] := by rw [hw5]; exact (by repeat (first | assumption | (refine Blk.new' _ _ _ ?_; first | with_unfolding_all rfl | (simp; done)) | apply Blk.drewN | apply Blk.drew | apply Blk.alloc | (refine Blk.far_ ?_ ?_ _; rotate_left; omega)))
            have hb5 : Below w.heap.size w w5 := by rw [hw5]; exact (by repeat (first | exact Below.refl _ _ | assumption | apply Below.drew | apply below_drewN | apply Bel.alloc | (refine Bel.setCell_ ?_ ?_; rotate_left; omega) | (refine Bel.step ?_ (by assumption))))
            clear hw5
            with_reducible refine (refAt_any _ _ _ _).mono ?_
            rintro e w2 ⟨v, rfl, ⟨A4, n4, m4, rfl, h4, h5⟩, hb⟩
            have hB2 := Blk.below hB5 hb hB5.lt
            obtain ⟨c0, c1, f0, f1⟩ := hB2.two
            have hb2 : Below w.heap.size w w2 := Bel.step hb5 hb
            go_wp2_with fail
            refine bodyPost_ret (v := .agg #[.slice A4 n4 m4, .int .i64 5]) (by simp [results, Tryd.results15, go_sem, c0, c1]) rfl ?_
            exact ⟨CkRes.no (by omega), (by repeat (first | exact Below.refl _ _ | assumption | apply Below.drew | apply below_drewN | apply Bel.alloc | (refine Bel.setCell_ ?_ ?_; rotate_left; omega) | (refine Bel.step ?_ (by assumption))))⟩
          by_cases q2 : x ≥ (k : Int)
          ·
            go_wp2_with fail
            (refine calls_named ?_; intro w5 hw5)
            have hB5 : Blk w5 (w.heap.size) 49 #[.slice none 0 0, .int .i64 0] := by rw [hw5]; exact (by repeat (first | assumption | (refine Blk.new' _ _ _ ?_; first | with_unfolding_all rfl | (simp; done)) | apply Blk.drewN | apply Blk.drew | apply Blk.alloc | (refine Blk.far_ ?_ ?_ _; rotate_left; omega)))
            have hb5 : Below w.heap.size w w5 := by rw [hw5]; exact (by repeat (first | exact Below.refl _ _ | assumption | apply Below.drew | apply below_drewN | apply Bel.alloc | (refine Bel.setCell_ ?_ ?_; rotate_left; omega) | (refine Bel.step ?_ (by assumption))))
            clear hw5
            with_reducible refine (refAt_any _ _ _ _).mono ?_
            rintro e w2 ⟨v, rfl, ⟨A4, n4, m4, rfl, h4, h5⟩, hb⟩
            have hB2 := Blk.below hB5 hb hB5.lt
            obtain ⟨c0, c1, f0, f1⟩ := hB2.two
            have hb2 : Below w.heap.size w w2 := Bel.step hb5 hb
            go_wp2_with fail
            refine bodyPost_ret (v := .agg #[.slice A4 n4 m4, .int .i64 5]) (by simp [results, Tryd.results15, go_sem, c0, c1]) rfl ?_
            exact ⟨CkRes.no (by omega), (by repeat (first | exact Below.refl _ _ | assumption | apply Below.drew | apply below_drewN | apply Bel.alloc | (refine Bel.setCell_ ?_ ?_; rotate_left; omega) | (refine Bel.step ?_ (by assumption))))⟩
          by_cases q3 : y < 0
          ·
            go_wp2_with fail
            (refine calls_named ?_; intro w5 hw5)
            have hB5 : Blk w5 (w.heap.size) 49 #[.slice none 0 0, .int .i64 0] := by rw [hw5]; exact (by repeat (first | assumption | (refine Blk.new' _ _ _ ?_; first | with_unfolding_all rfl | (simp; done)) | apply Blk.drewN | apply Blk.drew | apply Blk.alloc | (refine Blk.far_ ?_ ?_ _; rotate_left; omega)))
            have hb5 : Below w.heap.size w w5 := by rw [hw5]; exact (by repeat (first | exact Below.refl _ _ | assumption | apply Below.drew | apply below_drewN | apply Bel.alloc | (refine Bel.setCell_ ?_ ?_; rotate_left; omega) | (refine Bel.step ?_ (by assumption))))
            clear hw5
            with_reducible refine (refAt_any _ _ _ _).mono ?_
            rintro e w2 ⟨v, rfl, ⟨A4, n4, m4, rfl, h4, h5⟩, hb⟩
            have hB2 := Blk.below hB5 hb hB5.lt
            obtain ⟨c0, c1, f0, f1⟩ := hB2.two
            have hb2 : Below w.heap.size w w2 := Bel.step hb5 hb
            go_wp2_with fail
            refine bodyPost_ret (v := .agg #[.slice A4 n4 m4, .int .i64 5]) (by simp [results, Tryd.results15, go_sem, c0, c1]) rfl ?_
            exact ⟨CkRes.no (by omega), (by repeat (first | exact Below.refl _ _ | assumption | apply Below.drew | apply below_drewN | apply Bel.alloc | (refine Bel.setCell_ ?_ ?_; rotate_left; omega) | (refine Bel.step ?_ (by assumption))))⟩
          by_cases q4 : y ≥ (k : Int)
          ·
            go_wp2_with fail
            (refine calls_named ?_; intro w5 hw5)
            have hB5 : Blk w5 (w.heap.size) 49 #[.slice none 0 0, .int .i64 0] := by rw [hw5]; exact (by repeat (first | assumption | (refine Blk.new' _ _ _ ?_; first | with_unfolding_all rfl | (simp; done)) | apply Blk.drewN | apply Blk.drew | apply Blk.alloc | (refine Blk.far_ ?_ ?_ _; rotate_left; omega)))
            have hb5 : Below w.heap.size w w5 := by rw [hw5]; exact (by repeat (first | exact Below.refl _ _ | assumption | apply Below.drew | apply below_drewN | apply Bel.alloc | (refine Bel.setCell_ ?_ ?_; rotate_left; omega) | (refine Bel.step ?_ (by assumption))))
            clear hw5
            with_reducible refine (refAt_any _ _ _ _).mono ?_
            rintro e w2 ⟨v, rfl, ⟨A4, n4, m4, rfl, h4, h5⟩, hb⟩
            have hB2 := Blk.below hB5 hb hB5.lt
            obtain ⟨c0, c1, f0, f1⟩ := hB2.two
            have hb2 : Below w.heap.size w w2 := Bel.step hb5 hb
            go_wp2_with fail
            refine bodyPost_ret (v := .agg #[.slice A4 n4 m4, .int .i64 5]) (by simp [results, Tryd.results15, go_sem, c0, c1]) rfl ?_
            exact ⟨CkRes.no (by omega), (by repeat (first | exact Below.refl _ _ | assumption | apply Below.drew | apply below_drewN | apply Bel.alloc | (refine Bel.setCell_ ?_ ?_; rotate_left; omega) | (refine Bel.step ?_ (by assumption))))⟩
          go_wp2_with fail
          go_round
          case rel => exact ⟨q + 1, by omega, by go_num, fun j p hj hp => by
            rcases Nat.lt_or_ge j q with h1 | h1
            · exact HE.out j p h1 hp
            · obtain rfl : j = q := by omega
              rw [HX.out] at hp
              cases hp
              exact ⟨by omega, by omega, by omega, by omega⟩⟩
          case measure => simp [intOf]; omega
        · obtain rfl : q = m := by omega
          have HE2 := Lib.hid (show Ends k E from fun p hp => by
            obtain ⟨j, hj, e⟩ := List.getElem_of_mem hp
            exact HE.out j p (by rw [HM.out] at hj; exact hj) (by rw [List.getElem?_eq_getElem hj, e]))
          have r0 := hR1.two
          obtain ⟨r0, r1, r2, r3⟩ := r0
          go_wp2_with fail
          obtain ⟨W9, hW9⟩ : ∃ W9, W9 = (w1.setCell ⟨w.heap.size, 0, none⟩ (.slice none 0 0)).setCell ⟨w.heap.size, 1, none⟩ (.int .i64 0) := ⟨_, rfl⟩
          rw [← hW9]
          have hB9 : Blk W9 w.heap.size 49 #[.slice none 0 0, .int .i64 0] := by rw [hW9]; exact (hR1.set_ 0 _).set_ 1 _
          have hb9 : Below w.heap.size w W9 := by rw [hW9]; exact (by repeat (first | exact Below.refl _ _ | assumption | apply Below.drew | apply below_drewN | apply Bel.alloc | (refine Bel.setCell_ ?_ ?_; rotate_left; omega) | (refine Bel.step ?_ (by assumption))))
          clear hW9 r0 r1 r2 r3
          obtain ⟨r0, r1, r2, r3⟩ := hB9.two
          refine bodyPost_ret (v := .agg #[.slice none 0 0, .int .i64 0]) (by simp [results, Tryd.results15, go_sem, r0, r1]) rfl ?_
          exact ⟨⟨none, 0, 0, 0, rfl, .inl ⟨rfl, by rw [HL.out]; omega, HA2.out, by rw [HL.out]; exact HE2.out⟩⟩, hb9⟩
end Go.Proofs.YtjphjbchhhembaaDoor
