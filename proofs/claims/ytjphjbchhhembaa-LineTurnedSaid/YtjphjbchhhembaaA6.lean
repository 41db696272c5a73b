/- line.Order. -/
import Derived.Test.YtjphjbchhhembaaA5
namespace Go.Proofs.Ytjphjbchhhembaa
open Go.RowKit

/-- l's first k, then noughts. -/
def fillTo (l : List Int) (k n : Nat) : List Int := l.take k ++ List.replicate (n - k) 0
theorem fillTo_zero (l : List Int) (n : Nat) : fillTo l 0 n = List.replicate n 0 := by simp [fillTo]
theorem fillTo_all {l : List Int} {n : Nat} (h : l.length = n) : fillTo l n n = l := by simp [fillTo, ← h]
theorem fillTo_at {l : List Int} {k n : Nat} (h : l.length = n) (hk : k < n) : (fillTo l k n)[k]? = some 0 := by
  unfold fillTo
  rw [List.getElem?_append_right (by simp; omega), List.getElem?_replicate, if_pos (by simp; omega)]
theorem fillTo_set {l : List Int} {k n : Nat} {x : Int} (h : l.length = n) (hk : k < n) (hx : l[k]? = some x) : (fillTo l k n).set k x = fillTo l (k + 1) n := by
  unfold fillTo
  have hl : (l.take k).length = k := by simp; omega
  rw [List.set_append_right _ _ (by omega), hl, Nat.sub_self, List.take_add_one, hx, show n - k = (n - (k + 1)) + 1 by omega, List.replicate_succ]
  simp
theorem fillTo_len {l : List Int} {k n : Nat} (h : l.length = n) (hk : k ≤ n) : (fillTo l k n).length = n := by simp [fillTo]; omega

/-- The keys of the points; the places by the keys. -/
def keysOf (l : List (Int × Int)) (d : Int) : List Int := l.map (key · d)
def order (l : List (Int × Int)) (d : Int) : List Int := sortIdx (cmpK (keysOf l d)) l.length

set_option maxHeartbeats 1000000 in
set_option maxRecDepth 100000 in
theorem order_any (A : Option Addr) (n c : Nat) (l : List (Int × Int)) (d : Int) (w : World) (h : RdP w A n l) (hn : n ≤ 1000000000) (hd : 0 ≤ d) (hd' : d ≤ 3)
    (hb : ∀ p ∈ l, -1000000000000 ≤ p.1 ∧ p.1 ≤ 1000000000000 ∧ -1000000000000 ≤ p.2 ∧ p.2 ≤ 1000000000000) :
    Calls Try.prog 8 #[.slice A n c, .int .i64 d] w fun e w' => ∃ A', e = .returned (.slice A' n n) ∧ RdI w' A' n (order l d) ∧ Below w.heap.size w w' := by
  have hl : l.length = n := h.1
  have hmk := fun W => run_make1 (P := Try.prog) 26 3 (.int .i64 0) 8 Try.info3 Try.underlying26 rfl n (by omega) (by omega) .i64 .i64 W
  have HL := Lib.hid hl; clear hl
  have HB := Lib.hid hb; clear hb
  go_enter Try.func8, Try.ntmps8
  go_wp2
  go_loopw [17] (fun i W => ∃ k : Nat, k ≤ n ∧ i = .int .i64 k ∧ Blk W w.heap.size 3 (ints (fillTo (iota n) k n)) ∧ Blk W (w.heap.size + 1) 3 (ints (fillTo (keysOf l d) k n)) ∧
      Blk W (w.heap.size + 1 + 1) 26 #[.slice (some ⟨w.heap.size + 1, 0, none⟩) n n] ∧ Below w.heap.size w W) (fun i _ => n - (intOf i).toNat)
  case atStart =>
    refine ⟨0, Nat.zero_le _, rfl, ?_, ?_, ?_, ?_⟩
    · rw [fillTo_zero, ← zeros_int]; exact ((Blk.new w _ _).alloc _).alloc _
    · rw [fillTo_zero, ← zeros_int]; exact (Blk.new' (w.alloc _) _ _ (by simp)).alloc _
    · exact Blk.new' ((w.alloc _).alloc _) _ _ (by simp)
    · exact (by repeat (first | exact Below.refl _ _ | assumption | apply Below.drew | apply below_drewN | apply Bel.alloc | (refine Bel.setCell_ ?_ ?_; rotate_left; omega) | (refine Bel.step ?_ (by assumption))))
  case round =>
    obtain ⟨k, hk, rfl, h1, h2, h3, hbl⟩ := hrel
    by_cases hlt : k < n
    · obtain ⟨b, o, x, y, rfl, hx, hcx, hcy⟩ := (h.below hbl).at_ hlt
      have HX := Lib.hid hx; clear hx
      have hkey : (keysOf l d)[k]? = some (key (x, y) d) := by simp [keysOf, HX.out]
      have hbd := HB.out _ (List.mem_of_getElem? HX.out)
      have c1 : ∀ o, (wr.alloc o).cell? ⟨w.heap.size, k, none⟩ = some (.int .i64 0) := fun o => (h1.alloc o).cellI (fillTo_at (by simp [iota]) hlt)
      have f1 : ∀ o, (wr.alloc o).frozen? ⟨w.heap.size, k, none⟩ = false := fun o => (h1.alloc o).frozen k
      have hs : w.heap.size + 2 < wr.heap.size := h3.lt
      have HK := Lib.hid hkey; clear hkey
      go_wp2
      (refine wp_named ?_; intro W hW)
      have g1 : Blk W w.heap.size 3 (ints (fillTo (iota n) (k + 1) n)) := by rw [hW]; exact (h1.alloc _).setI (fillTo_set (by simp [iota]) hlt (by simp [iota, hlt]))
      have g2 : Blk W (w.heap.size + 1) 3 (ints (fillTo (keysOf l d) k n)) := by rw [hW]; exact (by repeat (first | assumption | apply Blk.drewN | apply Blk.drew | apply Blk.alloc | (refine Blk.far_ ?_ ?_ _; rotate_left; omega)))
      have g3 : Blk W (w.heap.size + 1 + 1) 26 #[.slice (some ⟨w.heap.size + 1, 0, none⟩) n n] := by rw [hW]; exact (by repeat (first | assumption | apply Blk.drewN | apply Blk.drew | apply Blk.alloc | (refine Blk.far_ ?_ ?_ _; rotate_left; omega)))
      have g4 : Blk W wr.heap.size 30 #[.int .i64 x, .int .i64 y] := by rw [hW]; exact (Blk.new _ _ _).far (by simp; omega) _
      have g5 : Below w.heap.size w W := by
        have hz := hbl.size
        rw [hW]; exact (hbl.alloc hz _).setCell (Nat.le_refl _) _
      clear h1 h2 h3 hW c1 f1 hcx hcy
      have i1 : (0 : Int) ≤ (k : Int) := by omega
      have i2 : (k : Int) < (n : Int) := by omega
      have c2 : ∀ o, (W.alloc o).cell? ⟨w.heap.size + 1, k, none⟩ = some (.int .i64 0) := fun o => (g2.alloc o).cellI (fillTo_at (by simp [keysOf, HL.out]) hlt)
      have f2 : ∀ o, (W.alloc o).frozen? ⟨w.heap.size + 1, k, none⟩ = false := fun o => (g2.alloc o).frozen k
      have s1 : W.cell? ⟨w.heap.size + 1 + 1, 0, none⟩ = some (.slice (some ⟨w.heap.size + 1, 0, none⟩) n n) := g3.cell 0
      have s2 : W.cell? ⟨wr.heap.size, 0, none⟩ = some (.int .i64 x) := g4.cell 0
      have s3 : W.cell? ⟨wr.heap.size, 1, none⟩ = some (.int .i64 y) := g4.cell 1
      generalize hkk : key (x, y) d = kk at HK
      have HKK := Lib.hid hkk; clear hkk
      have hC : ∀ W', Calls Try.prog 10 #[.agg #[.int .i64 x, .int .i64 y], .int .i64 d] W' fun e w' => e = .returned (.int .i64 kk) ∧ ∃ q, w' = (W'.alloc (.cells #[.int .i64 x, .int .i64 y] 30)).drewN q := fun W' => by
        rw [← HKK.out]; exact key_any x y d W' (by omega) (by omega) (by omega) (by omega) hd hd'
      have HC := Lib.hid hC; clear hC
      go_region_held3 (fun V => V.cell? ⟨w.heap.size + 1 + 1, 0, none⟩ = some (.slice (some ⟨w.heap.size + 1, 0, none⟩) n n) ∧ V.cell? ⟨wr.heap.size, 0, none⟩ = some (.int .i64 x) ∧ V.cell? ⟨wr.heap.size, 1, none⟩ = some (.int .i64 y))
        (first | exact ⟨s1, s2, s3⟩ | exact ⟨(show Blk _ _ 26 #[.slice (some ⟨w.heap.size + 1, 0, none⟩) n n] from (by repeat (first | assumption | apply Blk.drewN | apply Blk.drew | apply Blk.alloc | (refine Blk.far_ ?_ ?_ _; rotate_left; omega)))).cell 0, (show Blk _ _ 30 #[.int .i64 x, .int .i64 y] from (by repeat (first | assumption | apply Blk.drewN | apply Blk.drew | apply Blk.alloc | (refine Blk.far_ ?_ ?_ _; rotate_left; omega)))).cell 0, (show Blk _ _ 30 #[.int .i64 x, .int .i64 y] from (by repeat (first | assumption | apply Blk.drewN | apply Blk.drew | apply Blk.alloc | (refine Blk.far_ ?_ ?_ _; rotate_left; omega)))).cell 1⟩)
        (first | (go_at_call 10; (with_reducible refine (HC.out _).mono ?_); rintro e w' ⟨rfl, q, rfl⟩))
      clear c2 f2 s1 s2 s3
      go_wp2
      go_roundw
      case rel =>
        refine ⟨k + 1, by omega, by go_num, (by repeat (first | assumption | apply Blk.drewN | apply Blk.drew | apply Blk.alloc | (refine Blk.far_ ?_ ?_ _; rotate_left; omega))), ?_, (by repeat (first | assumption | apply Blk.drewN | apply Blk.drew | apply Blk.alloc | (refine Blk.far_ ?_ ?_ _; rotate_left; omega))), ?_⟩
        · exact Blk.setI (by repeat (first | assumption | apply Blk.drewN | apply Blk.drew | apply Blk.alloc | (refine Blk.far_ ?_ ?_ _; rotate_left; omega))) (fillTo_set (by simp [keysOf, HL.out]) hlt HK.out)
        · have := g5.size
          exact (by repeat (first | exact Below.refl _ _ | assumption | apply Below.drew | apply below_drewN | apply Bel.alloc | (refine Bel.setCell_ ?_ ?_; rotate_left; omega) | (refine Bel.step ?_ (by assumption))))
      case measure => simp [intOf]; omega
    · obtain rfl : k = n := by omega
      rw [fillTo_all (by simp [iota])] at h1
      rw [fillTo_all (by simp [keysOf, HL.out])] at h2
      by_cases h0 : k = 0
      · subst h0
        have hS := fun W => AnyF.slices_SortFunc_none (P := Try.prog) (ρ := Try.sortInt_ren) { Try.sortInt with } (some ⟨w.heap.size, 0, none⟩) 0 (.func (.func 18) #[] #[.pointer (some ⟨w.heap.size + 1 + 1, 0, none⟩)]) W
        have hS' : ∀ W, Calls Try.prog 17 _ W _ := hS
        have HS := Lib.hid hS'; clear hS hS'
        go_wp2_with (go_at_call 17; (with_reducible refine (HS.out _).mono ?_); rintro e w' ⟨rfl, rfl⟩)
        go_ret
        have hlz : l = [] := List.eq_nil_of_length_eq_zero HL.out
        exact ⟨_, rfl, by rw [hlz]; exact ⟨by simp [order, sortIdx], fun i x hx => by simp [order, sortIdx] at hx⟩, hbl⟩
      · have HH := Lib.hid (sortPlaces #[.pointer (some ⟨w.heap.size + 1 + 1, 0, none⟩)] (cmpK (keysOf l d)) k k w.heap.size (by omega) (by omega) wr h1
          (fun x _ => by rw [cmpK_neg]; omega) (fun x y z _ _ _ h1 h2 => by rw [cmpK_neg] at *; omega) (fun x y _ _ h1 h2 => by rw [cmpK_neg] at *; omega)
          (fun W x y hx hy hg => by
            have hz := h3.lt
            have hb2 : Blk W (w.heap.size + 1) 3 (ints (keysOf l d)) := (hg.block _ (by omega) (by intro e; injection e; omega)).trans h2
            have hb3 : Blk W (w.heap.size + 1 + 1) 26 #[.slice (some ⟨w.heap.size + 1, 0, none⟩) k k] := (hg.block _ (by omega) (by intro e; injection e; omega)).trans h3
            exact order1_any (w.heap.size + 1 + 1) (w.heap.size + 1) k k (keysOf l d) x y hx hy (by simp [keysOf, HL.out]) W (hb3.cell 0) (hb2.rdI (by simp [keysOf, HL.out]))))
        go_wp2_with (go_at_call 17; (with_reducible refine (HH.out).mono ?_); rintro e w' ⟨rfl, hr, hg⟩)
        go_ret
        have hrd : RdI w' (some ⟨w.heap.size, 0, none⟩) k (order l d) := by
          have : order l d = sortIdx (cmpK (keysOf l d)) k := by unfold order; rw [HL.out]
          rw [this]
          exact hr.rdI (by simp [sortIdx])
        exact ⟨_, rfl, hrd, hbl.grown hg hbl.size (fun j hj => by cases hj; exact Nat.le_refl _)⟩
end Go.Proofs.Ytjphjbchhhembaa
