/- flow.sides, walked. -/
import Derived.Test.YtjphjbchhhembaaDoorFl5
namespace Go.Proofs.YtjphjbchhhembaaDoor
open Go.RowKit

attribute [local go_sem ↓] Go.wp_at_zero Go.wp_at_succ

theorem infoBool : (Tryd.prog.info? 4).map (fun i => (i.zero, i.size, i.bytes)) = some (some (.bool false), 1, 1) := by kernel_rfl
theorem run_makeB (n : Nat) (hn : n ≤ 1000000000) (W : World) : (Instr.makeSlice 54 (.int .i64 (n : Int)) (.int .i64 (n : Int))).run Tryd.prog W = .ok (.slice (some ⟨W.heap.size, 0, none⟩) n n) (W.alloc (.cells (zeros (.bool false) n) 4)) :=
  run_make1 (P := Tryd.prog) 54 4 (.bool false) 1 infoBool Tryd.underlying54 rfl n (by omega) (by omega) .i64 .i64 W
def fillP (p : Int → Bool) (d : List Int) (n k : Nat) : List Bool := (d.take k).map p ++ List.replicate (n - k) false
theorem fillP_zero (p : Int → Bool) (d : List Int) (n : Nat) : bools (fillP p d n 0) = zeros (.bool false) n := by simp [fillP, bools, zeros]
theorem fillP_next {p : Int → Bool} {d : List Int} {n k : Nat} {x : Int} (h : d[k]? = some x) (hk : k < n) : (fillP p d n k).set k (p x) = fillP p d n (k + 1) := by
  have hlt := (List.getElem?_eq_some_iff.1 h).1
  have e := (List.getElem?_eq_some_iff.1 h).2
  have hl : ((d.take k).map p).length = k := by simp; omega
  unfold fillP
  rw [List.set_append_right _ _ (by omega), hl, Nat.sub_self]
  obtain ⟨m, hm⟩ : ∃ m, n - k = m + 1 := ⟨n - k - 1, by omega⟩
  rw [hm, show n - (k + 1) = m by omega, List.replicate_succ, List.set_cons_zero, List.take_succ_eq_append_getElem hlt, e, List.map_append]
  simp
theorem fillP_all {p : Int → Bool} {d : List Int} {n : Nat} (h : d.length = n) : fillP p d n n = d.map p := by
  unfold fillP
  rw [List.take_of_length_le (by omega)]
  simp
theorem fillP_len {p : Int → Bool} {d : List Int} {n k : Nat} (h : d.length = n) (hk : k ≤ n) : (fillP p d n k).length = n := by
  unfold fillP
  simp
  omega
def isNear (x : Int) : Bool := decide (0 ≤ x)
def isFar (x : Int) : Bool := decide (x < 0)

set_option maxHeartbeats 4000000 in
theorem sides_any (AT AF AS AD : Option Addr) (n ct m cf ks cs kd cd : Nat) (ls : List (List Lnk)) (f : List Int) (s t : List Nat) (w : World) (h : RdN w AT n ls) (hf : RdI w AF m f) (hs : RdI w AS ks (nats s)) (ht : RdI w AD kd (nats t)) (hsn : ∀ v ∈ s, v < n) (htn : ∀ v ∈ t, v < n) (hk : LkIn n m ls) (hn : n ≤ 1000000) (hks : ks ≤ 1000000) (hkd : kd ≤ 1000000) :
    Calls Tryd.prog 103 #[.slice AT n ct, .slice AF m cf, .slice AS ks cs, .slice AD kd cd] w fun e w' => ∃ (g1 g2 : Nat) (d1 d2 : List Int), e = .returned (.tuple #[.slice (some ⟨g1, 0, none⟩) n n, .slice (some ⟨g2, 0, none⟩) n n]) ∧ RdB w' (some ⟨g1, 0, none⟩) n (d1.map isNear) ∧ RdB w' (some ⟨g2, 0, none⟩) n (d2.map isFar) ∧ Dep n ls f 1 s d1 ∧ Dep n ls f (-1) t d2 ∧ Below w.heap.size w w' ∧ w.heap.size ≤ g1 ∧ w.heap.size ≤ g2 := by
  have hmk := run_makeB n (by omega)
  have HD1 := Lib.hid (show ∀ V, Below w.heap.size w V → Calls Tryd.prog 122 #[.slice AT n ct, .slice AF m cf, .slice AS ks cs, .int .i64 1] V fun e w' => ∃ d, e = .returned (.slice (some ⟨V.heap.size, 0, none⟩) n n) ∧ RdI w' (some ⟨V.heap.size, 0, none⟩) n d ∧ Blk w' V.heap.size 3 (ints d) ∧ Dep n ls f 1 s d ∧ Below V.heap.size V w' from
    fun V hb => depths_any AT AF AS n ct m cf ks cs 1 ls f s V (h.below hb) (hf.below hb) (hs.below hb) hsn (.inl rfl) (fun a l k h1 h2 => ⟨((hk a l h1).2 k h2).2.1, ((hk a l h1).2 k h2).2.2.1, ((hk a l h1).2 k h2).2.2.2⟩) hn (fun a l h1 => (hk a l h1).1) hks)
  have HD2 := Lib.hid (show ∀ V, Below w.heap.size w V → Calls Tryd.prog 122 #[.slice AT n ct, .slice AF m cf, .slice AD kd cd, .int .i64 (-1)] V fun e w' => ∃ d, e = .returned (.slice (some ⟨V.heap.size, 0, none⟩) n n) ∧ RdI w' (some ⟨V.heap.size, 0, none⟩) n d ∧ Blk w' V.heap.size 3 (ints d) ∧ Dep n ls f (-1) t d ∧ Below V.heap.size V w' from
    fun V hb => depths_any AT AF AD n ct m cf kd cd (-1) ls f t V (h.below hb) (hf.below hb) (ht.below hb) htn (.inr rfl) (fun a l k h1 h2 => ⟨((hk a l h1).2 k h2).2.1, ((hk a l h1).2 k h2).2.2.1, ((hk a l h1).2 k h2).2.2.2⟩) hn (fun a l h1 => (hk a l h1).1) hkd)
  clear h hf hs ht hsn htn hk
  go_enter Tryd.func103, Tryd.ntmps103
  go_wp2_with fail
  (refine calls_named ?_; intro w1 hw1)
  have hb1 : Below w.heap.size w w1 := by rw [hw1]; exact (by repeat (first | exact Below.refl _ _ | assumption | apply Below.drew | apply below_drewN | apply Bel.alloc | (refine Bel.setCell_ ?_ ?_; rotate_left; omega) | (refine Bel.step ?_ (by assumption))))
  have hB1 : Blk w1 w.heap.size 4 (zeros (.bool false) n) := by rw [hw1]; exact Blk.new _ _ _
  clear hw1
  with_reducible refine (HD1.out _ hb1).mono ?_
  rintro e w2 ⟨d1, rfl, hrd1, _, hdep1, hb2⟩
  have hbw2 : Below w.heap.size w w2 := Bel.step hb1 hb2
  have hB2 := hB1.below hb2 hB1.lt
  rw [← fillP_zero isNear d1 n] at hB2
  have HDEP1 := Lib.hid hdep1
  have hl1 := hdep1.len
  have hlt1 := hB1.lt
  clear hB1 hb1 hb2 hdep1 HD1
  go_wp2_with fail
  go_loopw [22] (fun i W => Below w.heap.size w W ∧ ∃ k : Nat, k ≤ n ∧ i = .int .i64 k ∧ Blk W w.heap.size 4 (bools (fillP isNear d1 n k)) ∧ RdI W (some ⟨w1.heap.size, 0, none⟩) n d1) (fun i _ => n - (intOf i).toNat)
  case atStart => exact ⟨hbw2, 0, Nat.zero_le _, rfl, hB2, hrd1⟩
  case round =>
    clear hbw2 hB2 hrd1
    obtain ⟨hbl, k, hk, rfl, hB, hrd⟩ := hrel
    by_cases hlt : k < n
    · obtain ⟨b, o, x, e, hx, hc⟩ := hrd.at_ hlt
      cases e
      rw [Nat.zero_add] at hc
      obtain ⟨z, hz⟩ : ∃ z, (fillP isNear d1 n k)[k]? = some z := ⟨_, List.getElem?_eq_getElem (by rw [fillP_len hl1 hk]; exact hlt)⟩
      have c1 := hB.cellB hz
      have c1f := hB.frozen k
      have HN := Lib.hid (hB.setB (fillP_next (p := isNear) hx hlt))
      have HRD := Lib.hid (hrd.grown (grownBy_set wr w.heap.size k (.bool (isNear x))) (fun e => by injection e with e; simp only at e; omega))
      have hbn : Below w.heap.size w (wr.setCell ⟨w.heap.size, k, none⟩ (.bool (isNear x))) := hbl.setCell (Nat.le_refl _) _
      have i1 : (0 : Int) ≤ (k : Int) := by omega
      have i2 : (k : Int) < (n : Int) := by omega
      clear hB hrd hbl hx hz
      go_wp2_with fail
      go_roundw
      case rel => exact ⟨hbn, k + 1, by omega, by go_num, HN.out, HRD.out⟩
      case measure => simp [intOf]; omega
    · obtain ⟨w9, hw9⟩ : ∃ w9, w9 = wr := ⟨_, rfl⟩
      subst hw9
      obtain rfl : n = k := by omega
      rw [fillP_all hl1] at hB
      have HRB := Lib.hid (hB.rdB (n := n) (by simp [hl1]))
      have hwsz := hB.lt
      have hw9s := hbl.size
      clear hB hrd
      go_wp2_with fail
      (refine calls_named ?_; intro w3 hw3)
      have hb3 : Below w9.heap.size w9 w3 := by rw [hw3]; exact (by repeat (first | exact Below.refl _ _ | assumption | apply Below.drew | apply below_drewN | apply Bel.alloc | (refine Bel.setCell_ ?_ ?_; rotate_left; omega) | (refine Bel.step ?_ (by assumption))))
      have hB3 : Blk w3 w9.heap.size 4 (zeros (.bool false) n) := by rw [hw3]; exact Blk.new _ _ _
      clear hw3
      have hbw3 : Below w.heap.size w w3 := Bel.step hbl hb3
      with_reducible refine (HD2.out _ hbw3).mono ?_
      rintro e w4 ⟨d2, rfl, hrd2, _, hdep2, hb4⟩
      have hb34 : Below w9.heap.size w9 w4 := Bel.step hb3 hb4
      have hB4 := hB3.below hb4 hB3.lt
      rw [← fillP_zero isFar d2 n] at hB4
      have HDEP2 := Lib.hid hdep2
      have hl2 := hdep2.len
      have hlt3 := hB3.lt
      clear hB3 hb3 hb4 hdep2 HD2 hbw3
      go_wp2_with fail
      go_loopw [41] (fun i W => Below w9.heap.size w9 W ∧ ∃ k : Nat, k ≤ n ∧ i = .int .i64 k ∧ Blk W w9.heap.size 4 (bools (fillP isFar d2 n k)) ∧ RdI W (some ⟨w3.heap.size, 0, none⟩) n d2) (fun i _ => n - (intOf i).toNat)
      case atStart => exact ⟨hb34, 0, Nat.zero_le _, rfl, hB4, hrd2⟩
      case round =>
        clear hb34 hB4 hrd2
        obtain ⟨hbl2, k, hk, rfl, hB, hrd⟩ := hrel
        by_cases hlt : k < n
        · obtain ⟨b, o, x, e, hx, hc⟩ := hrd.at_ hlt
          cases e
          rw [Nat.zero_add] at hc
          obtain ⟨z, hz⟩ : ∃ z, (fillP isFar d2 n k)[k]? = some z := ⟨_, List.getElem?_eq_getElem (by rw [fillP_len hl2 hk]; exact hlt)⟩
          have c1 := hB.cellB hz
          have c1f := hB.frozen k
          have HN := Lib.hid (hB.setB (fillP_next (p := isFar) hx hlt))
          have HRD := Lib.hid (hrd.grown (grownBy_set wr w9.heap.size k (.bool (isFar x))) (fun e => by injection e with e; simp only at e; omega))
          have hbn : Below w9.heap.size w9 (wr.setCell ⟨w9.heap.size, k, none⟩ (.bool (isFar x))) := hbl2.setCell (Nat.le_refl _) _
          have i1 : (0 : Int) ≤ (k : Int) := by omega
          have i2 : (k : Int) < (n : Int) := by omega
          clear hB hrd hbl2 hx hz
          go_wp2_with fail
          go_roundw
          case rel => exact ⟨hbn, k + 1, by omega, by go_num, HN.out, HRD.out⟩
          case measure => simp [intOf]; omega
        · obtain rfl : n = k := by omega
          rw [fillP_all hl2] at hB
          have hB' := hB.rdB (n := n) (by simp [hl2])
          have HRB1 := Lib.hid (HRB.out.below hbl2)
          have HBB := Lib.hid (Bel.step hbl hbl2)
          have HRB2 := Lib.hid hB'
          clear hB hB' hrd hbl2
          go_wp2_with fail
          go_ret2
          exact ⟨w.heap.size, w9.heap.size, d1, d2, rfl, HRB1.out, HRB2.out, HDEP1.out, HDEP2.out, HBB.out, Nat.le_refl _, hw9s⟩
end Go.Proofs.YtjphjbchhhembaaDoor
