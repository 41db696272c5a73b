/- Parts of the proof: QPa, NeB, Ls. -/
import Derived.Test.YtpffhoefmcpniaaGreatDoorW1
import Derived.Test.YtpffhoefmcpniaaGreatDoorW15
import Derived.Test.YtpffhoefmcpniaaGreatDoorW17
import Derived.Test.YtpffhoefmcpniaaGreatDoorW23
import Derived.Test.YtpffhoefmcpniaaGreatDoorW44
/- Parts: numbers, row, Count. -/
namespace Go.Proofs.YtpffhoefmcpniaaGreatDoor
open Go.RowKit

attribute [local go_sem ↓] Go.wp_at_zero Go.wp_at_succ

theorem numbers_ok (Q : Option Addr) (L cq i : Nat) (ls : List (List Int)) (l : List Int) (w : World) (h : RdT w Q L ls) (hl : ls[i]? = some l) (hL : L ≤ 1000000) :
    Calls Tryz.prog 45 #[.agg #[.slice Q L cq], .int .i64 ((i : Int) + 1)] w fun e w' => ∃ A n c, e = .returned (.slice A n c) ∧ RdI w A n l ∧ n ≤ c ∧ c ≤ 9223372036854775807 ∧ Below w.heap.size w w' := by
  have hi : i < L := by rw [← h.1]; exact (List.getElem?_eq_some_iff.1 hl).1
  obtain ⟨b, o, A, n, c, l', rfl, hl', hc, hr, q1, q2⟩ := h.at_ hi
  rw [hl] at hl'
  cases hl'
  have HR := Lib.hid hr
  have i1 : (0 : Int) ≤ (i : Int) := by omega
  have i2 : (i : Int) < (L : Int) := by omega
  have i3 : ¬ ((i : Int) + 1 < 1) := by omega
  have i4 : ¬ ((i : Int) + 1 > (L : Int)) := by omega
  have i5 : (i : Int) + 1 - 1 = (i : Int) := by omega
  have hca := fun ob => Below.cellOf (show Below w.heap.size w (w.alloc ob) from bELt) (Nat.le_refl _) hc
  clear h hl hr hc
  go_enter Tryz.func45, Tryz.ntmps45
  go_wp2
  go_ret
  exact ⟨_, _, _, rfl, HR.out, q1, q2, bELt⟩
theorem mostN_take_le (l : List Int) (k : Nat) : mostN (l.take k) ≤ mostN l := by
  by_cases h0 : 0 < mostN (l.take k)
  · obtain ⟨x, hx, e⟩ := mostN_mem h0
    have := lt_mostN (List.mem_of_mem_take hx)
    omega
  · have := mostN_nonneg l
    omega
theorem mostN_next {l : List Int} {k : Nat} {x : Int} (h : l[k]? = some x) : mostN (l.take (k + 1)) = max (mostN (l.take k)) (x + 1) := by
  rw [List.take_succ_eq_append_getElem (List.getElem?_eq_some_iff.1 h).1, (List.getElem?_eq_some_iff.1 h).2, mostN_app]
set_option maxHeartbeats 1000000 in
theorem count_ok (Q : Option Addr) (L cq i : Nat) (ls : List (List Int)) (l : List Int) (w : World) (h : RdT w Q L ls) (hl : ls[i]? = some l) (hL : L ≤ 1000000) (hb : ∀ x ∈ l, 0 ≤ x ∧ x ≤ 1000000) :
    Calls Tryz.prog 22 #[.agg #[.slice Q L cq], .int .i64 ((i : Int) + 1)] w fun e w' => e = .returned (.int .i64 (mostN l)) ∧ Below w.heap.size w w' := by
  have HN := Lib.hid (show ∀ V, Below w.heap.size w V → Calls Tryz.prog 45 #[.agg #[.slice Q L cq], .int .i64 ((i : Int) + 1)] V fun e w' => ∃ A n c, e = .returned (.slice A n c) ∧ RdI V A n l ∧ n ≤ c ∧ c ≤ 9223372036854775807 ∧ Below V.heap.size V w' from fun V hV => numbers_ok Q L cq i ls l V (h.below hV) hl hL)
  have HB := Lib.hid hb
  clear h hl hb
  go_enter Tryz.func22, Tryz.ntmps22
  go_wp2_with fail
  (refine calls_named ?_; intro w1 hw1)
  have hb1 : Below w.heap.size w w1 := by rw [hw1]; exact bELt
  clear hw1
  with_reducible refine (HN.out w1 hb1).mono ?_
  rintro e w2 ⟨A, n, c, rfl, hr, q1, q2, hb2⟩
  have hr2 := hr.below hb2
  have HLEN := Lib.hid hr.1
  have hbw2 := Bel.step hb1 hb2
  clear hr
  go_wp2_with fail
  go_loop [5, 12] (fun m q => ∃ k : Nat, k ≤ n ∧ q = .int .i64 k ∧ m = .int .i64 (mostN (l.take k))) (fun _ q => n - (intOf q).toNat)
  case atStart => exact ⟨0, Nat.zero_le _, rfl, rfl⟩
  case round =>
    obtain ⟨k, hk, rfl, rfl⟩ := hrel
    by_cases hlt : k < n
    · obtain ⟨b, o, x, rfl, hx, hc⟩ := hr2.at_ hlt
      have hxb := HB.out x (List.mem_of_getElem? hx)
      have HNX := Lib.hid (mostN_next hx)
      have i1 : (0 : Int) ≤ (k : Int) := by omega
      have i2 : (k : Int) < (n : Int) := by omega
      clear hx
      generalize mostN (l.take k) = m at *
      by_cases hge : x ≥ m
      · go_wp2_with fail
        go_round
        case rel => exact ⟨k + 1, by omega, by go_num, by rw [HNX.out, show max m (x + 1) = x + 1 by omega]⟩
        case measure => simp [intOf]; omega
      · go_wp2_with fail
        go_round
        case rel => exact ⟨k + 1, by omega, by go_num, by rw [HNX.out, show max m (x + 1) = m by omega]⟩
        case measure => simp [intOf]; omega
    · obtain rfl : n = k := by omega
      have HE := Lib.hid (show mostN (l.take n) = mostN l by rw [List.take_of_length_le (by rw [HLEN.out]; exact Nat.le_refl _)])
      go_wp2
      go_ret
      exact ⟨ret_int HE.out, hbw2⟩
end Go.Proofs.YtpffhoefmcpniaaGreatDoor

/- nest.Build at bounds that do not hold; part.Of. -/
namespace Go.Proofs.YtpffhoefmcpniaaGreatDoor
open Go.RowKit

attribute [local go_sem ↓] Go.wp_at_zero Go.wp_at_succ

/-- A told error is none of a part's cells. -/
theorem chain_set {W : World} {q m n : Nat} {t : TypeId} {D : Option Addr} {u : Value} (hB : Blk W q t #[.slice D m n]) : ∀ {ps : List (ByteArray × Int)} {v : Value} {c : Int}, Chain W v ps c → Chain (W.setCell ⟨q, 0, none⟩ u) v ps c
  | [], _, _, h => h
  | _ :: _, _, _, h => by
    obtain ⟨b, o, x, h1, h2, h3, h4, h5⟩ := h
    have hne : b ≠ q := fun e => by
      subst e
      rw [hB.cell] at h2
      rcases o with _ | o
      · simp at h2
      · simp at h2
    have hk := Below.heap_setCell W ⟨q, 0, none⟩ u b hne
    exact ⟨b, o, x, h1, cell_keep hk h2, cell_keep hk h3, cell_keep hk h4, chain_set hB h5⟩
set_option maxHeartbeats 2000000 in
theorem nestBuild_bad (g L cv : Nat) (AV : Option Addr) (bs : List Int) (k c : Int) (w : World) (hv : RdI w AV L bs) (hb : BndBad bs k c) :
    Calls Tryz.prog 11 #[.pointer (some ⟨g, 0, none⟩), .slice AV L cv] w fun e w' => ∃ v, e = .returned (.tuple #[.agg #[.slice none 0 0], v]) ∧ Chain w' v [((⟨#[110, 101, 115, 116]⟩ : ByteArray), k)] c ∧ Below w.heap.size w w' := by
  have HV := Lib.hid hv
  have HB := Lib.hid hb
  clear hv hb
  go_enter Tryz.func11, Tryz.ntmps11
  go_wp2_with fail
  (refine calls_named ?_; intro w1 hw1)
  have hb1 : Below w.heap.size w w1 := by rw [hw1]; exact bELt
  have hR : Blk w1 w.heap.size 34 #[.slice none 0 0] := by rw [hw1]; exact bLNt
  clear hw1
  with_reducible refine (nestCheck_bad AV L cv bs k c w1 (HV.out.below hb1) HB.out).mono ?_
  rintro e w2 ⟨v, rfl, hc2, hb2⟩
  obtain ⟨tv, xv, rfl⟩ := chain_not_nil hc2
  have hR2 := hR.below hb2 hR.lt
  have d0 : w2.cell? ⟨w.heap.size, 0, none⟩ = some (.slice none 0 0) := by rw [hR2.cell]; rfl
  have df := hR2.frozen 0
  have HB2 := Lib.hid (Below.setCell (Bel.step hb1 hb2) (p := ⟨w.heap.size, 0, none⟩) (Nat.le_refl _))
  have HCH := Lib.hid (fun u => chain_set (u := u) hR2 hc2)
  have HR9 := Lib.hid (show (w2.setCell ⟨w.heap.size, 0, none⟩ (.slice none 0 0)).cell? ⟨w.heap.size, 0, none⟩ = some (.slice none 0 0) by rw [(hR2.set_ 0 _).cell]; rfl)
  clear hc2 hR hR2 hb1 hb2
  go_wp2_with fail
  refine bodyPost_ret (v := .tuple #[.agg #[.slice none 0 0], .iface tv xv]) (by simp [results, Tryz.results11, go_sem, HR9.out]) rfl ?_
  exact ⟨_, rfl, HCH.out _, HB2.out _⟩
set_option maxHeartbeats 2000000 in
theorem partOf14_ok (Q : Option Addr) (L cq i : Nat) (c : Int) (ls : List (List Int)) (l : List Int) (w : World) (h : RdT w Q L ls) (hl : ls[i]? = some l) (hL : L ≤ 1000000) (hn : l.length ≤ 1000000) :
    Calls Tryz.prog 23 #[.agg #[.slice Q L cq], .int .i64 ((i : Int) + 1), .int .i64 c] w fun e w' => ∃ A k, e = .returned (.slice A (memN l c l.length).length k) ∧ RdI w' A (memN l c l.length).length (nats (memN l c l.length)) ∧ (memN l c l.length).length ≤ k ∧ k ≤ 9223372036854775807 ∧ Below w.heap.size w w' := by
  have HN := Lib.hid (show ∀ V, Below w.heap.size w V → Calls Tryz.prog 45 #[.agg #[.slice Q L cq], .int .i64 ((i : Int) + 1)] V fun e w' => ∃ A n c, e = .returned (.slice A n c) ∧ RdI V A n l ∧ n ≤ c ∧ c ≤ 9223372036854775807 ∧ Below V.heap.size V w' from fun V hV => numbers_ok Q L cq i ls l V (h.below hV) hl hL)
  clear h hl
  go_enter Tryz.func23, Tryz.ntmps23
  go_wp2_with fail
  (refine calls_named ?_; intro w1 hw1)
  have hb1 : Below w.heap.size w w1 := by rw [hw1]; exact bELt
  clear hw1
  with_reducible refine (HN.out w1 hb1).mono ?_
  rintro e w2 ⟨A, n, c1, rfl, hr, q1, q2, hb2⟩
  have hr2 := hr.below hb2
  have HLEN := Lib.hid hr.1
  have hbw2 := Bel.step hb1 hb2
  have HR := Lib.hid hr2
  have HB2 := Lib.hid hbw2
  rw [hr.1] at hn
  clear hr hr2 hb1 hb2 hbw2
  go_wp2_with fail
  go_loopw [7, 14] (fun a q W => Below w2.heap.size w2 W ∧ ∃ (k m cc : Nat) (A2 : Option Addr), k ≤ n ∧ q = .int .i64 (k : Int) ∧ a = .slice A2 m cc ∧ m = (memN l c k).length ∧ Own W w2.heap.size 3 1 A2 m cc (icells (nats (memN l c k)))) (fun _ q _ => n - (intOf q).toNat)
  case atStart => exact ⟨Below.refl _ _, 0, 0, 0, none, Nat.zero_le _, rfl, rfl, rfl, Own.nil _ _ _ _⟩
  case round =>
    obtain ⟨hbl, k, m, cc, A2, hk, rfl, rfl, hm, ho⟩ := hrel
    have HBL := Lib.hid hbl
    have HO := Lib.hid ho
    have HM := Lib.hid hm
    have hml : m ≤ k := by rw [hm]; exact memN_len l c k
    clear ho hm hbl
    by_cases hlt : k < n
    · have HLT := Lib.hid hlt
      obtain ⟨b, o, x, rfl, hx, hc⟩ := (HR.out.below HBL.out).at_ hlt
      have HNX := Lib.hid (memN_succ (c := c) hx)
      have i1 : (0 : Int) ≤ (k : Int) := by omega
      have i2 : (k : Int) < (n : Int) := by omega
      clear hx
      by_cases hxc : x = c
      · subst hxc
        have HN2 := Lib.hid (show memN l x (k + 1) = memN l x k ++ [k] by rw [HNX.out, if_pos rfl])
        have e1 : (x == x) = true := by simp
        clear HNX
        obtain ⟨W3, hW3⟩ : ∃ W, W = wr.alloc (.cells #[.int .i64 (k : Int)] 3) := ⟨_, rfl⟩
        have hb3 : Below wr.heap.size wr W3 := by rw [hW3]; exact bELt
        have hrd : Rds W3 1 (some ⟨wr.heap.size, 0, none⟩) 1 (icells [(k : Int)]) := by rw [hW3]; exact (Blk.new wr 3 #[.int .i64 (k : Int)]).rds rfl
        have hown := HO.out.below hb3
        have hsz : w2.heap.size ≤ W3.heap.size := Nat.le_trans HBL.out.size hb3.size
        have HB3 := Lib.hid (Bel.step HBL.out hb3)
        have HW3 := Lib.hid hW3
        clear hW3 hb3
        go_wp2_with (at_builtin; rw [← HW3.out]; with_reducible refine wpList_app rfl (.tmp 22) (.tmp 24) 27 rfl 3 _ 1 8 infoInt Tryz.underlying27 rfl (by omega) rfl rfl hown hrd (icells_one _) (by omega) (by omega) hsz ?_)
        intro A5 c5 w5 ho5 hg5 hat5
        have HB5 := Lib.hid (Bel.grownOwn HB3.out hg5 hown hsz)
        have HO5 := Lib.hid (show Own w5 w2.heap.size 3 1 A5 (m + 1) c5 (icells (nats (memN l x k ++ [k]))) by rw [nats_snoc]; exact ho5)
        clear hown hrd hsz ho5 hg5 hat5 hc
        go_wp2_with fail
        go_roundw
        case rel => exact ⟨HB5.out, k + 1, m + 1, c5, A5, by have := HLT.out; omega, by go_num, rfl, by rw [HN2.out, List.length_append, HM.out]; rfl, by rw [HN2.out]; exact HO5.out⟩
        case measure => have := HLT.out; simp [intOf]; omega
      · have HN2 := Lib.hid (show memN l c (k + 1) = memN l c k by rw [HNX.out, if_neg hxc, List.append_nil])
        have e1 : (x == c) = false := beq_eq_false_iff_ne.2 hxc
        clear HNX
        go_wp2_with fail
        go_roundw
        case rel => exact ⟨HBL.out, k + 1, m, cc, A2, by have := HLT.out; omega, by go_num, rfl, by rw [HN2.out, HM.out], by rw [HN2.out]; exact HO.out⟩
        case measure => have := HLT.out; simp [intOf]; omega
    obtain rfl : k = n := by omega
    have hm := HM.out
    subst hm
    have hbe := Bel.step HB2.out HBL.out
    go_wp2_with fail
    go_ret
    rw [HLEN.out]
    exact ⟨A2, cc, rfl, Rds.rdI HO.out.rds, HO.out.cap, HO.out.capMax, hbe⟩
end Go.Proofs.YtpffhoefmcpniaaGreatDoor

/- slices.Index, slices.Contains, slices.IsSorted, the document's Place. -/
namespace Go.Proofs.YtpffhoefmcpniaaGreatDoor
open Go.RowKit

attribute [local go_sem ↓] Go.wp_at_zero Go.wp_at_succ

/-- The first place of a number, or -1. -/
def plI (l : List Int) (v : Int) : Int := match l.findIdx? (· == v) with | some i => (i : Int) | none => -1
theorem plI_hit {l : List Int} {v : Int} {k : Nat} (h : l[k]? = some v) (hj : ∀ j x, j < k → l[j]? = some x → x ≠ v) : plI l v = k := by
  unfold plI
  have hk := (List.getElem?_eq_some_iff.1 h).1
  have : l.findIdx? (· == v) = some k := by
    rw [List.findIdx?_eq_some_iff_getElem]
    refine ⟨hk, by simpa using (List.getElem?_eq_some_iff.1 h).2, fun j hjk => ?_⟩
    simpa using hj j _ hjk (List.getElem?_eq_getElem (by omega))
  rw [this]
theorem plI_miss {l : List Int} {v : Int} (h : v ∉ l) : plI l v = -1 := by
  unfold plI
  have : l.findIdx? (· == v) = none := by
    rw [List.findIdx?_eq_none_iff]
    intro x hx
    have : x ≠ v := fun e => h (e ▸ hx)
    simpa using this
  rw [this]
theorem plI_mem {l : List Int} {v : Int} (h : v ∈ l) : ∃ k : Nat, plI l v = k ∧ l[k]? = some v := by
  obtain ⟨k, hk⟩ := List.getElem?_of_mem h
  unfold plI
  cases e : l.findIdx? (· == v) with
  | none =>
    rw [List.findIdx?_eq_none_iff] at e
    have := e v h
    simp at this
  | some i =>
    rw [List.findIdx?_eq_some_iff_getElem] at e
    obtain ⟨hi, h1, _⟩ := e
    refine ⟨i, rfl, ?_⟩
    rw [List.getElem?_eq_getElem hi]
    simpa using h1
theorem plI_nn {l : List Int} {v : Int} : 0 ≤ plI l v ↔ v ∈ l := by
  constructor
  · intro h
    by_cases hm : v ∈ l
    · exact hm
    · rw [plI_miss hm] at h
      omega
  · intro h
    obtain ⟨k, e, _⟩ := plI_mem h
    omega
set_option maxHeartbeats 400000 in
theorem index_any (A : Option Addr) (n c : Nat) (l : List Int) (v : Int) (w : World) (h : RdI w A n l) (hn : n ≤ 1000000000) :
    Calls Tryz.prog 87 #[.slice A n c, .int .i64 v] w fun e w' => e = .returned (.int .i64 (plI l v)) ∧ w = w' := by
  have HR := Lib.hid h
  have HL := Lib.hid h.1
  clear h
  go_enter Tryz.func87, Tryz.ntmps87
  go_wp2_with fail
  go_loop [8] (fun q => ∃ k : Nat, k ≤ n ∧ q = .int .i64 k ∧ ∀ j x, j < k → l[j]? = some x → x ≠ v) (fun q => n - (intOf q).toNat)
  case atStart => exact ⟨0, Nat.zero_le _, rfl, fun _ _ h => absurd h (Nat.not_lt_zero _)⟩
  case round =>
    obtain ⟨k, hk, rfl, hj⟩ := hrel
    have HJ := Lib.hid hj
    clear hj
    by_cases hlt : k < n
    · obtain ⟨b, o, x, rfl, hx, hc⟩ := HR.out.at_ hlt
      have i1 : (0 : Int) ≤ (k : Int) := by omega
      have i2 : (k : Int) < (n : Int) := by omega
      by_cases e : x = v
      · have HP := Lib.hid (plI_hit (e ▸ hx) HJ.out)
        have e1 : (x == v) = true := by simpa using e
        have e2 : (v == x) = true := by simpa using e.symm
        clear e hx
        go_wp2_with fail
        go_ret
        exact ⟨ret_int HP.out.symm, rfl⟩
      · have e1 : (x == v) = false := by simpa using e
        have e2 : (v == x) = false := by simpa using (fun h : v = x => e h.symm)
        have HX := Lib.hid hx
        have HE := Lib.hid e
        clear e hx
        go_wp2_with fail
        go_round
        case rel => exact ⟨k + 1, by omega, by go_num, fun j y hj hy => by
          by_cases ej : j = k
          · subst ej
            rw [HX.out] at hy
            cases hy
            exact HE.out
          · exact HJ.out j y (by omega) hy⟩
        case measure => simp [intOf]; omega
    · obtain rfl : n = k := by omega
      have HP := Lib.hid (plI_miss (l := l) (v := v) (fun hm => by
        obtain ⟨j, hj⟩ := List.getElem?_of_mem hm
        exact HJ.out j v (by rw [← HL.out]; exact (List.getElem?_eq_some_iff.1 hj).1) hj rfl))
      go_wp2_with fail
      go_ret
      exact ⟨ret_int HP.out.symm, rfl⟩
theorem contains_any (A : Option Addr) (n c : Nat) (l : List Int) (v : Int) (w : World) (h : RdI w A n l) (hn : n ≤ 1000000000) :
    Calls Tryz.prog 68 #[.slice A n c, .int .i64 v] w fun e w' => e = .returned (.bool (decide (v ∈ l))) ∧ w = w' := by
  have HI := Lib.hid (index_any A n c l v w h hn)
  have HD := Lib.hid (show decide ((0 : Int) ≤ plI l v) = decide (v ∈ l) by simp [plI_nn])
  clear h
  go_enter Tryz.func68, Tryz.ntmps68
  go_wp2_with fail
  with_reducible refine HI.out.mono ?_
  rintro e w' ⟨rfl, rfl⟩
  generalize plI l v = p at *
  go_wp2_with fail
  go_ret
  exact ⟨ret_bool (by rw [← HD.out]), rfl⟩
theorem less_any (a b : Int) (w : World) : Calls Tryz.prog 88 #[.int .i64 a, .int .i64 b] w fun e w' => e = .returned (.bool (decide (a < b))) ∧ w = w' := by
  go_enter Tryz.func88, Tryz.ntmps88
  go_wp2
  go_ret
  exact ⟨ret_bool (by simp), rfl⟩
/-- Does a row rise? -/
def sortedB (l : List Int) : Bool := decide (l.Pairwise (· ≤ ·))
theorem sortedB_of {l : List Int} (h : ∀ (j : Nat) (x y : Int), l[j]? = some x → l[j + 1]? = some y → x ≤ y) : sortedB l = true := by
  unfold sortedB
  rw [decide_eq_true_eq, List.pairwise_iff_getElem]
  intro i j hi hj hij
  obtain ⟨d, rfl⟩ : ∃ d, j = i + 1 + d := ⟨j - i - 1, by omega⟩
  clear hij
  induction d with
  | zero => exact h i _ _ (List.getElem?_eq_getElem hi) (List.getElem?_eq_getElem hj)
  | succ d ih =>
    have := ih (by omega)
    have := h (i + 1 + d) _ _ (List.getElem?_eq_getElem (by omega)) (List.getElem?_eq_getElem hj)
    omega
theorem sortedB_not {l : List Int} {j : Nat} {x y : Int} (h1 : l[j]? = some x) (h2 : l[j + 1]? = some y) (h : y < x) : sortedB l = false := by
  unfold sortedB
  rw [decide_eq_false_iff_not, List.pairwise_iff_getElem]
  intro hp
  have := hp j (j + 1) (List.getElem?_eq_some_iff.1 h1).1 (List.getElem?_eq_some_iff.1 h2).1 (by omega)
  rw [(List.getElem?_eq_some_iff.1 h1).2, (List.getElem?_eq_some_iff.1 h2).2] at this
  omega
set_option maxHeartbeats 1000000 in
theorem isSorted_any (A : Option Addr) (n c : Nat) (l : List Int) (w : World) (h : RdI w A n l) (hn : n ≤ 1000000000) :
    Calls Tryz.prog 69 #[.slice A n c] w fun e w' => e = .returned (.bool (sortedB l)) ∧ ∃ k, w' = w.drewN k := by
  have HR := Lib.hid h
  have HL := Lib.hid h.1
  clear h
  go_enter Tryz.func69, Tryz.ntmps69
  go_wp2_with fail
  go_loopw [3] (fun q W => (∃ d, W = w.drewN d) ∧ ∃ k : Int, -1 ≤ k ∧ k < n ∧ q = .int .i64 k ∧ ∀ (j : Nat) x y, k ≤ j → l[j]? = some x → l[j + 1]? = some y → x ≤ y) (fun q _ => (intOf q).toNat)
  case atStart =>
    refine ⟨⟨0, rfl⟩, (n : Int) - 1, by omega, by omega, rfl, fun j x y hj _ hy => ?_⟩
    have := (List.getElem?_eq_some_iff.1 hy).1
    rw [HL.out] at this
    omega
  case round =>
    obtain ⟨hd, k, hk, hkn, rfl, hj⟩ := hrel
    have HW := Lib.hid hd
    have HJ := Lib.hid hj
    clear hj
    by_cases hlt : 0 < k
    · obtain ⟨m, rfl⟩ : ∃ m : Nat, k = (m : Int) + 1 := ⟨(k - 1).toNat, by omega⟩
      obtain ⟨b, o, x, rfl, hx, hc⟩ := HR.out.at_ (show m < n by omega)
      obtain ⟨b', o', y, e, hy, hc'⟩ := HR.out.at_ (show m + 1 < n by omega)
      cases e
      have hc1 : wr.cell? ⟨b, o + m, none⟩ = some (.int .i64 x) := by obtain ⟨d, rfl⟩ := hd; exact hc
      have hc2 : wr.cell? ⟨b, o + (m + 1), none⟩ = some (.int .i64 y) := by obtain ⟨d, rfl⟩ := hd; exact hc'
      have HLS := Lib.hid (fun V => less_any y x V)
      have i1 : (0 : Int) ≤ (m : Int) := by omega
      have i2 : (m : Int) < (n : Int) := by omega
      have i3 : (m : Int) + 1 < (n : Int) := by omega
      have i4 : (0 : Int) ≤ (m : Int) + 1 := by omega
      have i5 : (m : Int) + 1 - 1 = (m : Int) := by omega
      have i6 : ((m : Int) + 1).toNat = m + 1 := by omega
      have HX := Lib.hid hx
      have HY := Lib.hid hy
      clear hx hy hc hc' hd
      by_cases hyx : y < x
      · have e1 : decide (y < x) = true := by simpa using hyx
        have HS := Lib.hid (sortedB_not HX.out HY.out hyx)
        go_wp2_with fail
        go_quiet ((go_at_call 88; exact quiet_left (HLS.out _)))
        go_wp2_with fail
        go_ret
        refine ⟨ret_bool HS.out.symm, ?_⟩
        obtain ⟨d, e⟩ := HW.out
        exact ⟨d + nq, by rw [e, World.drewN_drewN]⟩
      · have e1 : decide (y < x) = false := by simpa using hyx
        have HS := Lib.hid hyx
        go_wp2_with fail
        go_quiet ((go_at_call 88; exact quiet_left (HLS.out _)))
        go_wp2_with fail
        go_roundw
        case rel =>
          obtain ⟨d, e⟩ := HW.out
          refine ⟨⟨d + nq, by rw [e, World.drewN_drewN]⟩, (m : Int), by omega, by omega, by first | rfl | go_num, fun j x' y' hj h1 h2 => ?_⟩
          by_cases ej : j = m
          · subst ej
            rw [HX.out] at h1
            rw [HY.out] at h2
            cases h1
            cases h2
            have := HS.out
            omega
          · exact HJ.out j x' y' (by omega) h1 h2
        case measure => simp [intOf]
    · have HS := Lib.hid (sortedB_of (l := l) (fun j x y h1 h2 => HJ.out j x y (by omega) h1 h2))
      go_wp2_with fail
      go_ret
      exact ⟨ret_bool HS.out.symm, HW.out⟩
end Go.Proofs.YtpffhoefmcpniaaGreatDoor
