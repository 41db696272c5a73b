/- slices.Index, slices.Contains, slices.IsSorted, the document's Place. -/
import Derived.Test.YtgkeolddpielpaaGreatGv
namespace Go.Proofs.YtgkeolddpielpaaGreat
open Go.RowKit

attribute [local go_sem ↓] Go.wp_at_zero Go.wp_at_succ

/-- The first place of a number, or -1. -/
def plI (l : List Int) (v : Int) : Int := match l.findIdx? (· == v) with | some i => (i : Int) | none => -1
theorem plI_hit {l : List Int} {v : Int} {k : Nat} (h : l[k]? = some v) (hj : ∀ j x, j < k → l[j]? = some x → x ≠ v) : plI l v = k := by
  unfold plI
  have hk := (List.getElem?_eq_some_iff.1 h).1
  have : l.findIdx? (· == v) = some k := by
    rw [List.findIdx?_eq_some_iff_getElem]
    refine ⟨hk, by simpa using (List.getElem?_eq_some_iff.1 h).2, fun j hjk => ?_⟩
    simpa using hj j _ hjk (List.getElem?_eq_getElem (by omega))
  rw [this]
theorem plI_miss {l : List Int} {v : Int} (h : v ∉ l) : plI l v = -1 := by
  unfold plI
  have : l.findIdx? (· == v) = none := by
    rw [List.findIdx?_eq_none_iff]
    intro x hx
    have : x ≠ v := fun e => h (e ▸ hx)
    simpa using this
  rw [this]
theorem plI_mem {l : List Int} {v : Int} (h : v ∈ l) : ∃ k : Nat, plI l v = k ∧ l[k]? = some v := by
  obtain ⟨k, hk⟩ := List.getElem?_of_mem h
  unfold plI
  cases e : l.findIdx? (· == v) with
  | none =>
    rw [List.findIdx?_eq_none_iff] at e
    have := e v h
    simp at this
  | some i =>
    rw [List.findIdx?_eq_some_iff_getElem] at e
    obtain ⟨hi, h1, _⟩ := e
    refine ⟨i, rfl, ?_⟩
    rw [List.getElem?_eq_getElem hi]
    simpa using h1
theorem plI_nn {l : List Int} {v : Int} : 0 ≤ plI l v ↔ v ∈ l := by
  constructor
  · intro h
    by_cases hm : v ∈ l
    · exact hm
    · rw [plI_miss hm] at h
      omega
  · intro h
    obtain ⟨k, e, _⟩ := plI_mem h
    omega
set_option maxHeartbeats 400000 in
theorem index_any (A : Option Addr) (n c : Nat) (l : List Int) (v : Int) (w : World) (h : RdI w A n l) (hn : n ≤ 1000000000) :
    Calls Tryz.prog 160 #[.slice A n c, .int .i64 v] w fun e w' => e = .returned (.int .i64 (plI l v)) ∧ w = w' := by
  have HR := Lib.hid h
  have HL := Lib.hid h.1
  clear h
  go_enter Tryz.func160, Tryz.ntmps160
  go_wp2_with fail
  go_loop [8] (fun q => ∃ k : Nat, k ≤ n ∧ q = .int .i64 k ∧ ∀ j x, j < k → l[j]? = some x → x ≠ v) (fun q => n - (intOf q).toNat)
  case atStart => exact ⟨0, Nat.zero_le _, rfl, fun _ _ h => absurd h (Nat.not_lt_zero _)⟩
  case round =>
    obtain ⟨k, hk, rfl, hj⟩ := hrel
    have HJ := Lib.hid hj
    clear hj
    by_cases hlt : k < n
    · obtain ⟨b, o, x, rfl, hx, hc⟩ := HR.out.at_ hlt
      have i1 : (0 : Int) ≤ (k : Int) := by omega
      have i2 : (k : Int) < (n : Int) := by omega
      by_cases e : x = v
      · have HP := Lib.hid (plI_hit (e ▸ hx) HJ.out)
        have e1 : (x == v) = true := by simpa using e
        have e2 : (v == x) = true := by simpa using e.symm
        clear e hx
        go_wp2_with fail
        go_ret
        exact ⟨ret_int HP.out.symm, rfl⟩
      · have e1 : (x == v) = false := by simpa using e
        have e2 : (v == x) = false := by simpa using (fun h : v = x => e h.symm)
        have HX := Lib.hid hx
        have HE := Lib.hid e
        clear e hx
        go_wp2_with fail
        go_round
        case rel => exact ⟨k + 1, by omega, by go_num, fun j y hj hy => by
          by_cases ej : j = k
          · subst ej
            rw [HX.out] at hy
            cases hy
            exact HE.out
          · exact HJ.out j y (by omega) hy⟩
        case measure => simp [intOf]; omega
    · obtain rfl : n = k := by omega
      have HP := Lib.hid (plI_miss (l := l) (v := v) (fun hm => by
        obtain ⟨j, hj⟩ := List.getElem?_of_mem hm
        exact HJ.out j v (by rw [← HL.out]; exact (List.getElem?_eq_some_iff.1 hj).1) hj rfl))
      go_wp2_with fail
      go_ret
      exact ⟨ret_int HP.out.symm, rfl⟩
set_option maxHeartbeats 400000 in
theorem place_any (A : Option Addr) (n c : Nat) (l : List Int) (v : Int) (w : World) (h : RdI w A n l) (hn : n ≤ 1000000000) :
    Calls Tryz.prog 15 #[.slice A n c, .int .i64 v] w fun e w' => e = .returned (.int .i64 (plI l v)) ∧ w = w' := by
  have HR := Lib.hid h
  have HL := Lib.hid h.1
  clear h
  go_enter Tryz.func15, Tryz.ntmps15
  go_wp2_with fail
  go_loop [5] (fun q => ∃ k : Nat, k ≤ n ∧ q = .int .i64 k ∧ ∀ j x, j < k → l[j]? = some x → x ≠ v) (fun q => n - (intOf q).toNat)
  case atStart => exact ⟨0, Nat.zero_le _, rfl, fun _ _ h => absurd h (Nat.not_lt_zero _)⟩
  case round =>
    obtain ⟨k, hk, rfl, hj⟩ := hrel
    have HJ := Lib.hid hj
    clear hj
    by_cases hlt : k < n
    · obtain ⟨b, o, x, rfl, hx, hc⟩ := HR.out.at_ hlt
      have i1 : (0 : Int) ≤ (k : Int) := by omega
      have i2 : (k : Int) < (n : Int) := by omega
      by_cases e : x = v
      · have HP := Lib.hid (plI_hit (e ▸ hx) HJ.out)
        have e1 : (x == v) = true := by simpa using e
        have e2 : (v == x) = true := by simpa using e.symm
        clear e hx
        go_wp2_with fail
        go_ret
        exact ⟨ret_int HP.out.symm, rfl⟩
      · have e1 : (x == v) = false := by simpa using e
        have e2 : (v == x) = false := by simpa using (fun h : v = x => e h.symm)
        have HX := Lib.hid hx
        have HE := Lib.hid e
        clear e hx
        go_wp2_with fail
        go_round
        case rel => exact ⟨k + 1, by omega, by go_num, fun j y hj hy => by
          by_cases ej : j = k
          · subst ej
            rw [HX.out] at hy
            cases hy
            exact HE.out
          · exact HJ.out j y (by omega) hy⟩
        case measure => simp [intOf]; omega
    · obtain rfl : n = k := by omega
      have HP := Lib.hid (plI_miss (l := l) (v := v) (fun hm => by
        obtain ⟨j, hj⟩ := List.getElem?_of_mem hm
        exact HJ.out j v (by rw [← HL.out]; exact (List.getElem?_eq_some_iff.1 hj).1) hj rfl))
      go_wp2_with fail
      go_ret
      exact ⟨ret_int HP.out.symm, rfl⟩
theorem contains_any (A : Option Addr) (n c : Nat) (l : List Int) (v : Int) (w : World) (h : RdI w A n l) (hn : n ≤ 1000000000) :
    Calls Tryz.prog 135 #[.slice A n c, .int .i64 v] w fun e w' => e = .returned (.bool (decide (v ∈ l))) ∧ w = w' := by
  have HI := Lib.hid (index_any A n c l v w h hn)
  have HD := Lib.hid (show decide ((0 : Int) ≤ plI l v) = decide (v ∈ l) by simp [plI_nn])
  clear h
  go_enter Tryz.func135, Tryz.ntmps135
  go_wp2_with fail
  with_reducible refine HI.out.mono ?_
  rintro e w' ⟨rfl, rfl⟩
  generalize plI l v = p at *
  go_wp2_with fail
  go_ret
  exact ⟨ret_bool (by rw [← HD.out]), rfl⟩
theorem less_any (a b : Int) (w : World) : Calls Tryz.prog 102 #[.int .i64 a, .int .i64 b] w fun e w' => e = .returned (.bool (decide (a < b))) ∧ w = w' := by
  go_enter Tryz.func102, Tryz.ntmps102
  go_wp2
  go_ret
  exact ⟨ret_bool (by simp), rfl⟩
/-- Does a row rise? -/
def sortedB (l : List Int) : Bool := decide (l.Pairwise (· ≤ ·))
theorem sortedB_of {l : List Int} (h : ∀ (j : Nat) (x y : Int), l[j]? = some x → l[j + 1]? = some y → x ≤ y) : sortedB l = true := by
  unfold sortedB
  rw [decide_eq_true_eq, List.pairwise_iff_getElem]
  intro i j hi hj hij
  obtain ⟨d, rfl⟩ : ∃ d, j = i + 1 + d := ⟨j - i - 1, by omega⟩
  clear hij
  induction d with
  | zero => exact h i _ _ (List.getElem?_eq_getElem hi) (List.getElem?_eq_getElem hj)
  | succ d ih =>
    have := ih (by omega)
    have := h (i + 1 + d) _ _ (List.getElem?_eq_getElem (by omega)) (List.getElem?_eq_getElem hj)
    omega
theorem sortedB_not {l : List Int} {j : Nat} {x y : Int} (h1 : l[j]? = some x) (h2 : l[j + 1]? = some y) (h : y < x) : sortedB l = false := by
  unfold sortedB
  rw [decide_eq_false_iff_not, List.pairwise_iff_getElem]
  intro hp
  have := hp j (j + 1) (List.getElem?_eq_some_iff.1 h1).1 (List.getElem?_eq_some_iff.1 h2).1 (by omega)
  rw [(List.getElem?_eq_some_iff.1 h1).2, (List.getElem?_eq_some_iff.1 h2).2] at this
  omega
set_option maxHeartbeats 1000000 in
theorem isSorted_any (A : Option Addr) (n c : Nat) (l : List Int) (w : World) (h : RdI w A n l) (hn : n ≤ 1000000000) :
    Calls Tryz.prog 136 #[.slice A n c] w fun e w' => e = .returned (.bool (sortedB l)) ∧ ∃ k, w' = w.drewN k := by
  have HR := Lib.hid h
  have HL := Lib.hid h.1
  clear h
  go_enter Tryz.func136, Tryz.ntmps136
  go_wp2_with fail
  go_loopw [3] (fun q W => (∃ d, W = w.drewN d) ∧ ∃ k : Int, -1 ≤ k ∧ k < n ∧ q = .int .i64 k ∧ ∀ (j : Nat) x y, k ≤ j → l[j]? = some x → l[j + 1]? = some y → x ≤ y) (fun q _ => (intOf q).toNat)
  case atStart =>
    refine ⟨⟨0, rfl⟩, (n : Int) - 1, by omega, by omega, rfl, fun j x y hj _ hy => ?_⟩
    have := (List.getElem?_eq_some_iff.1 hy).1
    rw [HL.out] at this
    omega
  case round =>
    obtain ⟨hd, k, hk, hkn, rfl, hj⟩ := hrel
    have HW := Lib.hid hd
    have HJ := Lib.hid hj
    clear hj
    by_cases hlt : 0 < k
    · obtain ⟨m, rfl⟩ : ∃ m : Nat, k = (m : Int) + 1 := ⟨(k - 1).toNat, by omega⟩
      obtain ⟨b, o, x, rfl, hx, hc⟩ := HR.out.at_ (show m < n by omega)
      obtain ⟨b', o', y, e, hy, hc'⟩ := HR.out.at_ (show m + 1 < n by omega)
      cases e
      have hc1 : wr.cell? ⟨b, o + m, none⟩ = some (.int .i64 x) := by obtain ⟨d, rfl⟩ := hd; exact hc
      have hc2 : wr.cell? ⟨b, o + (m + 1), none⟩ = some (.int .i64 y) := by obtain ⟨d, rfl⟩ := hd; exact hc'
      have HLS := Lib.hid (fun V => less_any y x V)
      have i1 : (0 : Int) ≤ (m : Int) := by omega
      have i2 : (m : Int) < (n : Int) := by omega
      have i3 : (m : Int) + 1 < (n : Int) := by omega
      have i4 : (0 : Int) ≤ (m : Int) + 1 := by omega
      have i5 : (m : Int) + 1 - 1 = (m : Int) := by omega
      have i6 : ((m : Int) + 1).toNat = m + 1 := by omega
      have HX := Lib.hid hx
      have HY := Lib.hid hy
      clear hx hy hc hc' hd
      by_cases hyx : y < x
      · have e1 : decide (y < x) = true := by simpa using hyx
        have HS := Lib.hid (sortedB_not HX.out HY.out hyx)
        go_wp2_with fail
        go_quiet ((go_at_call 102; exact quiet_left (HLS.out _)))
        go_wp2_with fail
        go_ret
        refine ⟨ret_bool HS.out.symm, ?_⟩
        obtain ⟨d, e⟩ := HW.out
        exact ⟨d + nq, by rw [e, World.drewN_drewN]⟩
      · have e1 : decide (y < x) = false := by simpa using hyx
        have HS := Lib.hid hyx
        go_wp2_with fail
        go_quiet ((go_at_call 102; exact quiet_left (HLS.out _)))
        go_wp2_with fail
        go_roundw
        case rel =>
          obtain ⟨d, e⟩ := HW.out
          refine ⟨⟨d + nq, by rw [e, World.drewN_drewN]⟩, (m : Int), by omega, by omega, by first | rfl | go_num, fun j x' y' hj h1 h2 => ?_⟩
          by_cases ej : j = m
          · subst ej
            rw [HX.out] at h1
            rw [HY.out] at h2
            cases h1
            cases h2
            have := HS.out
            omega
          · exact HJ.out j x' y' (by omega) h1 h2
        case measure => simp [intOf]
    · have HS := Lib.hid (sortedB_of (l := l) (fun j x y h1 h2 => HJ.out j x y (by omega) h1 h2))
      go_wp2_with fail
      go_ret
      exact ⟨ret_bool HS.out.symm, HW.out⟩
end Go.Proofs.YtgkeolddpielpaaGreat
