/- SameInts, law16.Is. -/
import Derived.Test.YtgkeolddpielpaaGreatBas
namespace Go.Proofs.YtgkeolddpielpaaGreat
open Go.RowKit

attribute [local go_sem ↓] Go.wp_at_zero Go.wp_at_succ

set_option maxHeartbeats 1000000 in
theorem sameInts_any (A B : Option Addr) (n m c d : Nat) (l l2 : List Int) (w : World) (h : RdI w A n l) (h2 : RdI w B m l2) (hn : n ≤ 1000000000) (hm : m ≤ 1000000000) :
    Calls Tryz.prog 33 #[.slice A n c, .slice B m d] w fun e w' => e = .returned (.bool (decide (l = l2))) ∧ ∃ k, w' = w.drewN k := by
  have HR := Lib.hid h
  have HR2 := Lib.hid h2
  have HL := Lib.hid h.1
  have HL2 := Lib.hid h2.1
  clear h h2
  by_cases hnm : n = m
  rotate_left
  · have e1 : ((n : Int) != (m : Int)) = true := by simp; omega
    have e2 : ((n : Int) == (m : Int)) = false := by simp; omega
    have HD := Lib.hid (show decide (l = l2) = false from decide_eq_false (fun e => hnm (by rw [← HL.out, ← HL2.out, e])))
    go_enter Tryz.func33, Tryz.ntmps33
    go_wp2_with fail
    go_ret
    exact ⟨ret_bool HD.out.symm, 0, rfl⟩
  subst hnm
  go_enter Tryz.func33, Tryz.ntmps33
  go_wp2_with fail
  go_loopw [5] (fun q W => (∃ k, W = w.drewN k) ∧ ∃ i : Nat, i ≤ n ∧ q = .int .i64 i ∧ ∀ j, j < i → l[j]? = l2[j]?) (fun q _ => n - (intOf q).toNat)
  case atStart => exact ⟨⟨0, rfl⟩, 0, Nat.zero_le _, rfl, fun _ h => absurd h (Nat.not_lt_zero _)⟩
  case round =>
    obtain ⟨hd, i, hi, rfl, hall⟩ := hrel
    have HD := Lib.hid hd
    have HA := Lib.hid hall
    clear hall
    by_cases hlt : i < n
    · obtain ⟨b, o, x, rfl, hx, hc⟩ := HR.out.at_ hlt
      obtain ⟨b', o', y, rfl, hy, hc'⟩ := HR2.out.at_ hlt
      have hc1 : wr.cell? ⟨b, o + i, none⟩ = some (.int .i64 x) := by obtain ⟨k, rfl⟩ := hd; exact hc
      have hc2 : wr.cell? ⟨b', o' + i, none⟩ = some (.int .i64 y) := by obtain ⟨k, rfl⟩ := hd; exact hc'
      have HX := Lib.hid hx
      have HY := Lib.hid hy
      have i1 : (0 : Int) ≤ (i : Int) := by omega
      have i2 : (i : Int) < (n : Int) := by omega
      clear hx hy hc hc' hd
      by_cases e : x = y
      · subst e
        go_wp2_with fail
        go_quiet (fail)
        go_wp2_with fail
        go_roundw
        case rel =>
          obtain ⟨k, e⟩ := HD.out
          refine ⟨⟨k + nq, by rw [e, World.drewN_drewN]⟩, i + 1, by omega, by go_num, fun j hj => ?_⟩
          by_cases ej : j = i
          · subst ej
            rw [HX.out, HY.out]
          · exact HA.out j (by omega)
        case measure => simp [intOf]; omega
      · have e1 : (x != y) = true := by simpa using e
        have e2 : (x == y) = false := by simpa using e
        have HN := Lib.hid (show decide (l = l2) = false from decide_eq_false (fun ee => by
          have := HX.out
          rw [ee, HY.out] at this
          exact e (Option.some.inj this).symm))
        have HE := Lib.hid e
        clear e
        go_wp2_with fail
        go_quiet (fail)
        go_wp2_with fail
        go_ret
        obtain ⟨k, e⟩ := HD.out
        exact ⟨ret_bool HN.out.symm, k + nq, by rw [e, World.drewN_drewN]⟩
    · obtain rfl : n = i := by omega
      have HE := Lib.hid (show decide (l = l2) = true from decide_eq_true (List.ext_getElem? (fun j => by
        rcases Nat.lt_or_ge j n with h | h
        · exact HA.out j h
        · rw [List.getElem?_eq_none (by rw [HL.out]; exact h), List.getElem?_eq_none (by rw [HL2.out]; exact h)])))
      clear hd
      go_wp2_with fail
      go_ret
      exact ⟨ret_bool HE.out.symm, HD.out⟩
end Go.Proofs.YtgkeolddpielpaaGreat
