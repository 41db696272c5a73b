/- What a graph tells: how many, an arc's ends, its weight. -/
import Derived.Test.YtgkeolddpielpaaGreatGr
import Derived.Test.YtgkeolddpielpaaGreatNt3
namespace Go.Proofs.YtgkeolddpielpaaGreat
open Go.RowKit

attribute [local go_sem ↓] Go.wp_at_zero Go.wp_at_succ

theorem NetOk.arLe {N : NetD} (h : NetOk N) {m : Nat} (e : N.ar.length = m) : m ≤ 16384 := by rw [← e]; exact h.la
theorem gVerts_any (g : Nat) (N : NetD) (w : World) (h : RdGr w g N) : Calls Tryz.prog 65 #[.pointer (some ⟨g, 0, none⟩)] w fun e w' => e = .returned (.int .i64 (N.vs.length : Int)) ∧ w = w' := by
  obtain ⟨A, B, C, I, O, P, n, m, k, c, d, e, ci, co, cp, h⟩ := h
  have h0 := h.n0
  have HL := Lib.hid h.net.1.1
  clear h
  go_enter Tryz.func65, Tryz.ntmps65
  go_wp2
  go_ret
  exact ⟨ret_int (by rw [HL.out]), rfl⟩
theorem gArcs_any (g : Nat) (N : NetD) (w : World) (h : RdGr w g N) : Calls Tryz.prog 68 #[.pointer (some ⟨g, 0, none⟩)] w fun e w' => e = .returned (.int .i64 (N.ar.length : Int)) ∧ w = w' := by
  obtain ⟨A, B, C, I, O, P, n, m, k, c, d, e, ci, co, cp, h⟩ := h
  have h1 := h.n1
  have HL := Lib.hid h.net.2.1.1
  clear h
  go_enter Tryz.func68, Tryz.ntmps68
  go_wp2
  go_ret
  exact ⟨ret_int (by rw [HL.out]), rfl⟩
theorem gArc_ok (g : Nat) (N : NetD) (a : Int) (w : World) (h : RdGr w g N) (h0 : 0 ≤ a) (h1 : a < N.ar.length) : Calls Tryz.prog 52 #[.pointer (some ⟨g, 0, none⟩), .int .i64 a] w fun e w' => e = .returned (.bool true) ∧ w = w' := by
  obtain ⟨A, B, C, I, O, P, n, m, k, c, d, e, ci, co, cp, h⟩ := h
  have hn1 := h.n1
  have hl := h.net.2.1.1
  rw [hl] at h1
  clear hl h
  go_enter Tryz.func52, Tryz.ntmps52
  go_wp2
  go_ret
  exact ⟨ret_bool (by first | (simp; done) | (simp; omega)), rfl⟩
theorem gArc_no (g : Nat) (N : NetD) (a : Int) (w : World) (h : RdGr w g N) (h1 : ¬ (0 ≤ a ∧ a < N.ar.length)) : Calls Tryz.prog 52 #[.pointer (some ⟨g, 0, none⟩), .int .i64 a] w fun e w' => e = .returned (.bool false) ∧ w = w' := by
  obtain ⟨A, B, C, I, O, P, n, m, k, c, d, e, ci, co, cp, h⟩ := h
  have hn1 := h.n1
  have hl := h.net.2.1.1
  rw [hl] at h1
  clear hl h
  by_cases h0 : 0 ≤ a
  · have h2 : ¬ a < m := by omega
    clear h1
    go_enter Tryz.func52, Tryz.ntmps52
    go_wp2
    go_ret
    exact ⟨ret_bool (by first | (simp; done) | (simp; omega)), rfl⟩
  · clear h1
    go_enter Tryz.func52, Tryz.ntmps52
    go_wp2
    go_ret
    exact ⟨ret_bool (by first | (simp; done) | (simp; omega)), rfl⟩
theorem gFrom_ok (g a : Nat) (N : NetD) (x : Tri) (w : World) (h : RdGr w g N) (hx : N.ar[a]? = some x) : Calls Tryz.prog 69 #[.pointer (some ⟨g, 0, none⟩), .int .i64 a] w fun e w' => e = .returned (.int .i64 x.1) ∧ w = w' := by
  have HA := Lib.hid (show ∀ V, V = w → Calls Tryz.prog 52 #[.pointer (some ⟨g, 0, none⟩), .int .i64 a] V fun e w' => e = .returned (.bool true) ∧ V = w' from fun V e => e ▸ gArc_ok g N a w h (by omega) (by have := (List.getElem?_eq_some_iff.1 hx).1; omega))
  obtain ⟨A, B, C, I, O, P, n, m, k, c, d, e, ci, co, cp, h⟩ := h
  have hn1 := h.n1
  have ha : a < m := by have := (List.getElem?_eq_some_iff.1 hx).1; rw [h.net.2.1.1] at this; exact this
  have hm := h.ok.arLe h.net.2.1.1
  obtain ⟨b, o, x', y', z', rfl, hx', cx, cy, cz⟩ := h.net.2.1.at_ ha
  rw [hx] at hx'
  cases hx'
  have i1 : (0 : Int) ≤ (a : Int) := by omega
  have i2 : (a : Int) < (m : Int) := by omega
  clear hx h
  go_enter Tryz.func69, Tryz.ntmps69
  go_wp2_with fail
  with_reducible refine (HA.out _ rfl).mono ?_
  rintro e w' ⟨rfl, rfl⟩
  go_wp2
  go_ret
  exact ⟨rfl, rfl⟩
theorem gTo_ok (g a : Nat) (N : NetD) (x : Tri) (w : World) (h : RdGr w g N) (hx : N.ar[a]? = some x) : Calls Tryz.prog 70 #[.pointer (some ⟨g, 0, none⟩), .int .i64 a] w fun e w' => e = .returned (.int .i64 x.2.1) ∧ w = w' := by
  have HA := Lib.hid (show ∀ V, V = w → Calls Tryz.prog 52 #[.pointer (some ⟨g, 0, none⟩), .int .i64 a] V fun e w' => e = .returned (.bool true) ∧ V = w' from fun V e => e ▸ gArc_ok g N a w h (by omega) (by have := (List.getElem?_eq_some_iff.1 hx).1; omega))
  obtain ⟨A, B, C, I, O, P, n, m, k, c, d, e, ci, co, cp, h⟩ := h
  have hn1 := h.n1
  have ha : a < m := by have := (List.getElem?_eq_some_iff.1 hx).1; rw [h.net.2.1.1] at this; exact this
  have hm := h.ok.arLe h.net.2.1.1
  obtain ⟨b, o, x', y', z', rfl, hx', cx, cy, cz⟩ := h.net.2.1.at_ ha
  rw [hx] at hx'
  cases hx'
  have i1 : (0 : Int) ≤ (a : Int) := by omega
  have i2 : (a : Int) < (m : Int) := by omega
  clear hx h
  go_enter Tryz.func70, Tryz.ntmps70
  go_wp2_with fail
  with_reducible refine (HA.out _ rfl).mono ?_
  rintro e w' ⟨rfl, rfl⟩
  go_wp2
  go_ret
  exact ⟨rfl, rfl⟩
theorem gWeight_ok (g a : Nat) (N : NetD) (x : Tri) (w : World) (h : RdGr w g N) (hx : N.ar[a]? = some x) : Calls Tryz.prog 107 #[.pointer (some ⟨g, 0, none⟩), .int .i64 a] w fun e w' => e = .returned (.int .i64 x.2.2) ∧ w = w' := by
  have HA := Lib.hid (show ∀ V, V = w → Calls Tryz.prog 52 #[.pointer (some ⟨g, 0, none⟩), .int .i64 a] V fun e w' => e = .returned (.bool true) ∧ V = w' from fun V e => e ▸ gArc_ok g N a w h (by omega) (by have := (List.getElem?_eq_some_iff.1 hx).1; omega))
  obtain ⟨A, B, C, I, O, P, n, m, k, c, d, e, ci, co, cp, h⟩ := h
  have hn1 := h.n1
  have ha : a < m := by have := (List.getElem?_eq_some_iff.1 hx).1; rw [h.net.2.1.1] at this; exact this
  have hm := h.ok.arLe h.net.2.1.1
  obtain ⟨b, o, x', y', z', rfl, hx', cx, cy, cz⟩ := h.net.2.1.at_ ha
  rw [hx] at hx'
  cases hx'
  have i1 : (0 : Int) ≤ (a : Int) := by omega
  have i2 : (a : Int) < (m : Int) := by omega
  clear hx h
  go_enter Tryz.func107, Tryz.ntmps107
  go_wp2_with fail
  with_reducible refine (HA.out _ rfl).mono ?_
  rintro e w' ⟨rfl, rfl⟩
  go_wp2
  go_ret
  exact ⟨rfl, rfl⟩
end Go.Proofs.YtgkeolddpielpaaGreat
