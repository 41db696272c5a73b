/- Parts of the proof: Ga, Cl. -/
import Derived.Test.YtpffhoefmcpniaaGreatDoorB1
import Derived.Test.YtpffhoefmcpniaaGreatDoorB22
import Derived.Test.YtpffhoefmcpniaaGreatDoorB25
import Derived.Lib.SliceRun
namespace Go.Proofs.YtpffhoefmcpniaaGreatDoor
open Go.RowKit

attribute [local go_sem ↓] Go.wp_at_zero Go.wp_at_succ

theorem NetOk.arLe {N : NetD} (h : NetOk N) {m : Nat} (e : N.ar.length = m) : m ≤ 16384 := by rw [← e]; exact h.la
theorem gVerts_any (g : Nat) (N : NetD) (w : World) (h : RdGr w g N) : Calls Tryz.prog 32 #[.pointer (some ⟨g, 0, none⟩)] w fun e w' => e = .returned (.int .i64 (N.vs.length : Int)) ∧ w = w' := by
 obtain ⟨A, B, C, I, O, P, n, m, k, c, d, e, ci, co, cp, h⟩ := h
 have h0 := h.n0
 have HL := Lib.hid h.net.1.1
 clear h
 go_enter Tryz.func32, Tryz.ntmps32
 go_wp2
 go_ret
 exact ⟨ret_int (by rw [HL.out]), rfl⟩
theorem gArcs_any (g : Nat) (N : NetD) (w : World) (h : RdGr w g N) : Calls Tryz.prog 56 #[.pointer (some ⟨g, 0, none⟩)] w fun e w' => e = .returned (.int .i64 (N.ar.length : Int)) ∧ w = w' := by
 obtain ⟨A, B, C, I, O, P, n, m, k, c, d, e, ci, co, cp, h⟩ := h
 have h1 := h.n1
 have HL := Lib.hid h.net.2.1.1
 clear h
 go_enter Tryz.func56, Tryz.ntmps56
 go_wp2
 go_ret
 exact ⟨ret_int (by rw [HL.out]), rfl⟩
theorem gArc_ok (g : Nat) (N : NetD) (a : Int) (w : World) (h : RdGr w g N) (h0 : 0 ≤ a) (h1 : a < N.ar.length) : Calls Tryz.prog 46 #[.pointer (some ⟨g, 0, none⟩), .int .i64 a] w fun e w' => e = .returned (.bool true) ∧ w = w' := by
 obtain ⟨A, B, C, I, O, P, n, m, k, c, d, e, ci, co, cp, h⟩ := h
 have hn1 := h.n1
 have hl := h.net.2.1.1
 rw [hl] at h1
 clear hl h
 go_enter Tryz.func46, Tryz.ntmps46
 go_wp2
 go_ret
 exact ⟨ret_bool (by first | (simp; done) | (simp; omega)), rfl⟩
theorem gFrom_ok (g a : Nat) (N : NetD) (x : Tri) (w : World) (h : RdGr w g N) (hx : N.ar[a]? = some x) : Calls Tryz.prog 57 #[.pointer (some ⟨g, 0, none⟩), .int .i64 a] w fun e w' => e = .returned (.int .i64 x.1) ∧ w = w' := by
 have HA := Lib.hid (show ∀ V, V = w → Calls Tryz.prog 46 #[.pointer (some ⟨g, 0, none⟩), .int .i64 a] V fun e w' => e = .returned (.bool true) ∧ V = w' from fun V e => e ▸ gArc_ok g N a w h (by omega) (by have := (List.getElem?_eq_some_iff.1 hx).1; omega))
 obtain ⟨A, B, C, I, O, P, n, m, k, c, d, e, ci, co, cp, h⟩ := h
 have hn1 := h.n1
 have ha : a < m := by have := (List.getElem?_eq_some_iff.1 hx).1; rw [h.net.2.1.1] at this; exact this
 have hm := h.ok.arLe h.net.2.1.1
 obtain ⟨b, o, x', y', z', rfl, hx', cx, cy, cz⟩ := h.net.2.1.at_ ha
 rw [hx] at hx'
 cases hx'
 have i1 : (0 : Int) ≤ (a : Int) := by omega
 have i2 : (a : Int) < (m : Int) := by omega
 clear hx h
 go_enter Tryz.func57, Tryz.ntmps57
 go_wp2_with fail
 with_reducible refine (HA.out _ rfl).mono ?_
 rintro e w' ⟨rfl, rfl⟩
 go_wp2
 go_ret
 exact ⟨rfl, rfl⟩
theorem gTo_ok (g a : Nat) (N : NetD) (x : Tri) (w : World) (h : RdGr w g N) (hx : N.ar[a]? = some x) : Calls Tryz.prog 58 #[.pointer (some ⟨g, 0, none⟩), .int .i64 a] w fun e w' => e = .returned (.int .i64 x.2.1) ∧ w = w' := by
 have HA := Lib.hid (show ∀ V, V = w → Calls Tryz.prog 46 #[.pointer (some ⟨g, 0, none⟩), .int .i64 a] V fun e w' => e = .returned (.bool true) ∧ V = w' from fun V e => e ▸ gArc_ok g N a w h (by omega) (by have := (List.getElem?_eq_some_iff.1 hx).1; omega))
 obtain ⟨A, B, C, I, O, P, n, m, k, c, d, e, ci, co, cp, h⟩ := h
 have hn1 := h.n1
 have ha : a < m := by have := (List.getElem?_eq_some_iff.1 hx).1; rw [h.net.2.1.1] at this; exact this
 have hm := h.ok.arLe h.net.2.1.1
 obtain ⟨b, o, x', y', z', rfl, hx', cx, cy, cz⟩ := h.net.2.1.at_ ha
 rw [hx] at hx'
 cases hx'
 have i1 : (0 : Int) ≤ (a : Int) := by omega
 have i2 : (a : Int) < (m : Int) := by omega
 clear hx h
 go_enter Tryz.func58, Tryz.ntmps58
 go_wp2_with fail
 with_reducible refine (HA.out _ rfl).mono ?_
 rintro e w' ⟨rfl, rfl⟩
 go_wp2
 go_ret
 exact ⟨rfl, rfl⟩
end Go.Proofs.YtpffhoefmcpniaaGreatDoor

namespace Go.Proofs.YtpffhoefmcpniaaGreatDoor
open Go.RowKit

attribute [local go_sem ↓] Go.wp_at_zero Go.wp_at_succ

theorem infoClL : (Tryz.prog.info? 2).map (fun i => (i.zero, i.size, i.bytes)) = some (some (.int .i64 0), 1, 8) := by kernel_rfl
set_option maxHeartbeats 1000000 in
theorem cloneL_any (A : Option Addr) (n c : Nat) (xs : List Value) (w : World) (h : Rds w 1 A n xs) (h1 : ∀ u ∈ xs, u.oneCell' = true) (hn : n ≤ 1000000000) :
 Calls Tryz.prog 79 #[.slice A n c] w fun e w' => ∃ A' c', e = .returned (.slice A' n c') ∧ Own w' w.heap.size 2 1 A' n c' xs ∧ Below w.heap.size w w' := by
 have q22 : ∀ (w : World) (a : Option Addr) (n c n' c' : Nat), (binOp .eql 59 (.slice a n c) (.slice none n' c')).run Tryz.prog w = .ok (.bool a.isNone) w := fun w a n c n' c' => Lib.run_eql_slice_nil w _ _ a n c n' c' Tryz.underlying59
 cases A with
 | none =>
  have hl : xs = [] := by
   cases hl : xs with
   | nil => rfl
   | cons p t =>
    obtain ⟨b, o, e, _⟩ := h.2 0 p (by rw [hl]; rfl)
    cases e
  subst hl
  have h0 : n = 0 := by have := h.1; simp at this; omega
  subst h0
  go_enter Tryz.func79, Tryz.ntmps79
  go_wp2
  go_ret
  exact ⟨none, 0, rfl, Own.nil _ _ _ _, bELt⟩
 | some a =>
  have hb1 : ∀ o, Below w.heap.size w (w.alloc o) := fun o => (Below.refl _ _).alloc (Nat.le_refl _) o
  have hown0 : Own (w.alloc (.cells #[] 2)) w.heap.size 2 1 (some ⟨w.heap.size, 0, none⟩) 0 0 [] := Own.lit w #[] 0 (Nat.le_refl _) (by omega) rfl
  go_enter Tryz.func79, Tryz.ntmps79
  go_wp2_with (at_builtin; with_reducible refine wpList_app rfl (.tmp 5) (.tmp 6) 59 rfl 2 _ 1 8 infoClL Tryz.underlying59 rfl (by omega) (B := w.heap.size) rfl rfl hown0 (h.below (hb1 _)) h1 (by omega) (by omega) (by simp) ?_)
  intro A' c' w' hown hg _
  have hb2 : Below w.heap.size w w' := Bel.grownOwn (hb1 _) hg hown0 (by simp)
  try simp only [Nat.zero_add, List.nil_append] at hown
  have HO := Lib.hid hown
  clear hown hg
  go_wp2
  go_ret
  exact ⟨_, _, rfl, HO.out, hb2⟩
theorem infoClV : (Tryz.prog.info? 120).map (fun i => (i.zero, i.size, i.bytes)) = some (some (.agg #[.int .i64 0, .int .i64 0, .int .i64 0]), 3, 24) := by kernel_rfl
set_option maxHeartbeats 1000000 in
theorem cloneV_any (A : Option Addr) (n c : Nat) (xs : List Value) (w : World) (h : Rds w 3 A n xs) (h1 : ∀ u ∈ xs, u.oneCell' = true) (hn : n ≤ 1000000000) :
 Calls Tryz.prog 80 #[.slice A n c] w fun e w' => ∃ A' c', e = .returned (.slice A' n c') ∧ Own w' w.heap.size 120 3 A' n c' xs ∧ Below w.heap.size w w' := by
 have q22 : ∀ (w : World) (a : Option Addr) (n c n' c' : Nat), (binOp .eql 77 (.slice a n c) (.slice none n' c')).run Tryz.prog w = .ok (.bool a.isNone) w := fun w a n c n' c' => Lib.run_eql_slice_nil w _ _ a n c n' c' Tryz.underlying77
 cases A with
 | none =>
  have hl : xs = [] := by
   cases hl : xs with
   | nil => rfl
   | cons p t =>
    obtain ⟨b, o, e, _⟩ := h.2 0 p (by rw [hl]; rfl)
    cases e
  subst hl
  have h0 : n = 0 := by have := h.1; simp at this; omega
  subst h0
  go_enter Tryz.func80, Tryz.ntmps80
  go_wp2
  go_ret
  exact ⟨none, 0, rfl, Own.nil _ _ _ _, bELt⟩
 | some a =>
  have hb1 : ∀ o, Below w.heap.size w (w.alloc o) := fun o => (Below.refl _ _).alloc (Nat.le_refl _) o
  have hown0 : Own (w.alloc (.cells #[] 120)) w.heap.size 120 3 (some ⟨w.heap.size, 0, none⟩) 0 0 [] := Own.lit w #[] 0 (Nat.le_refl _) (by omega) rfl
  go_enter Tryz.func80, Tryz.ntmps80
  go_wp2_with (at_builtin; with_reducible refine wpList_app rfl (.tmp 5) (.tmp 6) 77 rfl 120 _ 3 24 infoClV Tryz.underlying77 rfl (by omega) (B := w.heap.size) rfl rfl hown0 (h.below (hb1 _)) h1 (by omega) (by omega) (by simp) ?_)
  intro A' c' w' hown hg _
  have hb2 : Below w.heap.size w w' := Bel.grownOwn (hb1 _) hg hown0 (by simp)
  try simp only [Nat.zero_add, List.nil_append] at hown
  have HO := Lib.hid hown
  clear hown hg
  go_wp2
  go_ret
  exact ⟨_, _, rfl, HO.out, hb2⟩
theorem infoClA : (Tryz.prog.info? 111).map (fun i => (i.zero, i.size, i.bytes)) = some (some (.agg #[.int .i64 0, .int .i64 0, .int .i64 0]), 3, 24) := by kernel_rfl
set_option maxHeartbeats 1000000 in
theorem cloneA_any (A : Option Addr) (n c : Nat) (xs : List Value) (w : World) (h : Rds w 3 A n xs) (h1 : ∀ u ∈ xs, u.oneCell' = true) (hn : n ≤ 1000000000) :
 Calls Tryz.prog 81 #[.slice A n c] w fun e w' => ∃ A' c', e = .returned (.slice A' n c') ∧ Own w' w.heap.size 111 3 A' n c' xs ∧ Below w.heap.size w w' := by
 have q22 : ∀ (w : World) (a : Option Addr) (n c n' c' : Nat), (binOp .eql 78 (.slice a n c) (.slice none n' c')).run Tryz.prog w = .ok (.bool a.isNone) w := fun w a n c n' c' => Lib.run_eql_slice_nil w _ _ a n c n' c' Tryz.underlying78
 cases A with
 | none =>
  have hl : xs = [] := by
   cases hl : xs with
   | nil => rfl
   | cons p t =>
    obtain ⟨b, o, e, _⟩ := h.2 0 p (by rw [hl]; rfl)
    cases e
  subst hl
  have h0 : n = 0 := by have := h.1; simp at this; omega
  subst h0
  go_enter Tryz.func81, Tryz.ntmps81
  go_wp2
  go_ret
  exact ⟨none, 0, rfl, Own.nil _ _ _ _, bELt⟩
 | some a =>
  have hb1 : ∀ o, Below w.heap.size w (w.alloc o) := fun o => (Below.refl _ _).alloc (Nat.le_refl _) o
  have hown0 : Own (w.alloc (.cells #[] 111)) w.heap.size 111 3 (some ⟨w.heap.size, 0, none⟩) 0 0 [] := Own.lit w #[] 0 (Nat.le_refl _) (by omega) rfl
  go_enter Tryz.func81, Tryz.ntmps81
  go_wp2_with (at_builtin; with_reducible refine wpList_app rfl (.tmp 5) (.tmp 6) 78 rfl 111 _ 3 24 infoClA Tryz.underlying78 rfl (by omega) (B := w.heap.size) rfl rfl hown0 (h.below (hb1 _)) h1 (by omega) (by omega) (by simp) ?_)
  intro A' c' w' hown hg _
  have hb2 : Below w.heap.size w w' := Bel.grownOwn (hb1 _) hg hown0 (by simp)
  try simp only [Nat.zero_add, List.nil_append] at hown
  have HO := Lib.hid hown
  clear hown hg
  go_wp2
  go_ret
  exact ⟨_, _, rfl, HO.out, hb2⟩
end Go.Proofs.YtpffhoefmcpniaaGreatDoor
