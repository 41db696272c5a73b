/- Nets: weights, coordinates, tables. -/
import Derived.Test.YtgkeolddpielpaaGreatNv
namespace Go.Proofs.YtgkeolddpielpaaGreat
open Go.RowKit

attribute [local go_sem ↓] Go.wp_at_zero Go.wp_at_succ

/-- The parts of a Wrong: the call's own, from B on. -/
def Wg (B : Nat) (w : World) (A : Option Addr) (k c : Nat) : Prop := ∃ xs, Own w B 203 2 A k c xs ∧ (∀ u ∈ xs, u.oneCell' = true) ∧ k ≤ 1000000
theorem Wg.none (B : Nat) (w : World) : Wg B w none 0 0 := ⟨[], Own.nil _ _ _ _, by simp, by omega⟩
theorem Wg.setCell {B : Nat} {w : World} {A : Option Addr} {k c : Nat} (h : Wg B w A k c) {a : Addr} (ha : a.block < B) (u : Value) : Wg B (w.setCell a u) A k c := by
  obtain ⟨xs, h1, h2⟩ := h
  exact ⟨xs, ownsRow_setCell_below h1 ha u, h2⟩
theorem Wg.mono {B B' : Nat} {w : World} {A : Option Addr} {k c : Nat} (h : Wg B w A k c) (hB : B' ≤ B) : Wg B' w A k c := by
  obtain ⟨xs, h1, h2⟩ := h
  exact ⟨xs, h1.mono hB, h2⟩
theorem Wg.below {B : Nat} {w w' : World} {A : Option Addr} {k c : Nat} (h : Wg B w A k c) (hb : Below w.heap.size w w') : Wg B w' A k c := by
  obtain ⟨xs, h1, h2⟩ := h
  exact ⟨xs, h1.below hb, h2⟩
theorem Wg.alloc {B : Nat} {w : World} {A : Option Addr} {k c : Nat} (h : Wg B w A k c) (o : Obj) : Wg B (w.alloc o) A k c := by
  obtain ⟨xs, h1, h2⟩ := h
  exact ⟨xs, h1.alloc o, h2⟩
theorem Wg.drewN {B : Nat} {w : World} {A : Option Addr} {k c : Nat} (h : Wg B w A k c) (n : Nat) : Wg B (w.drewN n) A k c := h
/-- What tells no error: just of what may be. -/
def CkRes (G : Prop) (B : Nat) (e : Ending) (w : World) : Prop := ∃ (A : Option Addr) (k c : Nat) (x : Int), e = .returned (.agg #[.slice A k c, .int .i64 x]) ∧ Wg B w A k c ∧ ((x = 0 ∧ G) ∨ x ≠ 0)
theorem CkRes.no {G : Prop} {B : Nat} {w : World} {A : Option Addr} {k c : Nat} {x : Int} (hg : Wg B w A k c) (hx : x ≠ 0) : CkRes G B (.returned (.agg #[.slice A k c, .int .i64 x])) w := ⟨A, k, c, x, rfl, hg, .inr hx⟩
/-- The like, of one that is not looked into. -/
def CkRes0 (G : Prop) (e : Ending) : Prop := ∃ (A : Option Addr) (k c : Nat) (x : Int), e = .returned (.agg #[.slice A k c, .int .i64 x]) ∧ ((x = 0 ∧ G) ∨ x ≠ 0)
theorem CkRes0.no {G : Prop} {A : Option Addr} {k c : Nat} {x : Int} (hx : x ≠ 0) : CkRes0 G (.returned (.agg #[.slice A k c, .int .i64 x])) := ⟨A, k, c, x, rfl, .inr hx⟩
def RetAgg (B : Nat) (x : Int) (e : Ending) (w : World) : Prop := ∃ (A : Option Addr) (k c : Nat), e = .returned (.agg #[.slice A k c, .int .i64 x]) ∧ Wg B w A k c
theorem refAt0_any (s : ByteArray) (k c : Int) (w : World) : Calls Tryz.prog 91 #[.string s, .int .i64 k, .int .i64 c] w fun e w' => RetAgg w.heap.size c e w' ∧ Below w.heap.size w w' := by
  go_enter Tryz.func91, Tryz.ntmps91
  go_wp2
  refine bodyPost_ret (v := .agg #[.slice (some ⟨w.heap.size + 1, 0, none⟩) 1 1, .int .i64 c]) (by simp [results, Tryz.results91, go_sem]) rfl ?_
  refine ⟨⟨_, _, _, rfl, Wg.mono (B := w.heap.size + 1) ?_ (by omega)⟩, (by repeat (first | exact Below.refl _ _ | assumption | apply Below.drew | apply below_drewN | apply Bel.alloc | (refine Bel.setCell_ ?_ ?_; rotate_left; omega) | (refine Bel.step ?_ (by assumption))))⟩
  have hz : ∀ o, (w.alloc o).heap.size = w.heap.size + 1 := fun o => by show (w.heap.push o).size = _; exact Array.size_push ..
  have hO := Own.lit (B := w.heap.size + 1) (s := 2) (e := 203) (w.alloc (.cells #[.slice (some ⟨w.heap.size + 1, 0, none⟩) 1 1, .int .i64 c] 126)) #[.string s, .int .i64 k] 1 (by rw [hz]; exact Nat.le_refl _) (by omega) rfl
  rw [hz] at hO
  refine ⟨_, hO, ?_, by omega⟩
  simp [Value.oneCell']
theorem wOk_of {a : Int} (h0 : 0 ≤ a) (h1 : a ≤ 2147483648) : wOk a = true := by unfold wOk; simp [h0, h1]
theorem wOk_no {a : Int} (h : ¬ (0 ≤ a ∧ a ≤ 2147483648)) : wOk a = (a == 1152921504606846976) := by
  unfold wOk
  have : (decide (0 ≤ a) && decide (a ≤ 2147483648)) = false := by
    cases e : (decide (0 ≤ a) && decide (a ≤ 2147483648))
    · rfl
    · simp only [Bool.and_eq_true, decide_eq_true_eq] at e; exact absurd e h
  rw [this, Bool.false_or]
  by_cases h2 : a = 1152921504606846976
  · simp [h2]
  · rw [decide_eq_false h2]; symm; simpa using h2
theorem refWeight_any (a : Int) (w : World) : Calls Tryz.prog 23 #[.int .i64 a] w fun e w' => e = .returned (.bool (wOk a)) ∧ w = w' := by
  by_cases h0 : 0 ≤ a
  · by_cases h1 : a ≤ 2147483648
    · go_enter Tryz.func23, Tryz.ntmps23
      go_wp2
      go_ret
      exact ⟨ret_bool (by simp [wOk, h0, h1]), rfl⟩
    · go_enter Tryz.func23, Tryz.ntmps23
      go_wp2
      go_ret
      exact ⟨ret_bool (wOk_no (by omega)).symm, rfl⟩
  · go_enter Tryz.func23, Tryz.ntmps23
    go_wp2
    go_ret
    exact ⟨ret_bool (wOk_no (by omega)).symm, rfl⟩
theorem costWeight_any (a : Int) (w : World) : Calls Tryz.prog 54 #[.int .i64 a] w fun e w' => e = .returned (.bool (wOk a)) ∧ w = w' := by
  by_cases hI : a = 1152921504606846976
  · subst hI
    go_enter Tryz.func54, Tryz.ntmps54
    go_wp2
    go_ret
    exact ⟨ret_bool (by decide), rfl⟩
  · have h9 : (a == 1152921504606846976) = false := by simpa using hI
    have HI := Lib.hid hI
    clear hI
    by_cases h0 : 0 ≤ a
    · go_enter Tryz.func54, Tryz.ntmps54
      go_wp2
      go_ret
      exact ⟨ret_bool (by unfold wOk; rw [decide_eq_true h0, decide_eq_false HI.out]; simp), rfl⟩
    · go_enter Tryz.func54, Tryz.ntmps54
      go_wp2
      go_ret
      exact ⟨ret_bool (by rw [wOk_no (by omega)]; exact h9.symm), rfl⟩
theorem coord_any (x : Int) (w : World) : Calls Tryz.prog 134 #[.int .i64 x] w fun e w' => e = .returned (.bool (coordB x)) ∧ w = w' := by
  by_cases h1 : -1048576 ≤ x
  all_goals
    go_enter Tryz.func134, Tryz.ntmps134
    go_wp2
    go_ret
    exact ⟨ret_bool (by simp [coordB]; omega), rfl⟩
theorem far_ok (x : Int) (w : World) (h : coordB x = true) : Calls Tryz.prog 122 #[.int .i64 x] w fun e w' => e = .returned (.bool false) ∧ w = w' := by
  unfold coordB at h
  simp only [Bool.and_eq_true, decide_eq_true_eq] at h
  obtain ⟨h1, h2⟩ := h
  go_enter Tryz.func122, Tryz.ntmps122
  go_wp2
  go_ret
  exact ⟨ret_bool (by simp; omega), rfl⟩
theorem vertex_ok (A B C : Option Addr) (n m k c d e : Nat) (v : Int) (w : World) (h0 : 0 ≤ v) (h1 : v < n) :
    Calls Tryz.prog 123 #[.agg #[.slice A n c, .slice B m d, .slice C k e], .int .i64 v] w fun e w' => e = .returned (.bool true) ∧ Below w.heap.size w w' := by
  go_enter Tryz.func123, Tryz.ntmps123
  go_wp2
  go_ret
  exact ⟨rfl, (by repeat (first | exact Below.refl _ _ | assumption | apply Below.drew | apply below_drewN | apply Bel.alloc | (refine Bel.setCell_ ?_ ?_; rotate_left; omega) | (refine Bel.step ?_ (by assumption))))⟩
theorem sides_ok (i o : Int) (w : World) (i0 : 0 ≤ i) (i16 : i ≤ 16) (o0 : 0 ≤ o) (o16 : o ≤ 16) : Calls Tryz.prog 157 #[.int .i64 i, .int .i64 o] w fun e w' => e = .returned .nilIface ∧ w = w' := by
  go_enter Tryz.func157, Tryz.ntmps157
  go_wp2
  go_ret
  exact ⟨rfl, rfl⟩
theorem mul_bd {a b : Int} (a0 : 0 ≤ a) (a16 : a ≤ 16) (b0 : 0 ≤ b) (b16 : b ≤ 16) : 0 ≤ a * b ∧ a * b ≤ 256 :=
  ⟨Int.mul_nonneg a0 b0, by
    have h1 : a * b ≤ 16 * b := Int.mul_le_mul_of_nonneg_right a16 b0
    omega⟩

set_option maxHeartbeats 1000000 in
theorem turnCheck_ok (A : Option Addr) (n c : Nat) (t : TabD) (w : World) (h : RdI w A n t.costs) (ht : TabOk t) :
    Calls Tryz.prog 121 #[.agg #[.int .i64 t.ins, .int .i64 t.outs, .slice A n c]] w fun e w' => e = .returned .nilIface ∧ Below w.heap.size w w' := by
  obtain ⟨i, o, cs⟩ := t
  have i0 : 0 ≤ i := ht.i0
  have i16 : i ≤ 16 := ht.i16
  have o0 : 0 ≤ o := ht.o0
  have o16 : o ≤ 16 := ht.o16
  have hm := mul_bd i0 i16 o0 o16
  have hl : (cs.length : Int) = i * o := ht.len
  have h : RdI w A n cs := h
  rw [h.1] at hl
  have hok := ht.ok
  simp only at hok
  have HOK := Lib.hid hok
  have HL := Lib.hid hl
  have j1 : IntKind.i64.wrap (i * o) = i * o := IntWalk.i64_in _ (by omega)
  have j2 : ((n : Int) != i * o) = false := by simpa using hl
  have j3 : ((n : Int) == i * o) = true := by simpa using hl
  have HSD := Lib.hid (show ∀ V, Calls Tryz.prog 157 #[.int .i64 i, .int .i64 o] V fun e w' => e = .returned .nilIface ∧ V = w' from fun V => sides_ok i o V i0 i16 o0 o16)
  have hn : n ≤ 256 := by omega
  clear hok hl ht
  go_enter Tryz.func121, Tryz.ntmps121
  go_wp2_with fail
  (refine calls_named ?_; intro w1 hw1)
  have hb1 : Below w.heap.size w w1 := by rw [hw1]; exact (by repeat (first | exact Below.refl _ _ | assumption | apply Below.drew | apply below_drewN | apply Bel.alloc | (refine Bel.setCell_ ?_ ?_; rotate_left; omega) | (refine Bel.step ?_ (by assumption))))
  have hB1 : Blk w1 w.heap.size 149 #[.int .i64 i, .int .i64 o, .slice A n c] := by rw [hw1]; exact Blk.new _ _ _
  clear hw1
  with_reducible refine (HSD.out _).mono ?_
  rintro e w' ⟨rfl, rfl⟩
  have c0 := hB1.cell 0
  have c1 := hB1.cell 1
  have c2 := hB1.cell 2
  simp only [List.getElem?_toArray, List.getElem?_cons_zero, List.getElem?_cons_succ] at c0 c1 c2
  have h1 := h.below hb1
  go_wp2_with fail
  go_loop [27] (fun q => ∃ k : Nat, k ≤ n ∧ q = .int .i64 k) (fun q => n - (intOf q).toNat)
  case atStart => exact ⟨0, Nat.zero_le _, rfl⟩
  case round =>
    obtain ⟨k, hk, rfl⟩ := hrel
    by_cases hlt : k < n
    · obtain ⟨b, oo, x, rfl, hx, hc⟩ := h1.at_ hlt
      have HW := Lib.hid (show ∀ V, Calls Tryz.prog 54 #[.int .i64 x] V fun e w' => e = .returned (.bool true) ∧ V = w' from fun V => by
        have := costWeight_any x V
        rw [HOK.out x (List.mem_of_getElem? hx)] at this
        exact this)
      have i1 : (0 : Int) ≤ (k : Int) := by omega
      have i2 : (k : Int) < (n : Int) := by omega
      clear hx
      go_wp2_with fail
      with_reducible refine (HW.out _).mono ?_
      rintro e w' ⟨rfl, rfl⟩
      go_wp2_with fail
      go_round
      case rel => exact ⟨k + 1, by omega, by go_num⟩
      case measure => simp [intOf]; omega
    · go_wp2_with fail
      go_ret
      exact ⟨rfl, hb1⟩
end Go.Proofs.YtgkeolddpielpaaGreat
