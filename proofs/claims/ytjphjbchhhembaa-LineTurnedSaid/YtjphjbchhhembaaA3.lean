/- fresh, Ends, Half. -/
import Derived.Test.YtjphjbchhhembaaA2
import Derived.Deep.RegionHeld3
import Derived.Deep.DrawnRows
namespace Go.Proofs.Ytjphjbchhhembaa
open Go.RowKit

theorem splice_all {α : Type} (L cs : List α) (h : L.length = cs.length) : splice L 0 cs = cs := by
  simp [splice, ← h]

/-- The built-in copy of a whole slice of ints into a row of the call's own of that length. -/
theorem wpList_copy_ints {P : Program} {w : World} {ops : Array Oper} {rest : List Oper} {o : Oper} {a : Act} {Q : Exit → Act → World → Prop} (hgd : o.guard = none) (d s : Operand) (dT : TypeId)
    (ho : o.op = .call { callee := .builtin .copy, args := #[d, s], argTypes := #[dT, dT] }) (elem : TypeId) (hu : P.underlying dT = some (.slice elem)) (hsz : (P.info? elem).map (·.size) = some 1)
    (A : Option Addr) (g n dCap c : Nat) (hd : a.eval d = .slice (some ⟨g, 0, none⟩) n dCap) (hs : a.eval s = .slice A n c)
    (m l : List Int) (hm : m.length = n) (hg : Blk w g elem (ints m)) (hr : RdI w A n l) (B : Nat) (w0 : World) (hb : Below B w0 w) (hBg : B ≤ g)
    (h : ∀ w', Blk w' g elem (ints l) → Below B w0 w' → wpList P ops Q rest (a.put o.dst (goInt n)) w') :
    wpList P ops Q (o :: rest) a w := by
  have hl : l.length = n := hr.1
  refine wpList_copy_splice hgd d s dT dT ho elem hu hsz (some ⟨g, 0, none⟩) A n dCap n c hd hs g 0 (m.map (.int .i64)) elem hg (l.map (.int .i64)) (by simp [hl]) ?_ (by simp [hl, hm]) ?_ B w0 hb hBg ?_
  · intro h0
    rw [List.length_map, hl] at h0
    obtain ⟨b, o, x, rfl, _, _⟩ := hr.at_ h0
    refine ⟨rfl, _, rfl, fun j v hj => ?_⟩
    rw [List.getElem?_map] at hj
    cases hx : l[j]? with
    | none => rw [hx] at hj; cases hj
    | some x =>
      rw [hx] at hj
      cases hj
      obtain ⟨b', o', e, hc⟩ := hr.2 j x hx
      cases e
      cases j with
      | zero => simpa [Addr.add] using hc
      | succ j => simpa [Addr.add] using hc
  · intro v hv
    obtain ⟨x, _, rfl⟩ := List.mem_map.1 hv
    rfl
  · intro w' hg' hb'
    have hg2 : Blk w' g elem (ints l) := by
      have := hg'.out
      rw [splice_all _ _ (by simp [hl, hm])] at this
      exact this
    rw [show ((l.map (Value.int .i64)).length) = n by simp [hl]]
    exact h w' hg2 hb'

set_option maxHeartbeats 400000 in
theorem fresh_any (A : Option Addr) (n c : Nat) (l : List Int) (w : World) (h : RdI w A n l) (hn : n ≤ 1000000000000) :
    Calls Try.prog 21 #[.slice A n c] w fun e w' => ∃ A', e = .returned (.slice A' n n) ∧ RdI w' A' n l ∧ Below w.heap.size w w' := by
  by_cases h0 : n = 0
  · subst h0
    have hl : l = [] := List.eq_nil_of_length_eq_zero h.1
    go_enter Try.func21, Try.ntmps21
    go_wp2
    go_ret
    exact ⟨none, rfl, ⟨h.1, fun i x hx => by rw [hl] at hx; simp at hx⟩, Below.refl _ _⟩
  · have hne : ((n : Int) == 0) = false := by simp; omega
    have hmk := fun W => run_make1 (P := Try.prog) 26 3 (.int .i64 0) 8 Try.info3 Try.underlying26 rfl n (by omega) (by omega) .i64 .i64 W
    have hsz : (Try.prog.info? 3).map (·.size) = some 1 := by kernel_rfl
    have hl : l.length = n := h.1
    have hb : Below w.heap.size w (w.alloc (.cells (zeros (.int .i64 0) n) 3)) := (Below.refl _ _).alloc (Nat.le_refl _) _
    have hrd := h.below hb
    have hg : Blk (w.alloc (.cells (zeros (.int .i64 0) n) 3)) w.heap.size 3 (ints (List.replicate n 0)) := by rw [← zeros_int]; exact Blk.new w _ _
    have HL := Lib.hid hl; clear hl
    clear h0
    go_enter Try.func21, Try.ntmps21
    go_wp2_with (with_reducible refine wpList_copy_ints rfl (.tmp 10) (.tmp 11) 26 rfl 3 Try.underlying26 hsz A w.heap.size n n c rfl rfl _ l (List.length_replicate ..) hg hrd w.heap.size w hb (Nat.le_refl _) ?_)
    intro w' hg' hb'
    go_wp2
    go_ret
    exact ⟨_, rfl, hg'.rdI HL.out, hb'⟩

set_option maxHeartbeats 400000 in
theorem half_any (A : Option Addr) (n c : Nat) (l : List Int) (w : World) (h : RdI w A n l) (hn : n ≤ 1000000000000) (hc : n ≤ c) :
    Calls Try.prog 13 #[.slice A n c] w fun e w' => ∃ A', e = .returned (.slice A' ((n + 1) / 2) ((n + 1) / 2)) ∧ RdI w' A' ((n + 1) / 2) (l.take ((n + 1) / 2)) ∧ Below w.heap.size w w' := by
  have hh : (n + 1) / 2 ≤ n := by omega
  have H := h.take hh
  have e1 : ((n : Int) + 1) / 2 = (((n + 1) / 2 : Nat) : Int) := by omega
  have i1 : (0 : Int) ≤ ((n : Int) + 1) / 2 := by omega
  have i2 : ((n : Int) + 1) / 2 ≤ (n : Int) := by omega
  have i3 : ((n : Int) + 1) / 2 ≤ (c : Int) := by omega
  have E1 := Lib.hid e1; clear e1
  go_enter Try.func13, Try.ntmps13
  go_wp2_with (go_at_call 21; refine (fresh_any _ _ _ _ _ H (by omega)).mono ?_; rintro e w' ⟨A', rfl, hr, hb⟩)
  go_ret
  exact ⟨_, rfl, hr, hb⟩

attribute [local go_sem ↓] Go.wp_at_zero Go.wp_at_succ
set_option maxHeartbeats 400000 in
theorem ends2_any (A : Option Addr) (n c : Nat) (l : List Int) (w : World) (h : RdI w A n l) (hn : n ≤ 1000000000000) (hc : n ≤ c) :
    Calls Try.prog 12 #[.slice A n c] w fun e w' => ∃ A1 A2, e = .returned (.tuple #[.slice A1 (endsN n) (endsN n), .slice A2 (endsN n) (endsN n)]) ∧ RdI w' A1 (endsN n) (l.take (endsN n)) ∧ RdI w' A2 (endsN n) (l.drop (n - endsN n)) ∧ Below w.heap.size w w' := by
  have hh : endsN n ≤ n := by unfold endsN; split <;> omega
  have i1 : (0 : Int) ≤ (endsN n : Int) := by omega
  have i2 : (endsN n : Int) ≤ (n : Int) := by omega
  have i3 : (endsN n : Int) ≤ (c : Int) := by omega
  have i4 : (n : Int) ≤ (c : Int) := by omega
  have i5 : (0 : Int) ≤ (n : Int) - (endsN n : Int) := by omega
  have i6 : (n : Int) - (endsN n : Int) ≤ (n : Int) := by omega
  have i7 : (n : Int) - (endsN n : Int) ≤ (c : Int) := by omega
  have i8 : IntKind.i64.wrap ((n : Int) - (endsN n : Int)) = (n : Int) - (endsN n : Int) := IntWalk.i64_in _ (by omega)
  have i9 : ((n : Int) - (endsN n : Int)).toNat = n - endsN n := by omega
  have H1 := Lib.hid (h.take hh)
  have H2 := Lib.hid (h.cut (m := n - endsN n) (r := endsN n) (by omega) (by omega) hc)
  have hsl := fun W => run_cut_l (P := Try.prog) 26 3 1 Try.underlying26 (by kernel_rfl) (by kernel_rfl) A n c (n - endsN n) (endsN n) (by omega) (by omega) .i64 ((n : Int) - (endsN n : Int)) (by omega) W
  go_enter Try.func12, Try.ntmps12
  go_wp2_with (go_at_call 20; refine (ends_any _ _ (by omega)).mono ?_; rintro e w' ⟨rfl, rfl⟩)
  go_region_held3 (fun _ => True) (trivial) (first
    | (go_at_call 21; (with_reducible refine (fresh_any _ _ _ _ _ (H1.out.below (by repeat (first | exact Below.refl _ _ | assumption | apply Below.drew | apply below_drewN | apply Bel.alloc | (refine Bel.setCell_ ?_ ?_; rotate_left; omega) | (refine Bel.step ?_ (by assumption))))) (by omega)).mono ?_); rintro e w1 ⟨A1, rfl, hr1, hb1⟩)
    | (go_at_call 21; (with_reducible refine (fresh_any _ _ _ _ _ (H2.out.below (by repeat (first | exact Below.refl _ _ | assumption | apply Below.drew | apply below_drewN | apply Bel.alloc | (refine Bel.setCell_ ?_ ?_; rotate_left; omega) | (refine Bel.step ?_ (by assumption))))) (by omega)).mono ?_); rintro e w2 ⟨A2, rfl, hr2, hb2⟩))
  go_wp2
  go_ret2
  exact ⟨_, _, rfl, hr1.below hb2, hr2, (by repeat (first | exact Below.refl _ _ | assumption | apply Below.drew | apply below_drewN | apply Bel.alloc | (refine Bel.setCell_ ?_ ?_; rotate_left; omega) | (refine Bel.step ?_ (by assumption))))⟩

def cnt (l : List Bool) : Nat := l.count true
def fairB (l : List Bool) : Bool := decide (2 ≤ l.length) && (decide (endsN l.length ≤ cnt l) && decide (endsN l.length ≤ l.length - cnt l))
theorem cnt_take {l : List Bool} {k : Nat} {b : Bool} (h : l[k]? = some b) : cnt (l.take (k + 1)) = cnt (l.take k) + if b then 1 else 0 := by
  unfold cnt
  rw [List.take_add_one, h]
  cases b <;> simp
theorem cnt_le (l : List Bool) (k : Nat) : cnt (l.take k) ≤ k := by
  unfold cnt
  exact Nat.le_trans List.count_le_length (List.length_take_le _ _)

set_option maxHeartbeats 400000 in
theorem fair_any (A : Option Addr) (n c : Nat) (l : List Bool) (w : World) (h : RdB w A n l) (hn : n ≤ 1000000000000) :
    Calls Try.prog 14 #[.slice A n c] w fun e w' => e = .returned (.bool (fairB l)) ∧ w = w' := by
  have hl : l.length = n := h.1
  by_cases h2 : n < 2
  · have HL := Lib.hid hl; clear hl
    go_enter Try.func14, Try.ntmps14
    go_wp2
    go_ret
    exact ⟨ret_bool (by simp [fairB, HL.out]; omega), rfl⟩
  · have HL := Lib.hid hl; clear hl
    go_enter Try.func14, Try.ntmps14
    go_wp2
    go_loop [4, 13] (fun t i => ∃ k : Nat, k ≤ n ∧ i = .int .i64 k ∧ t = .int .i64 (cnt (l.take k))) (fun _ i => n - (intOf i).toNat)
    case atStart => exact ⟨0, Nat.zero_le _, rfl, by simp [cnt]⟩
    case round =>
      obtain ⟨k, hk, rfl, rfl⟩ := hrel
      have hle := cnt_le l k
      by_cases hlt : k < n
      · obtain ⟨b, o, x, rfl, hx, hc⟩ := h.at_ hlt
        have HS := Lib.hid (cnt_take hx)
        clear hx
        cases x
        all_goals
          go_wp2
          go_round
          case rel => exact ⟨k + 1, by omega, by go_num, by rw [HS.out]; first | rfl | go_num⟩
          case measure => simp [intOf]; omega
      · obtain rfl : k = n := by omega
        have ht : l.take k = l := List.take_of_length_le (by rw [HL.out]; exact Nat.le_refl _)
        have HT := Lib.hid ht; clear ht
        have hfin : fairB l = (decide (endsN k ≤ cnt (l.take k)) && decide (endsN k ≤ k - cnt (l.take k))) := by
          unfold fairB; rw [HL.out, HT.out]; simp; omega
        have HF := Lib.hid hfin; clear hfin
        generalize cnt (l.take k) = m at *
        by_cases hm : endsN k ≤ m
        all_goals
          go_wp2_with (go_at_call 20; refine (ends_any _ _ (by omega)).mono ?_; rintro e w' ⟨rfl, rfl⟩)
          go_ret
          exact ⟨ret_bool (by rw [HF.out]; first | (simp [hm]; omega) | simp [hm]), rfl⟩
end Go.Proofs.Ytjphjbchhhembaa
