/- Walks over points: Near, Key, ends, fresh, Ends, Half, Fair, the closure of Order (out of XA1 .. XA4, for the cut of the cards) -/
import Derived.Test.YtjphjbchhhembaaDoorKit
import Derived.Deep.QuietTactic
import Derived.BigQuiet
import Derived.Laws.CopyOwn
import Derived.Deep.RegionHeld3
import Derived.Deep.DrawnRows
namespace Go.Proofs.YtjphjbchhhembaaDoor
open Go.RowKit


def coordB (x : Int) : Bool := decide (-1048576 ≤ x) && decide (x ≤ 1048576)
theorem coord_any (x : Int) (w : World) : Calls Tryd.prog 43 #[.int .i64 x] w fun e w' => e = .returned (.bool (coordB x)) ∧ w = w' := by
  by_cases h1 : -1048576 ≤ x
  all_goals
    go_enter Tryd.func43, Tryd.ntmps43
    go_wp2
    go_ret
    exact ⟨ret_bool (by simp [coordB]; omega), rfl⟩

theorem ne_of_at {l m : List Int} {k : Nat} {x y : Int} (hx : l[k]? = some x) (hy : m[k]? = some y) (h : x ≠ y) : (l == m) = false := by
  simp only [beq_eq_false_iff_ne]
  rintro rfl
  rw [hx] at hy; cases hy; exact h rfl

theorem eq_of_all {l m : List Int} (h : l.length = m.length) (ha : ∀ j, j < l.length → l[j]? = m[j]?) : l = m := by
  apply List.ext_getElem?
  intro j
  rcases Nat.lt_or_ge j l.length with h1 | h1
  · exact ha j h1
  · rw [List.getElem?_eq_none h1, List.getElem?_eq_none (by omega)]


def near1 (p : Int × Int) : Bool := coordB p.1 && coordB p.2
def nearB (l : List (Int × Int)) : Bool := l.all near1 && decide (l.length ≤ 120)
theorem nearB_miss {l : List (Int × Int)} {k : Nat} {p : Int × Int} (h : l[k]? = some p) (hn : near1 p = false) : nearB l = false := by
  unfold nearB
  rw [Bool.and_eq_false_iff]
  left
  rw [List.all_eq_false]
  exact ⟨p, List.mem_of_getElem? h, by simp [hn]⟩
theorem nearB_all {l : List (Int × Int)} (h : ∀ j, j < l.length → ∀ p, l[j]? = some p → near1 p = true) : nearB l = decide (l.length ≤ 120) := by
  have : l.all near1 = true := List.all_eq_true.2 (fun p hp => by
    obtain ⟨j, hj, e⟩ := List.getElem_of_mem hp
    exact h j hj p (by rw [List.getElem?_eq_getElem hj, e]))
  simp [nearB, this]

set_option maxHeartbeats 400000 in
theorem near_any (A : Option Addr) (n c : Nat) (l : List (Int × Int)) (w : World) (h : RdP w A n l) (hn : n ≤ 4000000000000000000) :
    Calls Tryd.prog 20 #[.slice A n c] w fun e w' => e = .returned (.bool (nearB l)) ∧ w = w' := by
  go_enter Tryd.func20, Tryd.ntmps20
  go_wp2
  go_loop [3] (fun i => ∃ k : Nat, k ≤ n ∧ i = .int .i64 k ∧ (∀ j, j < k → ∀ p, l[j]? = some p → near1 p = true)) (fun i => n - (intOf i).toNat)
  case atStart => exact ⟨0, Nat.zero_le _, rfl, fun _ h => absurd h (by omega)⟩
  case round =>
    obtain ⟨k, hk, rfl, hj⟩ := hrel
    have HJ := Lib.hid hj; clear hj
    by_cases hlt : k < n
    · obtain ⟨b, o, x, y, rfl, hx, hc, hd⟩ := h.at_ hlt
      have HX := Lib.hid hx; clear hx
      cases hcx : coordB x
      · have HC := Lib.hid hcx
        go_wp2_with (go_at_call 43; refine (coord_any _ _).mono ?_; rintro e w' ⟨rfl, rfl⟩)
        go_ret
        exact ⟨ret_bool (nearB_miss HX.out (by simp [near1, HC.out])).symm, rfl⟩
      · cases hcy : coordB y
        · have HC := Lib.hid hcy
          go_wp2_with (go_at_call 43; refine (coord_any _ _).mono ?_; rintro e w' ⟨rfl, rfl⟩)
          go_ret
          exact ⟨ret_bool (nearB_miss HX.out (by simp [near1, HC.out])).symm, rfl⟩
        · have HC := Lib.hid hcx
          have HD := Lib.hid hcy
          go_wp2_with (go_at_call 43; refine (coord_any _ _).mono ?_; rintro e w' ⟨rfl, rfl⟩)
          go_round
          case rel => exact ⟨k + 1, by omega, by go_num, fun j hj p hp => by
            rcases Nat.lt_or_ge j k with h1 | h1
            · exact HJ.out j h1 p hp
            · obtain rfl : j = k := by omega
              rw [HX.out] at hp; cases hp; simp [near1, HC.out, HD.out]⟩
          case measure => simp [intOf]; omega
    · have hl : l.length = n := h.1
      have HL := Lib.hid hl; clear hl
      go_wp2
      go_ret
      exact ⟨ret_bool (by rw [nearB_all (fun j hj => HJ.out j (by rw [HL.out] at hj; omega)), HL.out]; simp; omega), rfl⟩

/-- Where a point stands in a direction. -/
def key (p : Int × Int) (d : Int) : Int := if d = 0 then p.1 else if d = 1 then p.2 else if d = 2 then p.1 + p.2 else if d = 3 then p.1 - p.2 else 0

theorem key_any (x y d : Int) (w : World) (hx : -1000000000000 ≤ x) (hx' : x ≤ 1000000000000) (hy : -1000000000000 ≤ y) (hy' : y ≤ 1000000000000) (hd : 0 ≤ d) (hd' : d ≤ 3) :
    Calls Tryd.prog 96 #[.agg #[.int .i64 x, .int .i64 y], .int .i64 d] w fun e w' => e = .returned (.int .i64 (key (x, y) d)) ∧ ∃ q, w' = (w.alloc (.cells #[.int .i64 x, .int .i64 y] 62)).drewN q := by
  rcases (show d = 0 ∨ d = 1 ∨ d = 2 ∨ d = 3 by omega) with rfl | rfl | rfl | rfl
  all_goals
    go_enter Tryd.func96, Tryd.ntmps96
    go_wp2
    go_quiet (fail)
    go_wp2
    go_ret
    exact ⟨ret_int (by simp [key] <;> omega), _, rfl⟩

def endsN (n : Nat) : Nat := if n < 2 then 0 else (n + 3) / 4
theorem ends_any (n : Nat) (w : World) (hn : n ≤ 4000000000000000000) :
    Calls Tryd.prog 47 #[.int .i64 n] w fun e w' => e = .returned (.int .i64 (endsN n)) ∧ w = w' := by
  by_cases h : n < 2
  all_goals
    go_enter Tryd.func47, Tryd.ntmps47
    go_wp2
    go_ret
    exact ⟨ret_int (by simp [endsN, h]), rfl⟩

theorem Tryd.info3 : (Tryd.prog.info? 3).map (fun i => (i.zero, i.size, i.bytes)) = some (some (.int .i64 0), 1, 8) := by kernel_rfl


theorem splice_all {α : Type} (L cs : List α) (h : L.length = cs.length) : splice L 0 cs = cs := by
  simp [splice, ← h]

/-- The built-in copy of a whole slice of ints into a row of the call's own of that length. -/
theorem wpList_copy_ints {P : Program} {w : World} {ops : Array Oper} {rest : List Oper} {o : Oper} {a : Act} {Q : Exit → Act → World → Prop} (hgd : o.guard = none) (d s : Operand) (dT : TypeId)
    (ho : o.op = .call { callee := .builtin .copy, args := #[d, s], argTypes := #[dT, dT] }) (elem : TypeId) (hu : P.underlying dT = some (.slice elem)) (hsz : (P.info? elem).map (·.size) = some 1)
    (A : Option Addr) (g n dCap c : Nat) (hd : a.eval d = .slice (some ⟨g, 0, none⟩) n dCap) (hs : a.eval s = .slice A n c)
    (m l : List Int) (hm : m.length = n) (hg : Blk w g elem (ints m)) (hr : RdI w A n l) (B : Nat) (w0 : World) (hb : Below B w0 w) (hBg : B ≤ g)
    (h : ∀ w', Blk w' g elem (ints l) → Below B w0 w' → wpList P ops Q rest (a.put o.dst (goInt n)) w') :
    wpList P ops Q (o :: rest) a w := by
  have hl : l.length = n := hr.1
  refine wpList_copy_splice hgd d s dT dT ho elem hu hsz (some ⟨g, 0, none⟩) A n dCap n c hd hs g 0 (m.map (.int .i64)) elem hg (l.map (.int .i64)) (by simp [hl]) ?_ (by simp [hl, hm]) ?_ B w0 hb hBg ?_
  · intro h0
    rw [List.length_map, hl] at h0
    obtain ⟨b, o, x, rfl, _, _⟩ := hr.at_ h0
    refine ⟨rfl, _, rfl, fun j v hj => ?_⟩
    rw [List.getElem?_map] at hj
    cases hx : l[j]? with
    | none => rw [hx] at hj; cases hj
    | some x =>
      rw [hx] at hj
      cases hj
      obtain ⟨b', o', e, hc⟩ := hr.2 j x hx
      cases e
      cases j with
      | zero => simpa [Addr.add] using hc
      | succ j => simpa [Addr.add] using hc
  · intro v hv
    obtain ⟨x, _, rfl⟩ := List.mem_map.1 hv
    rfl
  · intro w' hg' hb'
    have hg2 : Blk w' g elem (ints l) := by
      have := hg'.out
      rw [splice_all _ _ (by simp [hl, hm])] at this
      exact this
    rw [show ((l.map (Value.int .i64)).length) = n by simp [hl]]
    exact h w' hg2 hb'

set_option maxHeartbeats 400000 in
theorem fresh_any (A : Option Addr) (n c : Nat) (l : List Int) (w : World) (h : RdI w A n l) (hn : n ≤ 1000000000000) :
    Calls Tryd.prog 99 #[.slice A n c] w fun e w' => ∃ A', e = .returned (.slice A' n n) ∧ RdI w' A' n l ∧ Below w.heap.size w w' := by
  by_cases h0 : n = 0
  · subst h0
    have hl : l = [] := List.eq_nil_of_length_eq_zero h.1
    go_enter Tryd.func99, Tryd.ntmps99
    go_wp2
    go_ret
    exact ⟨none, rfl, ⟨h.1, fun i x hx => by rw [hl] at hx; simp at hx⟩, Below.refl _ _⟩
  · have hne : ((n : Int) == 0) = false := by simp; omega
    have hmk := fun W => run_make1 (P := Tryd.prog) 41 3 (.int .i64 0) 8 Tryd.info3 Tryd.underlying41 rfl n (by omega) (by omega) .i64 .i64 W
    have hsz : (Tryd.prog.info? 3).map (·.size) = some 1 := by kernel_rfl
    have hl : l.length = n := h.1
    have hb : Below w.heap.size w (w.alloc (.cells (zeros (.int .i64 0) n) 3)) := (Below.refl _ _).alloc (Nat.le_refl _) _
    have hrd := h.below hb
    have hg : Blk (w.alloc (.cells (zeros (.int .i64 0) n) 3)) w.heap.size 3 (ints (List.replicate n 0)) := by rw [← zeros_int]; exact Blk.new w _ _
    have HL := Lib.hid hl; clear hl
    clear h0
    go_enter Tryd.func99, Tryd.ntmps99
    go_wp2_with (with_reducible refine wpList_copy_ints rfl (.tmp 10) (.tmp 11) 41 rfl 3 Tryd.underlying41 hsz A w.heap.size n n c rfl rfl _ l (List.length_replicate ..) hg hrd w.heap.size w hb (Nat.le_refl _) ?_)
    intro w' hg' hb'
    go_wp2
    go_ret
    exact ⟨_, rfl, hg'.rdI HL.out, hb'⟩

set_option maxHeartbeats 400000 in
theorem half_any (A : Option Addr) (n c : Nat) (l : List Int) (w : World) (h : RdI w A n l) (hn : n ≤ 1000000000000) (hc : n ≤ c) :
    Calls Tryd.prog 75 #[.slice A n c] w fun e w' => ∃ A', e = .returned (.slice A' ((n + 1) / 2) ((n + 1) / 2)) ∧ RdI w' A' ((n + 1) / 2) (l.take ((n + 1) / 2)) ∧ Below w.heap.size w w' := by
  have hh : (n + 1) / 2 ≤ n := by omega
  have H := h.take hh
  have e1 : ((n : Int) + 1) / 2 = (((n + 1) / 2 : Nat) : Int) := by omega
  have i1 : (0 : Int) ≤ ((n : Int) + 1) / 2 := by omega
  have i2 : ((n : Int) + 1) / 2 ≤ (n : Int) := by omega
  have i3 : ((n : Int) + 1) / 2 ≤ (c : Int) := by omega
  have E1 := Lib.hid e1; clear e1
  go_enter Tryd.func75, Tryd.ntmps75
  go_wp2_with (go_at_call 99; refine (fresh_any _ _ _ _ _ H (by omega)).mono ?_; rintro e w' ⟨A', rfl, hr, hb⟩)
  go_ret
  exact ⟨_, rfl, hr, hb⟩

attribute [local go_sem ↓] Go.wp_at_zero Go.wp_at_succ
set_option maxHeartbeats 400000 in
theorem ends2_any (A : Option Addr) (n c : Nat) (l : List Int) (w : World) (h : RdI w A n l) (hn : n ≤ 1000000000000) (hc : n ≤ c) :
    Calls Tryd.prog 73 #[.slice A n c] w fun e w' => ∃ A1 A2, e = .returned (.tuple #[.slice A1 (endsN n) (endsN n), .slice A2 (endsN n) (endsN n)]) ∧ RdI w' A1 (endsN n) (l.take (endsN n)) ∧ RdI w' A2 (endsN n) (l.drop (n - endsN n)) ∧ Below w.heap.size w w' := by
  have hh : endsN n ≤ n := by unfold endsN; split <;> omega
  have i1 : (0 : Int) ≤ (endsN n : Int) := by omega
  have i2 : (endsN n : Int) ≤ (n : Int) := by omega
  have i3 : (endsN n : Int) ≤ (c : Int) := by omega
  have i4 : (n : Int) ≤ (c : Int) := by omega
  have i5 : (0 : Int) ≤ (n : Int) - (endsN n : Int) := by omega
  have i6 : (n : Int) - (endsN n : Int) ≤ (n : Int) := by omega
  have i7 : (n : Int) - (endsN n : Int) ≤ (c : Int) := by omega
  have i8 : IntKind.i64.wrap ((n : Int) - (endsN n : Int)) = (n : Int) - (endsN n : Int) := IntWalk.i64_in _ (by omega)
  have i9 : ((n : Int) - (endsN n : Int)).toNat = n - endsN n := by omega
  have H1 := Lib.hid (h.take hh)
  have H2 := Lib.hid (h.cut (m := n - endsN n) (r := endsN n) (by omega) (by omega) hc)
  have hsl := fun W => run_cut_l (P := Tryd.prog) 41 3 1 Tryd.underlying41 (by kernel_rfl) (by kernel_rfl) A n c (n - endsN n) (endsN n) (by omega) (by omega) .i64 ((n : Int) - (endsN n : Int)) (by omega) W
  go_enter Tryd.func73, Tryd.ntmps73
  go_wp2_with (go_at_call 47; refine (ends_any _ _ (by omega)).mono ?_; rintro e w' ⟨rfl, rfl⟩)
  go_region_held3 (fun _ => True) (trivial) (first
    | (go_at_call 99; (with_reducible refine (fresh_any _ _ _ _ _ (H1.out.below (by repeat (first | exact Below.refl _ _ | assumption | apply Below.drew | apply below_drewN | apply Bel.alloc | (refine Bel.setCell_ ?_ ?_; rotate_left; omega) | (refine Bel.step ?_ (by assumption))))) (by omega)).mono ?_); rintro e w1 ⟨A1, rfl, hr1, hb1⟩)
    | (go_at_call 99; (with_reducible refine (fresh_any _ _ _ _ _ (H2.out.below (by repeat (first | exact Below.refl _ _ | assumption | apply Below.drew | apply below_drewN | apply Bel.alloc | (refine Bel.setCell_ ?_ ?_; rotate_left; omega) | (refine Bel.step ?_ (by assumption))))) (by omega)).mono ?_); rintro e w2 ⟨A2, rfl, hr2, hb2⟩))
  go_wp2
  go_ret2
  exact ⟨_, _, rfl, hr1.below hb2, hr2, (by repeat (first | exact Below.refl _ _ | assumption | apply Below.drew | apply below_drewN | apply Bel.alloc | (refine Bel.setCell_ ?_ ?_; rotate_left; omega) | (refine Bel.step ?_ (by assumption))))⟩

def cnt (l : List Bool) : Nat := l.count true
def fairB (l : List Bool) : Bool := decide (2 ≤ l.length) && (decide (endsN l.length ≤ cnt l) && decide (endsN l.length ≤ l.length - cnt l))
theorem cnt_take {l : List Bool} {k : Nat} {b : Bool} (h : l[k]? = some b) : cnt (l.take (k + 1)) = cnt (l.take k) + if b then 1 else 0 := by
  unfold cnt
  rw [List.take_add_one, h]
  cases b <;> simp
theorem cnt_le (l : List Bool) (k : Nat) : cnt (l.take k) ≤ k := by
  unfold cnt
  exact Nat.le_trans List.count_le_length (List.length_take_le _ _)

set_option maxHeartbeats 400000 in
theorem fair_any (A : Option Addr) (n c : Nat) (l : List Bool) (w : World) (h : RdB w A n l) (hn : n ≤ 1000000000000) :
    Calls Tryd.prog 21 #[.slice A n c] w fun e w' => e = .returned (.bool (fairB l)) ∧ w = w' := by
  have hl : l.length = n := h.1
  by_cases h2 : n < 2
  · have HL := Lib.hid hl; clear hl
    go_enter Tryd.func21, Tryd.ntmps21
    go_wp2
    go_ret
    exact ⟨ret_bool (by simp [fairB, HL.out]; omega), rfl⟩
  · have HL := Lib.hid hl; clear hl
    go_enter Tryd.func21, Tryd.ntmps21
    go_wp2
    go_loop [4, 13] (fun t i => ∃ k : Nat, k ≤ n ∧ i = .int .i64 k ∧ t = .int .i64 (cnt (l.take k))) (fun _ i => n - (intOf i).toNat)
    case atStart => exact ⟨0, Nat.zero_le _, rfl, by simp [cnt]⟩
    case round =>
      obtain ⟨k, hk, rfl, rfl⟩ := hrel
      have hle := cnt_le l k
      by_cases hlt : k < n
      · obtain ⟨b, o, x, rfl, hx, hc⟩ := h.at_ hlt
        have HS := Lib.hid (cnt_take hx)
        clear hx
        cases x
        all_goals
          go_wp2
          go_round
          case rel => exact ⟨k + 1, by omega, by go_num, by rw [HS.out]; first | rfl | go_num⟩
          case measure => simp [intOf]; omega
      · obtain rfl : k = n := by omega
        have ht : l.take k = l := List.take_of_length_le (by rw [HL.out]; exact Nat.le_refl _)
        have HT := Lib.hid ht; clear ht
        have hfin : fairB l = (decide (endsN k ≤ cnt (l.take k)) && decide (endsN k ≤ k - cnt (l.take k))) := by
          unfold fairB; rw [HL.out, HT.out]; simp; omega
        have HF := Lib.hid hfin; clear hfin
        generalize cnt (l.take k) = m at *
        by_cases hm : endsN k ≤ m
        all_goals
          go_wp2_with (go_at_call 47; refine (ends_any _ _ (by omega)).mono ?_; rintro e w' ⟨rfl, rfl⟩)
          go_ret
          exact ⟨ret_bool (by rw [HF.out]; first | (simp [hm]; omega) | simp [hm]), rfl⟩


def cmpI (a b : Int) : Int := if a < b then -1 else if b < a then 1 else 0
theorem isNaN_any (a : Int) (w : World) : Calls Tryd.prog 68 #[.int .i64 a] w fun e w' => e = .returned (.bool false) ∧ w = w' := by
  go_enter Tryd.func68, Tryd.ntmps68
  go_wp2
  go_ret
  exact ⟨ret_bool (by simp), rfl⟩
theorem compare_any (a b : Int) (w : World) : Calls Tryd.prog 39 #[.int .i64 a, .int .i64 b] w fun e w' => e = .returned (.int .i64 (cmpI a b)) ∧ w = w' := by
  by_cases h1 : a < b
  · go_enter Tryd.func39, Tryd.ntmps39
    go_wp2_with (go_at_call 68; (with_reducible refine (isNaN_any _ _).mono ?_); rintro e w' ⟨rfl, rfl⟩)
    go_ret
    exact ⟨ret_int (by simp [cmpI, h1]), rfl⟩
  · by_cases h2 : b < a
    all_goals
      go_enter Tryd.func39, Tryd.ntmps39
      go_wp2_with (go_at_call 68; (with_reducible refine (isNaN_any _ _).mono ?_); rintro e w' ⟨rfl, rfl⟩)
      go_ret
      exact ⟨ret_int (by unfold cmpI; rw [if_neg (by omega)]; first | rw [if_pos h2] | rw [if_neg (by omega)]), rfl⟩
theorem cmpI_neg (a b : Int) : cmpI a b < 0 ↔ a < b := by
  unfold cmpI
  split
  · simp [*]
  · split <;> omega
theorem cmpI_zero (a b : Int) : cmpI a b = 0 ↔ a = b := by
  unfold cmpI
  split
  · constructor <;> intro <;> omega
  · split <;> constructor <;> intro <;> omega

/-- The closure of line.Order: by the keys, then by the places. -/
def cmpK (ks : List Int) (a b : Int) : Int :=
  if cmpI (ks.getD a.toNat 0) (ks.getD b.toNat 0) = 0 then cmpI a b else cmpI (ks.getD a.toNat 0) (ks.getD b.toNat 0)

theorem cmpK_neg (ks : List Int) (a b : Int) : cmpK ks a b < 0 ↔ ks.getD a.toNat 0 < ks.getD b.toNat 0 ∨ (ks.getD a.toNat 0 = ks.getD b.toNat 0 ∧ a < b) := by
  unfold cmpK
  by_cases h : cmpI (ks.getD a.toNat 0) (ks.getD b.toNat 0) = 0
  · rw [if_pos h, cmpI_neg]
    rw [cmpI_zero] at h
    omega
  · rw [if_neg h, cmpI_neg]
    rw [cmpI_zero] at h
    omega

theorem quiet_left {P : Program} {f : FuncId} {args : Array Value} {w : World} {n : Nat} {v : Value}
    (h : Calls P f args (w.drewN n) fun e w' => e = .returned v ∧ w.drewN n = w') : Calls P f args (w.drewN n) fun e w' => e = .returned v ∧ ∃ m, w' = w.drewN m :=
  h.mono fun _ _ ⟨he, hm⟩ => ⟨he, n, hm.symm⟩

set_option maxHeartbeats 400000 in
theorem order1_any (g ga n c : Nat) (ks : List Int) (a b : Nat) (ha : a < n) (hb : b < n) (hl : ks.length = n) (w : World)
    (hc : w.cell? ⟨g, 0, none⟩ = some (.slice (some ⟨ga, 0, none⟩) n c)) (hr : RdI w (some ⟨ga, 0, none⟩) n ks) :
    Calls Tryd.prog 98 #[.int .i64 a, .int .i64 b, .pointer (some ⟨g, 0, none⟩)] w fun e w' => e = .returned (.int .i64 (cmpK ks a b)) ∧ ∃ q, w' = w.drewN q := by
  obtain ⟨_, _, x, e1, hx, hcx⟩ := hr.at_ ha
  cases e1
  obtain ⟨_, _, y, e2, hy, hcy⟩ := hr.at_ hb
  cases e2
  rw [Nat.zero_add] at hcx hcy
  have hk : cmpK ks a b = if cmpI x y = 0 then cmpI a b else cmpI x y := by
    unfold cmpK
    simp only [Int.toNat_natCast, List.getD_eq_getElem?_getD, hx, hy, Option.getD_some]
  have HK := Lib.hid hk
  clear hk hx hy hr
  have i1 : (0 : Int) ≤ (a : Int) := by omega
  have i2 : (a : Int) < (n : Int) := by omega
  have i3 : (0 : Int) ≤ (b : Int) := by omega
  have i4 : (b : Int) < (n : Int) := by omega
  obtain ⟨r, hr⟩ : ∃ r, r = cmpI x y := ⟨_, rfl⟩
  obtain ⟨r2, hr2⟩ : ∃ r, r = cmpI (a : Int) (b : Int) := ⟨_, rfl⟩
  have hC : ∀ W, Calls Tryd.prog 39 #[.int .i64 x, .int .i64 y] W fun e w' => e = .returned (.int .i64 r) ∧ W = w' := fun W => by rw [hr]; exact compare_any x y W
  have hD : ∀ W, Calls Tryd.prog 39 #[.int .i64 a, .int .i64 b] W fun e w' => e = .returned (.int .i64 r2) ∧ W = w' := fun W => by rw [hr2]; exact compare_any a b W
  have HC := Lib.hid hC; clear hC
  have HD := Lib.hid hD; clear hD
  rw [← hr, ← hr2] at HK
  clear hr hr2
  by_cases h0 : r = 0
  · have hz : (r != 0) = false := by simp [h0]
    have HZ := Lib.hid h0; clear h0
    go_enter Tryd.func98, Tryd.ntmps98
    go_wp2
    go_quiet ((go_at_call 39; exact quiet_left (HC.out _)))
    go_wp2_with (go_at_call 39; (with_reducible refine (HD.out _).mono ?_); rintro e w' ⟨rfl, rfl⟩)
    go_ret
    exact ⟨ret_int (by rw [HK.out, if_pos HZ.out]), _, rfl⟩
  · have hz : (r != 0) = true := by simp [h0]
    have HZ := Lib.hid h0; clear h0
    go_enter Tryd.func98, Tryd.ntmps98
    go_wp2
    go_quiet ((go_at_call 39; exact quiet_left (HC.out _)))
    go_wp2
    go_ret
    exact ⟨ret_int (by rw [HK.out, if_neg HZ.out]), _, rfl⟩

end Go.Proofs.YtjphjbchhhembaaDoor
