/- Parts of the proof: QCo1, QCo2, QCo3. -/
import Derived.Test.YtpffhoefmcpniaaGreatDoorB1
import Derived.Test.YtpffhoefmcpniaaGreatDoorB2
import Derived.Deep.QuietTactic
import Derived.BigQuiet
import Derived.Laws.CopyOwn
import Derived.Deep.RegionHeld3
import Derived.Deep.DrawnRows
import Derived.Test.YtpffhoefmcpniaaGreatDoorShelf3
namespace Go.Proofs.YtpffhoefmcpniaaGreatDoor
open Go.RowKit


def near1 (p : Int × Int) : Bool := coordB p.1 && coordB p.2
def key (p : Int × Int) (d : Int) : Int := if d = 0 then p.1 else if d = 1 then p.2 else if d = 2 then p.1 + p.2 else if d = 3 then p.1 - p.2 else 0

theorem key_any (x y d : Int) (w : World) (hx : -1000000000000 ≤ x) (hx' : x ≤ 1000000000000) (hy : -1000000000000 ≤ y) (hy' : y ≤ 1000000000000) (hd : 0 ≤ d) (hd' : d ≤ 3) :
 Calls Tryz.prog 115 #[.agg #[.int .i64 x, .int .i64 y], .int .i64 d] w fun e w' => e = .returned (.int .i64 (key (x, y) d)) ∧ ∃ q, w' = (w.alloc (.cells #[.int .i64 x, .int .i64 y] 127)).drewN q := by
 rcases (show d = 0 ∨ d = 1 ∨ d = 2 ∨ d = 3 by omega) with rfl | rfl | rfl | rfl
 all_goals
  go_enter Tryz.func115, Tryz.ntmps115
  go_wp2
  go_quiet (fail)
  go_wp2
  go_ret
  exact ⟨ret_int (by simp [key] <;> omega), _, rfl⟩

def endsN (n : Nat) : Nat := if n < 2 then 0 else (n + 3) / 4
theorem ends_any (n : Nat) (w : World) (hn : n ≤ 4000000000000000000) :
 Calls Tryz.prog 119 #[.int .i64 n] w fun e w' => e = .returned (.int .i64 (endsN n)) ∧ w = w' := by
 by_cases h : n < 2
 all_goals
  go_enter Tryz.func119, Tryz.ntmps119
  go_wp2
  go_ret
  exact ⟨ret_int (by simp [endsN, h]), rfl⟩

theorem Tryz.info3 : (Tryz.prog.info? 3).map (fun i => (i.zero, i.size, i.bytes)) = some (some (.int .i64 0), 1, 8) := by kernel_rfl


theorem splice_all {α : Type} (L cs : List α) (h : L.length = cs.length) : splice L 0 cs = cs := by
 simp [splice, ← h]

theorem wpList_copy_ints {P : Program} {w : World} {ops : Array Oper} {rest : List Oper} {o : Oper} {a : Act} {Q : Exit → Act → World → Prop} (hgd : o.guard = none) (d s : Operand) (dT : TypeId)
 (ho : o.op = .call { callee := .builtin .copy, args := #[d, s], argTypes := #[dT, dT] }) (elem : TypeId) (hu : P.underlying dT = some (.slice elem)) (hsz : (P.info? elem).map (·.size) = some 1)
 (A : Option Addr) (g n dCap c : Nat) (hd : a.eval d = .slice (some ⟨g, 0, none⟩) n dCap) (hs : a.eval s = .slice A n c)
 (m l : List Int) (hm : m.length = n) (hg : Blk w g elem (ints m)) (hr : RdI w A n l) (B : Nat) (w0 : World) (hb : Below B w0 w) (hBg : B ≤ g)
 (h : ∀ w', Blk w' g elem (ints l) → Below B w0 w' → wpList P ops Q rest (a.put o.dst (goInt n)) w') :
 wpList P ops Q (o :: rest) a w := by
 have hl : l.length = n := hr.1
 refine wpList_copy_splice hgd d s dT dT ho elem hu hsz (some ⟨g, 0, none⟩) A n dCap n c hd hs g 0 (m.map (.int .i64)) elem hg (l.map (.int .i64)) (by simp [hl]) ?_ (by simp [hl, hm]) ?_ B w0 hb hBg ?_
 · intro h0
   rw [List.length_map, hl] at h0
   obtain ⟨b, o, x, rfl, _, _⟩ := hr.at_ h0
   refine ⟨rfl, _, rfl, fun j v hj => ?_⟩
   rw [List.getElem?_map] at hj
   cases hx : l[j]? with
   | none => rw [hx] at hj; cases hj
   | some x =>
    rw [hx] at hj
    cases hj
    obtain ⟨b', o', e, hc⟩ := hr.2 j x hx
    cases e
    cases j with
    | zero => simpa [Addr.add] using hc
    | succ j => simpa [Addr.add] using hc
 · intro v hv
   obtain ⟨x, _, rfl⟩ := List.mem_map.1 hv
   rfl
 · intro w' hg' hb'
   have hg2 : Blk w' g elem (ints l) := by
    have := hg'.out
    rw [splice_all _ _ (by simp [hl, hm])] at this
    exact this
   rw [show ((l.map (Value.int .i64)).length) = n by simp [hl]]
   exact h w' hg2 hb'

set_option maxHeartbeats 400000 in
theorem lnFresh_any (A : Option Addr) (n c : Nat) (l : List Int) (w : World) (h : RdI w A n l) (hn : n ≤ 1000000000000) :
 Calls Tryz.prog 120 #[.slice A n c] w fun e w' => ∃ A', e = .returned (.slice A' n n) ∧ RdI w' A' n l ∧ Below w.heap.size w w' := by
 by_cases h0 : n = 0
 · subst h0
   have hl : l = [] := List.eq_nil_of_length_eq_zero h.1
   go_enter Tryz.func120, Tryz.ntmps120
   go_wp2
   go_ret
   exact ⟨none, rfl, ⟨h.1, fun i x hx => by rw [hl] at hx; simp at hx⟩, Below.refl _ _⟩
 · have hne : ((n : Int) == 0) = false := by simp; omega
   have hmk := fun W => run_make1 (P := Tryz.prog) 27 3 (.int .i64 0) 8 Tryz.info3 Tryz.underlying27 rfl n (by omega) (by omega) .i64 .i64 W
   have hsz : (Tryz.prog.info? 3).map (·.size) = some 1 := by kernel_rfl
   have hl : l.length = n := h.1
   have hb : Below w.heap.size w (w.alloc (.cells (zeros (.int .i64 0) n) 3)) := (Below.refl _ _).alloc (Nat.le_refl _) _
   have hrd := h.below hb
   have hg : Blk (w.alloc (.cells (zeros (.int .i64 0) n) 3)) w.heap.size 3 (ints (List.replicate n 0)) := by rw [← zeros_int]; exact Blk.new w _ _
   have HL := Lib.hid hl; clear hl
   clear h0
   go_enter Tryz.func120, Tryz.ntmps120
   go_wp2_with (with_reducible refine wpList_copy_ints rfl (.tmp 10) (.tmp 11) 27 rfl 3 Tryz.underlying27 hsz A w.heap.size n n c rfl rfl _ l (List.length_replicate ..) hg hrd w.heap.size w hb (Nat.le_refl _) ?_)
   intro w' hg' hb'
   go_wp2
   go_ret
   exact ⟨_, rfl, hg'.rdI HL.out, hb'⟩

set_option maxHeartbeats 400000 in
theorem half_any (A : Option Addr) (n c : Nat) (l : List Int) (w : World) (h : RdI w A n l) (hn : n ≤ 1000000000000) (hc : n ≤ c) :
 Calls Tryz.prog 107 #[.slice A n c] w fun e w' => ∃ A', e = .returned (.slice A' ((n + 1) / 2) ((n + 1) / 2)) ∧ RdI w' A' ((n + 1) / 2) (l.take ((n + 1) / 2)) ∧ Below w.heap.size w w' := by
 have hh : (n + 1) / 2 ≤ n := by omega
 have H := h.take hh
 have e1 : ((n : Int) + 1) / 2 = (((n + 1) / 2 : Nat) : Int) := by omega
 have i1 : (0 : Int) ≤ ((n : Int) + 1) / 2 := by omega
 have i2 : ((n : Int) + 1) / 2 ≤ (n : Int) := by omega
 have i3 : ((n : Int) + 1) / 2 ≤ (c : Int) := by omega
 have E1 := Lib.hid e1; clear e1
 go_enter Tryz.func107, Tryz.ntmps107
 go_wp2_with (go_at_call 120; refine (lnFresh_any _ _ _ _ _ H (by omega)).mono ?_; rintro e w' ⟨A', rfl, hr, hb⟩)
 go_ret
 exact ⟨_, rfl, hr, hb⟩

attribute [local go_sem ↓] Go.wp_at_zero Go.wp_at_succ
set_option maxHeartbeats 400000 in
theorem ends2_any (A : Option Addr) (n c : Nat) (l : List Int) (w : World) (h : RdI w A n l) (hn : n ≤ 1000000000000) (hc : n ≤ c) :
 Calls Tryz.prog 105 #[.slice A n c] w fun e w' => ∃ A1 A2, e = .returned (.tuple #[.slice A1 (endsN n) (endsN n), .slice A2 (endsN n) (endsN n)]) ∧ RdI w' A1 (endsN n) (l.take (endsN n)) ∧ RdI w' A2 (endsN n) (l.drop (n - endsN n)) ∧ Below w.heap.size w w' := by
 have hh : endsN n ≤ n := by unfold endsN; split <;> omega
 have i1 : (0 : Int) ≤ (endsN n : Int) := by omega
 have i2 : (endsN n : Int) ≤ (n : Int) := by omega
 have i3 : (endsN n : Int) ≤ (c : Int) := by omega
 have i4 : (n : Int) ≤ (c : Int) := by omega
 have i5 : (0 : Int) ≤ (n : Int) - (endsN n : Int) := by omega
 have i6 : (n : Int) - (endsN n : Int) ≤ (n : Int) := by omega
 have i7 : (n : Int) - (endsN n : Int) ≤ (c : Int) := by omega
 have i8 : IntKind.i64.wrap ((n : Int) - (endsN n : Int)) = (n : Int) - (endsN n : Int) := IntWalk.i64_in _ (by omega)
 have i9 : ((n : Int) - (endsN n : Int)).toNat = n - endsN n := by omega
 have H1 := Lib.hid (h.take hh)
 have H2 := Lib.hid (h.cut (m := n - endsN n) (r := endsN n) (by omega) (by omega) hc)
 have hsl := fun W => run_cut_l (P := Tryz.prog) 27 3 1 Tryz.underlying27 (by kernel_rfl) (by kernel_rfl) A n c (n - endsN n) (endsN n) (by omega) (by omega) .i64 ((n : Int) - (endsN n : Int)) (by omega) W
 go_enter Tryz.func105, Tryz.ntmps105
 go_wp2_with (go_at_call 119; refine (ends_any _ _ (by omega)).mono ?_; rintro e w' ⟨rfl, rfl⟩)
 go_region_held3 (fun _ => True) (trivial) (first
  | (go_at_call 120; (with_reducible refine (lnFresh_any _ _ _ _ _ (H1.out.below bELt) (by omega)).mono ?_); rintro e w1 ⟨A1, rfl, hr1, hb1⟩)
  | (go_at_call 120; (with_reducible refine (lnFresh_any _ _ _ _ _ (H2.out.below bELt) (by omega)).mono ?_); rintro e w2 ⟨A2, rfl, hr2, hb2⟩))
 go_wp2
 go_ret2
 exact ⟨_, _, rfl, hr1.below hb2, hr2, bELt⟩

def cnt (l : List Bool) : Nat := l.count true
def fairB (l : List Bool) : Bool := decide (2 ≤ l.length) && (decide (endsN l.length ≤ cnt l) && decide (endsN l.length ≤ l.length - cnt l))
theorem cnt_take {l : List Bool} {k : Nat} {b : Bool} (h : l[k]? = some b) : cnt (l.take (k + 1)) = cnt (l.take k) + if b then 1 else 0 := by
 unfold cnt
 rw [List.take_add_one, h]
 cases b <;> simp
theorem cnt_le (l : List Bool) (k : Nat) : cnt (l.take k) ≤ k := by
 unfold cnt
 exact Nat.le_trans List.count_le_length (List.length_take_le _ _)

def cmpI (a b : Int) : Int := if a < b then -1 else if b < a then 1 else 0
theorem isNaN_any (a : Int) (w : World) : Calls Tryz.prog 95 #[.int .i64 a] w fun e w' => e = .returned (.bool false) ∧ w = w' := by
 go_enter Tryz.func95, Tryz.ntmps95
 go_wp2
 go_ret
 exact ⟨ret_bool (by simp), rfl⟩
theorem compare_any (a b : Int) (w : World) : Calls Tryz.prog 118 #[.int .i64 a, .int .i64 b] w fun e w' => e = .returned (.int .i64 (cmpI a b)) ∧ w = w' := by
 by_cases h1 : a < b
 · go_enter Tryz.func118, Tryz.ntmps118
   go_wp2_with (go_at_call 95; (with_reducible refine (isNaN_any _ _).mono ?_); rintro e w' ⟨rfl, rfl⟩)
   go_ret
   exact ⟨ret_int (by simp [cmpI, h1]), rfl⟩
 · by_cases h2 : b < a
   all_goals
    go_enter Tryz.func118, Tryz.ntmps118
    go_wp2_with (go_at_call 95; (with_reducible refine (isNaN_any _ _).mono ?_); rintro e w' ⟨rfl, rfl⟩)
    go_ret
    exact ⟨ret_int (by unfold cmpI; rw [if_neg (by omega)]; first | rw [if_pos h2] | rw [if_neg (by omega)]), rfl⟩
theorem cmpI_neg (a b : Int) : cmpI a b < 0 ↔ a < b := by
 unfold cmpI
 split
 · simp [*]
 · split <;> omega
theorem cmpI_zero (a b : Int) : cmpI a b = 0 ↔ a = b := by
 unfold cmpI
 split
 · constructor <;> intro <;> omega
 · split <;> constructor <;> intro <;> omega

def cmpK (ks : List Int) (a b : Int) : Int :=
 if cmpI (ks.getD a.toNat 0) (ks.getD b.toNat 0) = 0 then cmpI a b else cmpI (ks.getD a.toNat 0) (ks.getD b.toNat 0)

theorem cmpK_neg (ks : List Int) (a b : Int) : cmpK ks a b < 0 ↔ ks.getD a.toNat 0 < ks.getD b.toNat 0 ∨ (ks.getD a.toNat 0 = ks.getD b.toNat 0 ∧ a < b) := by
 unfold cmpK
 by_cases h : cmpI (ks.getD a.toNat 0) (ks.getD b.toNat 0) = 0
 · rw [if_pos h, cmpI_neg]
   rw [cmpI_zero] at h
   omega
 · rw [if_neg h, cmpI_neg]
   rw [cmpI_zero] at h
   omega

set_option maxHeartbeats 400000 in
theorem order1_any (g ga n c : Nat) (ks : List Int) (a b : Nat) (ha : a < n) (hb : b < n) (hl : ks.length = n) (w : World)
 (hc : w.cell? ⟨g, 0, none⟩ = some (.slice (some ⟨ga, 0, none⟩) n c)) (hr : RdI w (some ⟨ga, 0, none⟩) n ks) :
 Calls Tryz.prog 117 #[.int .i64 a, .int .i64 b, .pointer (some ⟨g, 0, none⟩)] w fun e w' => e = .returned (.int .i64 (cmpK ks a b)) ∧ ∃ q, w' = w.drewN q := by
 obtain ⟨_, _, x, e1, hx, hcx⟩ := hr.at_ ha
 cases e1
 obtain ⟨_, _, y, e2, hy, hcy⟩ := hr.at_ hb
 cases e2
 rw [Nat.zero_add] at hcx hcy
 have hk : cmpK ks a b = if cmpI x y = 0 then cmpI a b else cmpI x y := by
  unfold cmpK
  simp only [Int.toNat_natCast, List.getD_eq_getElem?_getD, hx, hy, Option.getD_some]
 have HK := Lib.hid hk
 clear hk hx hy hr
 have i1 : (0 : Int) ≤ (a : Int) := by omega
 have i2 : (a : Int) < (n : Int) := by omega
 have i3 : (0 : Int) ≤ (b : Int) := by omega
 have i4 : (b : Int) < (n : Int) := by omega
 obtain ⟨r, hr⟩ : ∃ r, r = cmpI x y := ⟨_, rfl⟩
 obtain ⟨r2, hr2⟩ : ∃ r, r = cmpI (a : Int) (b : Int) := ⟨_, rfl⟩
 have hC : ∀ W, Calls Tryz.prog 118 #[.int .i64 x, .int .i64 y] W fun e w' => e = .returned (.int .i64 r) ∧ W = w' := fun W => by rw [hr]; exact compare_any x y W
 have hD : ∀ W, Calls Tryz.prog 118 #[.int .i64 a, .int .i64 b] W fun e w' => e = .returned (.int .i64 r2) ∧ W = w' := fun W => by rw [hr2]; exact compare_any a b W
 have HC := Lib.hid hC; clear hC
 have HD := Lib.hid hD; clear hD
 rw [← hr, ← hr2] at HK
 clear hr hr2
 by_cases h0 : r = 0
 · have hz : (r != 0) = false := by simp [h0]
   have HZ := Lib.hid h0; clear h0
   go_enter Tryz.func117, Tryz.ntmps117
   go_wp2
   go_quiet ((go_at_call 118; exact quiet_left (HC.out _)))
   go_wp2_with (go_at_call 118; (with_reducible refine (HD.out _).mono ?_); rintro e w' ⟨rfl, rfl⟩)
   go_ret
   exact ⟨ret_int (by rw [HK.out, if_pos HZ.out]), _, rfl⟩
 · have hz : (r != 0) = true := by simp [h0]
   have HZ := Lib.hid h0; clear h0
   go_enter Tryz.func117, Tryz.ntmps117
   go_wp2
   go_quiet ((go_at_call 118; exact quiet_left (HC.out _)))
   go_wp2
   go_ret
   exact ⟨ret_int (by rw [HK.out, if_neg HZ.out]), _, rfl⟩

end Go.Proofs.YtpffhoefmcpniaaGreatDoor

namespace Go.Proofs.YtpffhoefmcpniaaGreatDoor
open Go.Lib Go.RowKit Go.Shelf Go.Sort


instance inhFin (n : Nat) [NeZero n] : Inhabited (Fin n) := ⟨0⟩

theorem blk_sortWorld {α : Type} [Inhabited α] (enc : α → Value) (w : World) (g t : Nat) (c : Array Value) (d : Array α) (n : Nat) (os : Array Obj) (h : Blk w g t c) (hs : d.size = c.size) :
 Blk (sortWorld enc w g 0 n d os) g t (d.map enc) := by
 have hlt : g < (putRow enc (Sort.ahead w n) g 0 d).heap.size := by
  have := h.lt
  simpa [putRow, mapBlock, Sort.ahead] using this
 unfold Blk sortWorld
 rw [heap_grow_old _ _ hlt]
 have hb : (Sort.ahead w n).heap[g]? = some (.cells c t (0, 0)) := h
 simp only [putRow, mapBlock, Array.getElem?_modify, hb, if_true, Option.map_some, onCells]
 congr 2
 apply Array.ext_getElem?
 intro k
 simp only [putCells, Array.getElem?_mapIdx, Array.getElem?_map]
 by_cases hk : k < c.size
 · rw [Array.getElem?_eq_getElem hk, Array.getElem?_eq_getElem (by omega : k < d.size), Option.map_some, Option.map_some, if_pos ⟨by omega, by omega⟩]
   rw [getElem!_pos d (k - 0) (by omega)]
   rfl
 · rw [Array.getElem?_eq_none (by omega), Array.getElem?_eq_none (by omega)]
   rfl

theorem grownBy_sortWorld {α : Type} [Inhabited α] (enc : α → Value) (w : World) (g : Nat) (d : Array α) (n : Nat) (os : Array Obj) : w.grownBy (sortWorld enc w g 0 n d os) (some g) where
 os := rfl
 tape := rfl
 output := rfl
 size := by simp [sortWorld, putRow, mapBlock, Sort.ahead]
 block := by
  intro k hk hne
  have hne' : k ≠ g := fun e => hne (by rw [e])
  have hlt : k < (putRow enc (Sort.ahead w n) g 0 d).heap.size := by simpa [putRow, mapBlock, Sort.ahead] using hk
  unfold sortWorld
  rw [heap_grow_old _ _ hlt]
  simp only [putRow, mapBlock, Array.getElem?_modify]
  rw [if_neg (by omega)]
  rfl

def iota (n : Nat) : List Int := (List.range n).map (fun i : Nat => (i : Int))
def sortIdx (cf : Int → Int → Int) (n : Nat) : List Int := ((List.finRange n).mergeSort (fun x y => !decide (cf y x < 0))).map (fun x => (x.val : Int))

theorem sortPlaces (cb : Array Value) (cf : Int → Int → Int) (n c g : Nat) (hn : 0 < n) (hbig : n < 4611686018427387904) (w : World) (hB : Blk w g 3 (ints (iota n)))
 (hirr : ∀ x, x < n → ¬ cf x x < 0)
 (htr : ∀ x y z, x < n → y < n → z < n → cf x y < 0 → cf y z < 0 → cf x z < 0)
 (htot : ∀ x y : Nat, x < n → y < n → ¬ cf x y < 0 → ¬ cf y x < 0 → x = y)
 (hcmp : ∀ (W : World) (x y : Nat), x < n → y < n → w.grownBy W (some g) → Calls Tryz.prog 117 (#[.int .i64 x, .int .i64 y] ++ cb) W fun e W' => e = .returned (.int .i64 (cf x y)) ∧ ∃ q, W' = W.drewN q) :
 Calls Tryz.prog 116 #[.slice (some ⟨g, 0, none⟩) n c, .func (.func 117) #[] cb] w fun e w' =>
  e = .returned (.tuple #[]) ∧ Blk w' g 3 (ints (sortIdx cf n)) ∧ w.grownBy w' (some g) := by
 haveI : NeZero n := ⟨by omega⟩
 have eg : ∀ args w, (callFunc 117 args).run Tryz.prog w = .ok (.enter 117 args) w := enters_of Tryz.func117 (by kernel_rfl) rfl
 let enc : Fin n → Value := fun x => .int .i64 (x.val : Int)
 let cfn : Fin n → Fin n → Int := fun x y => cf x.val y.val
 let d : Array (Fin n) := (List.finRange n).toArray
 have hds : d.size = n := by simp [d]
 have hdg : ∀ j (hj : j < n), d[j]! = ⟨j, hj⟩ := fun j hj => by
  rw [getElem!_pos d j (by omega)]
  simp [d]
 have hlt : ∀ x y : Fin n, ltOf cfn x y = decide (cf x.val y.val < 0) := fun x y => rfl
 have hO : SWO (ltOf cfn) := {
  irrefl := fun x => by rw [hlt]; simpa using hirr x.val x.isLt
  trans := fun x y z h1 h2 => by
   rw [hlt] at *
   simp only [decide_eq_true_eq] at *
   exact htr _ _ _ x.isLt y.isLt z.isLt h1 h2
  ntrans := fun x y z h1 h2 => by
   rw [hlt] at *
   simp only [decide_eq_false_iff_not] at *
   intro h3
   by_cases hyx : cf y.val x.val < 0
   · exact h2 (htr _ _ _ y.isLt x.isLt z.isLt hyx h3)
   · have := htot _ _ x.isLt y.isLt h1 hyx
     rw [this] at h3
     exact h2 h3 }
 have hT : ∀ x y, ltOf cfn x y = false → ltOf cfn y x = false → x = y := fun x y h1 h2 => by
  rw [hlt] at *
  simp only [decide_eq_false_iff_not] at *
  exact Fin.ext (htot _ _ x.isLt y.isLt h1 h2)
 have hH : Holds enc w g 0 d := fun j hj => by
  rw [hds] at hj
  rw [Nat.zero_add, hdg j hj]
  exact ⟨hB.cellI (by simp [iota, hj]), hB.frozen _⟩
 have hC : CmpLays1 Tryz.prog 117 cb enc cfn g 0 d.size w := fun m os dk hs x y =>
  (hcmp _ x.val y.val x.isLt y.isLt (grownBy_sortWorld enc w g dk m os)).mono fun _ _ ⟨he, q, hq⟩ => ⟨he, q, #[], by rw [hq, grow_empty]⟩
 have hcon := Any.slices_SortFunc_total Tryz.sortPl enc (fun _ => rfl) cfn hO 117 cb g 0 c d w eg hC hH hB.lt (by omega) hT
 rw [hds] at hcon
 refine Calls.mono (show Calls Tryz.prog 116 _ _ _ from hcon) ?_
 rintro e w' ⟨rfl, q, os, rfl⟩
 refine ⟨rfl, ?_, grownBy_sortWorld enc w g _ q os⟩
 have h := blk_sortWorld enc w g 3 (ints (iota n)) ((d.toList.mergeSort fun x y => !ltOf cfn y x).toArray) q os hB (by simp [ints, iota, d])
 have he : ((d.toList.mergeSort fun x y => !ltOf cfn y x).toArray).map enc = ints (sortIdx cf n) := by
  simp [ints, sortIdx, d, enc, hlt, cfn]
 rw [he] at h
 exact h


def fillTo (l : List Int) (k n : Nat) : List Int := l.take k ++ List.replicate (n - k) 0
theorem fillTo_zero (l : List Int) (n : Nat) : fillTo l 0 n = List.replicate n 0 := by simp [fillTo]
theorem fillTo_all {l : List Int} {n : Nat} (h : l.length = n) : fillTo l n n = l := by simp [fillTo, ← h]
theorem fillTo_at {l : List Int} {k n : Nat} (h : l.length = n) (hk : k < n) : (fillTo l k n)[k]? = some 0 := by
 unfold fillTo
 rw [List.getElem?_append_right (by simp; omega), List.getElem?_replicate, if_pos (by simp; omega)]
theorem fillTo_set {l : List Int} {k n : Nat} {x : Int} (h : l.length = n) (hk : k < n) (hx : l[k]? = some x) : (fillTo l k n).set k x = fillTo l (k + 1) n := by
 unfold fillTo
 have hl : (l.take k).length = k := by simp; omega
 rw [List.set_append_right _ _ (by omega), hl, Nat.sub_self, List.take_add_one, hx, show n - k = (n - (k + 1)) + 1 by omega, List.replicate_succ]
 simp
def keysOf (l : List (Int × Int)) (d : Int) : List Int := l.map (key · d)
def order (l : List (Int × Int)) (d : Int) : List Int := sortIdx (cmpK (keysOf l d)) l.length

set_option maxHeartbeats 1000000 in
set_option maxRecDepth 100000 in
theorem order_any (A : Option Addr) (n c : Nat) (l : List (Int × Int)) (d : Int) (w : World) (h : RdP w A n l) (hn : n ≤ 1000000000) (hd : 0 ≤ d) (hd' : d ≤ 3)
 (hb : ∀ p ∈ l, -1000000000000 ≤ p.1 ∧ p.1 ≤ 1000000000000 ∧ -1000000000000 ≤ p.2 ∧ p.2 ≤ 1000000000000) :
 Calls Tryz.prog 104 #[.slice A n c, .int .i64 d] w fun e w' => ∃ A', e = .returned (.slice A' n n) ∧ RdI w' A' n (order l d) ∧ Below w.heap.size w w' := by
 have hl : l.length = n := h.1
 have hmk := fun W => run_make1 (P := Tryz.prog) 27 3 (.int .i64 0) 8 Tryz.info3 Tryz.underlying27 rfl n (by omega) (by omega) .i64 .i64 W
 have HL := Lib.hid hl; clear hl
 have HB := Lib.hid hb; clear hb
 go_enter Tryz.func104, Tryz.ntmps104
 go_wp2
 go_loopw [17] (fun i W => ∃ k : Nat, k ≤ n ∧ i = .int .i64 k ∧ Blk W w.heap.size 3 (ints (fillTo (iota n) k n)) ∧ Blk W (w.heap.size + 1) 3 (ints (fillTo (keysOf l d) k n)) ∧
  Blk W (w.heap.size + 1 + 1) 27 #[.slice (some ⟨w.heap.size + 1, 0, none⟩) n n] ∧ Below w.heap.size w W) (fun i _ => n - (intOf i).toNat)
 case atStart =>
  refine ⟨0, Nat.zero_le _, rfl, ?_, ?_, ?_, ?_⟩
  · rw [fillTo_zero, ← zeros_int]; exact ((Blk.new w _ _).alloc _).alloc _
  · rw [fillTo_zero, ← zeros_int]; exact (Blk.new' (w.alloc _) _ _ (by simp)).alloc _
  · exact Blk.new' ((w.alloc _).alloc _) _ _ (by simp)
  · exact bELt
 case round =>
  obtain ⟨k, hk, rfl, h1, h2, h3, hbl⟩ := hrel
  by_cases hlt : k < n
  · obtain ⟨b, o, x, y, rfl, hx, hcx, hcy⟩ := (h.below hbl).at_ hlt
    have HX := Lib.hid hx; clear hx
    have hkey : (keysOf l d)[k]? = some (key (x, y) d) := by simp [keysOf, HX.out]
    have hbd := HB.out _ (List.mem_of_getElem? HX.out)
    have c1 : ∀ o, (wr.alloc o).cell? ⟨w.heap.size, k, none⟩ = some (.int .i64 0) := fun o => (h1.alloc o).cellI (fillTo_at (by simp [iota]) hlt)
    have f1 : ∀ o, (wr.alloc o).frozen? ⟨w.heap.size, k, none⟩ = false := fun o => (h1.alloc o).frozen k
    have hs : w.heap.size + 2 < wr.heap.size := h3.lt
    have HK := Lib.hid hkey; clear hkey
    go_wp2
    (refine wp_named ?_; intro W hW)
    have g1 : Blk W w.heap.size 3 (ints (fillTo (iota n) (k + 1) n)) := by rw [hW]; exact (h1.alloc _).setI (fillTo_set (by simp [iota]) hlt (by simp [iota, hlt]))
    have g2 : Blk W (w.heap.size + 1) 3 (ints (fillTo (keysOf l d) k n)) := by rw [hW]; exact bLKt
    have g3 : Blk W (w.heap.size + 1 + 1) 27 #[.slice (some ⟨w.heap.size + 1, 0, none⟩) n n] := by rw [hW]; exact bLKt
    have g4 : Blk W wr.heap.size 127 #[.int .i64 x, .int .i64 y] := by rw [hW]; exact (Blk.new _ _ _).far (by simp; omega) _
    have g5 : Below w.heap.size w W := by
     have hz := hbl.size
     rw [hW]; exact (hbl.alloc hz _).setCell (Nat.le_refl _) _
    clear h1 h2 h3 hW c1 f1 hcx hcy
    have i1 : (0 : Int) ≤ (k : Int) := by omega
    have i2 : (k : Int) < (n : Int) := by omega
    have c2 : ∀ o, (W.alloc o).cell? ⟨w.heap.size + 1, k, none⟩ = some (.int .i64 0) := fun o => (g2.alloc o).cellI (fillTo_at (by simp [keysOf, HL.out]) hlt)
    have f2 : ∀ o, (W.alloc o).frozen? ⟨w.heap.size + 1, k, none⟩ = false := fun o => (g2.alloc o).frozen k
    have s1 : W.cell? ⟨w.heap.size + 1 + 1, 0, none⟩ = some (.slice (some ⟨w.heap.size + 1, 0, none⟩) n n) := g3.cell 0
    have s2 : W.cell? ⟨wr.heap.size, 0, none⟩ = some (.int .i64 x) := g4.cell 0
    have s3 : W.cell? ⟨wr.heap.size, 1, none⟩ = some (.int .i64 y) := g4.cell 1
    generalize hkk : key (x, y) d = kk at HK
    have HKK := Lib.hid hkk; clear hkk
    have hC : ∀ W', Calls Tryz.prog 115 #[.agg #[.int .i64 x, .int .i64 y], .int .i64 d] W' fun e w' => e = .returned (.int .i64 kk) ∧ ∃ q, w' = (W'.alloc (.cells #[.int .i64 x, .int .i64 y] 127)).drewN q := fun W' => by
     rw [← HKK.out]; exact key_any x y d W' (by omega) (by omega) (by omega) (by omega) hd hd'
    have HC := Lib.hid hC; clear hC
    go_region_held3 (fun V => V.cell? ⟨w.heap.size + 1 + 1, 0, none⟩ = some (.slice (some ⟨w.heap.size + 1, 0, none⟩) n n) ∧ V.cell? ⟨wr.heap.size, 0, none⟩ = some (.int .i64 x) ∧ V.cell? ⟨wr.heap.size, 1, none⟩ = some (.int .i64 y))
     (first | exact ⟨s1, s2, s3⟩ | exact ⟨(show Blk _ _ 27 #[.slice (some ⟨w.heap.size + 1, 0, none⟩) n n] from bLKt).cell 0, (show Blk _ _ 127 #[.int .i64 x, .int .i64 y] from bLKt).cell 0, (show Blk _ _ 127 #[.int .i64 x, .int .i64 y] from bLKt).cell 1⟩)
     (first | (go_at_call 115; (with_reducible refine (HC.out _).mono ?_); rintro e w' ⟨rfl, q, rfl⟩))
    clear c2 f2 s1 s2 s3
    go_wp2
    go_roundw
    case rel =>
     refine ⟨k + 1, by omega, by go_num, bLKt, ?_, bLKt, ?_⟩
     · exact Blk.setI bLKt (fillTo_set (by simp [keysOf, HL.out]) hlt HK.out)
     · have := g5.size
       exact bELt
    case measure => simp [intOf]; omega
  · obtain rfl : k = n := by omega
    rw [fillTo_all (by simp [iota])] at h1
    rw [fillTo_all (by simp [keysOf, HL.out])] at h2
    by_cases h0 : k = 0
    · subst h0
      have hS := fun W => AnyF.slices_SortFunc_none (P := Tryz.prog) (ρ := Tryz.sortPl_ren) { Tryz.sortPl with } (some ⟨w.heap.size, 0, none⟩) 0 (.func (.func 117) #[] #[.pointer (some ⟨w.heap.size + 1 + 1, 0, none⟩)]) W
      have hS' : ∀ W, Calls Tryz.prog 116 _ W _ := hS
      have HS := Lib.hid hS'; clear hS hS'
      go_wp2_with (go_at_call 116; (with_reducible refine (HS.out _).mono ?_); rintro e w' ⟨rfl, rfl⟩)
      go_ret
      have hlz : l = [] := List.eq_nil_of_length_eq_zero HL.out
      exact ⟨_, rfl, by rw [hlz]; exact ⟨by simp [order, sortIdx], fun i x hx => by simp [order, sortIdx] at hx⟩, hbl⟩
    · have HH := Lib.hid (sortPlaces #[.pointer (some ⟨w.heap.size + 1 + 1, 0, none⟩)] (cmpK (keysOf l d)) k k w.heap.size (by omega) (by omega) wr h1
       (fun x _ => by rw [cmpK_neg]; omega) (fun x y z _ _ _ h1 h2 => by rw [cmpK_neg] at *; omega) (fun x y _ _ h1 h2 => by rw [cmpK_neg] at *; omega)
       (fun W x y hx hy hg => by
        have hz := h3.lt
        have hb2 : Blk W (w.heap.size + 1) 3 (ints (keysOf l d)) := (hg.block _ (by omega) (by intro e; injection e; omega)).trans h2
        have hb3 : Blk W (w.heap.size + 1 + 1) 27 #[.slice (some ⟨w.heap.size + 1, 0, none⟩) k k] := (hg.block _ (by omega) (by intro e; injection e; omega)).trans h3
        exact order1_any (w.heap.size + 1 + 1) (w.heap.size + 1) k k (keysOf l d) x y hx hy (by simp [keysOf, HL.out]) W (hb3.cell 0) (hb2.rdI (by simp [keysOf, HL.out]))))
      go_wp2_with (go_at_call 116; (with_reducible refine (HH.out).mono ?_); rintro e w' ⟨rfl, hr, hg⟩)
      go_ret
      have hrd : RdI w' (some ⟨w.heap.size, 0, none⟩) k (order l d) := by
       have : order l d = sortIdx (cmpK (keysOf l d)) k := by unfold order; rw [HL.out]
       rw [this]
       exact hr.rdI (by simp [sortIdx])
      exact ⟨_, rfl, hrd, hbl.grown hg hbl.size (fun j hj => by cases hj; exact Nat.le_refl _)⟩

end Go.Proofs.YtpffhoefmcpniaaGreatDoor

namespace Go.Proofs.YtpffhoefmcpniaaGreatDoor

def klt (ks : List Int) (a b : Int) : Prop := ks.getD a.toNat 0 < ks.getD b.toNat 0 ∨ (ks.getD a.toNat 0 = ks.getD b.toNat 0 ∧ a < b)
instance (ks : List Int) (a b : Int) : Decidable (klt ks a b) := by unfold klt; infer_instance
def IsOrd (ks : List Int) (n : Nat) (o : List Int) : Prop := o.Perm (iota n) ∧ o.Pairwise (klt ks)
instance (ks : List Int) (n : Nat) (o : List Int) : Decidable (IsOrd ks n o) := by unfold IsOrd; infer_instance

theorem iota_mem {n : Nat} {x : Int} : x ∈ iota n ↔ 0 ≤ x ∧ x < n := by
 unfold iota
 rw [List.mem_map]
 constructor
 · rintro ⟨i, hi, rfl⟩; rw [List.mem_range] at hi; omega
 · rintro ⟨h0, h1⟩; exact ⟨x.toNat, by rw [List.mem_range]; omega, by omega⟩
theorem iota_nodup (n : Nat) : (iota n).Nodup := by
 unfold iota
 exact List.Pairwise.map _ (fun a b h => by intro e; exact h (by omega)) List.nodup_range
theorem klt_trans {ks : List Int} {a b c : Int} (h1 : klt ks a b) (h2 : klt ks b c) : klt ks a c := by unfold klt at *; omega
theorem klt_irr {ks : List Int} {a : Int} : ¬ klt ks a a := by unfold klt; omega
theorem klt_tot {ks : List Int} {a b : Int} (h : a ≠ b) : klt ks a b ∨ klt ks b a := by unfold klt; omega

theorem isOrd_unique {ks : List Int} {n : Nat} {o o' : List Int} (h : IsOrd ks n o) (h' : IsOrd ks n o') : o = o' :=
 List.Perm.eq_of_pairwise (le := klt ks) (fun _ _ _ _ h1 h2 => absurd (klt_trans h1 h2) klt_irr) h.2 h'.2 (h.1.trans h'.1.symm)

theorem finRange_map (n : Nat) : (List.finRange n).map (fun x => (x.val : Int)) = iota n := by
 unfold iota
 apply List.ext_getElem?
 intro i
 simp only [List.getElem?_map]
 rcases Nat.lt_or_ge i n with h | h
 · rw [List.getElem?_eq_getElem (by simpa using h), List.getElem?_eq_getElem (by simpa using h)]
   simp
 · rw [List.getElem?_eq_none (by simpa using h), List.getElem?_eq_none (by simpa using h)]
   rfl

theorem sortIdx_ord (ks : List Int) (n : Nat) : IsOrd ks n (sortIdx (cmpK ks) n) := by
 have hk : ∀ a b : Int, cmpK ks a b < 0 ↔ klt ks a b := fun a b => by rw [cmpK_neg]; rfl
 have hp : (sortIdx (cmpK ks) n).Perm (iota n) := by
  unfold sortIdx
  rw [← finRange_map]
  exact (List.mergeSort_perm _ _).map _
 refine ⟨hp, ?_⟩
 have hnd : (sortIdx (cmpK ks) n).Nodup := hp.nodup_iff.2 (iota_nodup n)
 have hs : (sortIdx (cmpK ks) n).Pairwise (fun a b => ¬ klt ks b a) := by
  unfold sortIdx
  have h := List.pairwise_mergeSort (le := fun x y : Fin n => !decide (cmpK ks y.val x.val < 0))
   (fun a b c h1 h2 => by
    simp only [Bool.not_eq_true', decide_eq_false_iff_not, hk] at *
    intro h3
    by_cases hab : a.val = b.val
    · rw [hab] at h3; exact h2 h3
    · rcases klt_tot (ks := ks) (a := (a.val : Int)) (b := b.val) (by omega) with h4 | h4
      · exact h2 (klt_trans h3 h4)
      · exact h1 h4)
   (fun a b => by
    simp only [Bool.or_eq_true, Bool.not_eq_true', decide_eq_false_iff_not, hk]
    by_cases h : klt ks b.val a.val
    · right; intro h2; exact klt_irr (klt_trans h h2)
    · left; exact h)
   (List.finRange n)
  exact List.Pairwise.map _ (fun a b h => by simp only [Bool.not_eq_true', decide_eq_false_iff_not, hk] at h; exact h) h
 have := hs.and hnd
 exact this.imp (fun {a b} h => by
  rcases klt_tot (ks := ks) h.2 with h1 | h1
  · exact h1
  · exact absurd h1 h.1)

theorem order_ord (l : List (Int × Int)) (d : Int) : IsOrd (keysOf l d) l.length (order l d) := sortIdx_ord _ _
theorem order_eq {l : List (Int × Int)} {d : Int} {o : List Int} (h : IsOrd (keysOf l d) l.length o) : order l d = o := isOrd_unique (order_ord l d) h
theorem order_len (l : List (Int × Int)) (d : Int) : (order l d).length = l.length := by rw [(order_ord l d).1.length_eq]; simp [iota]
theorem order_mem {l : List (Int × Int)} {d : Int} {x : Int} (h : x ∈ order l d) : 0 ≤ x ∧ x < l.length := iota_mem.1 ((order_ord l d).1.mem_iff.1 h)
theorem order_nodup (l : List (Int × Int)) (d : Int) : (order l d).Nodup := (order_ord l d).1.nodup_iff.2 (iota_nodup _)

theorem nodup_at {l : List Int} {i j : Nat} {x : Int} (h : l.Nodup) (hij : i < j) (hi : l[i]? = some x) (hj : l[j]? = some x) : False := by
 obtain ⟨h1, e1⟩ := List.getElem?_eq_some_iff.1 hi
 obtain ⟨h2, e2⟩ := List.getElem?_eq_some_iff.1 hj
 exact (List.pairwise_iff_getElem.1 h i j h1 h2 hij) (e1.trans e2.symm)
end Go.Proofs.YtpffhoefmcpniaaGreatDoor
