/- job.Square (where it holds), step, Length, Load, goes; the document's Length, Load, goes. -/
import Derived.Test.YtjphjbchhhembaaGreatDoorTab
import Derived.Deep.QuietTactic
import Derived.BigQuiet
namespace Go.Proofs.YtjphjbchhhembaaGreatDoor
open Go.RowKit

set_option maxHeartbeats 1000000 in
theorem jobSquare_ok (A : Option Addr) (n c : Nat) (ls : List (List Int)) (w : World) (h : RdT w A n ls) (hs : sqB n ls = true) (hn : n ≤ 4000000000000000000) :
    Calls Tryz.prog 34 #[.int .i64 n, .slice A n c] w fun e w' => e = .returned .nilIface ∧ w = w' := by
  have HG := Lib.hid (show ∀ (i : Nat) l, ls[i]? = some l → l.length = n ∧ ∀ x ∈ l, 0 ≤ x ∧ x ≤ INF from fun i l hl => sqB_get hs hl)
  clear hs
  go_enter Tryz.func34, Tryz.ntmps34
  go_wp2_with fail
  go_loop [16] (fun i => ∃ k : Nat, k ≤ n ∧ i = .int .i64 k) (fun i => n - (intOf i).toNat)
  case atStart => exact ⟨0, Nat.zero_le _, rfl⟩
  case round =>
    obtain ⟨k, hk, rfl⟩ := hrel
    by_cases hlt : k < n
    · obtain ⟨b, o, A1, n1, c1, l, rfl, hl, hc, hr, hr1, hr2⟩ := h.at_ hlt
      obtain ⟨g1, g2⟩ := HG.out _ _ hl
      have hll := hr.1
      obtain rfl : n1 = n := by omega
      have G2 := Lib.hid g2
      clear hl g2 g1 hll
      go_wp2_with fail
      go_loop [29] (fun i => ∃ m : Nat, m ≤ n1 ∧ i = .int .i64 m) (fun i => n1 - (intOf i).toNat)
      case atStart => exact ⟨0, Nat.zero_le _, rfl⟩
      case round =>
        obtain ⟨m, hm, rfl⟩ := hrel
        by_cases hlt2 : m < n1
        · obtain ⟨b2, o2, x, rfl, hx, hc2⟩ := hr.at_ hlt2
          have hx2 := G2.out x (List.mem_of_getElem? hx)
          unfold INF at hx2
          clear hx
          have p1 : ¬ x < 0 := by omega
          have p2 : ¬ x > 1152921504606846976 := by omega
          clear hx2
          go_wp2_with fail
          go_round
          case rel => exact ⟨m + 1, by omega, by go_num⟩
          case measure => simp [intOf]; omega
        · go_wp2_with fail
          go_round
          case rel => exact ⟨k + 1, by omega, by go_num⟩
          case measure => simp [intOf]; omega
    · go_wp2_with fail
      go_ret
      exact ⟨rfl, rfl⟩

theorem jobSquare_len (A : Option Addr) (n c N : Nat) (w : World) (hne : n ≠ N) :
    Calls Tryz.prog 34 #[.int .i64 N, .slice A n c] w fun e w' => ∃ v, e = .returned v ∧ Chain w' v [(⟨#[116, 97, 98, 108, 101]⟩, 0)] 1 ∧ Below w.heap.size w w' := by
  go_enter Tryz.func34, Tryz.ntmps34
  go_wp2_with fail
  with_reducible refine (jobFault_any _ _ _ _).mono ?_
  rintro e w1 ⟨v, rfl, h1, h2⟩
  go_wp2_with fail
  go_ret
  exact ⟨v, rfl, h1, h2⟩

/-- the cost of one step of a table -/
def stepC (ls : List (List Int)) (i j : Nat) : Int := ((ls[i]?).bind (·[j]?)).getD INF
theorem stepC_eq {ls : List (List Int)} {i j : Nat} {l : List Int} {x : Int} (h : ls[i]? = some l) (g : l[j]? = some x) : stepC ls i j = x := by simp [stepC, h, g]
/-- A square table. -/
def Sq (n : Nat) (ls : List (List Int)) : Prop := ls.length = n ∧ ∀ (i : Nat) (l : List Int), ls[i]? = some l → l.length = n
theorem sq_of {n : Nat} {ls : List (List Int)} (h : sqB n ls = true) : Sq n ls := ⟨sqB_size h, fun _ _ hl => (sqB_get h hl).1⟩
theorem RdT.two {w : World} {A : Option Addr} {n i j : Nat} {ls : List (List Int)} (h : RdT w A n ls) (hs : Sq n ls) (hi : i < n) (hj : j < n) :
    ∃ b o b2 o2 c2, A = some ⟨b, o, none⟩ ∧ w.cell? ⟨b, o + i, none⟩ = some (.slice (some ⟨b2, o2, none⟩) n c2) ∧ w.cell? ⟨b2, o2 + j, none⟩ = some (.int .i64 (stepC ls i j)) := by
  obtain ⟨b, o, A1, n1, c1, l, rfl, hl, hc, hr, _, _⟩ := h.at_ hi
  have e1 := hs.2 i l hl
  have e2 := hr.1
  obtain rfl : n1 = n := by omega
  obtain ⟨b2, o2, x, rfl, hx, hc2⟩ := hr.at_ hj
  exact ⟨b, o, b2, o2, c1, rfl, hc, by rw [stepC_eq hl hx]; exact hc2⟩

theorem step_any (A : Option Addr) (n c i j : Nat) (ls : List (List Int)) (w : World) (h : RdT w A n ls) (hs : Sq n ls) (hi : i < n) (hj : j < n) :
    Calls Tryz.prog 63 #[.slice A n c, .int .i64 i, .int .i64 j] w fun e w' => e = .returned (.int .i64 (stepC ls i j)) ∧ w = w' := by
  obtain ⟨b, o, b2, o2, c2, rfl, h1, h2⟩ := h.two hs hi hj
  generalize stepC ls i j = x at *
  clear h hs
  go_enter Tryz.func63, Tryz.ntmps63
  go_wp2_with fail
  go_ret
  exact ⟨rfl, rfl⟩

/-- Length of a route, from where it is at, with what it has cost so far. -/
def lenGo (ls : List (List Int)) : Nat → Int → List Int → Int
  | i, acc, [] => add2 acc (stepC ls i 0)
  | i, acc, k :: t => if k < 1 ∨ (ls.length : Int) ≤ k then INF else lenGo ls k.toNat (add2 acc (stepC ls i k.toNat)) t
def lenR (ls : List (List Int)) (r : List Int) : Int := if r = [] then 0 else lenGo ls 0 0 r

set_option maxHeartbeats 1000000 in
theorem jobLength_any (A R : Option Addr) (n c m d : Nat) (ls : List (List Int)) (r : List Int) (w : World) (h : RdT w A n ls) (hs : Sq n ls) (hn0 : 0 < n) (hr : RdI w R m r) (hm : m ≤ 4000000000000000000) :
    Calls Tryz.prog 48 #[.slice A n c, .slice R m d] w fun e w' => e = .returned (.int .i64 (lenR ls r)) ∧ w = w' := by
  have hl := hs.1
  have hrl := hr.1
  have HS := Lib.hid (show ∀ (i j : Nat), i < n → j < n → Calls Tryz.prog 63 #[.slice A n c, .int .i64 i, .int .i64 j] w fun e w' => e = .returned (.int .i64 (stepC ls i j)) ∧ w = w' from fun i j hi hj => step_any A n c i j ls w h hs hi hj)
  have HA := Lib.hid costAdd_any
  by_cases h0 : m = 0
  · subst h0
    have hr0 := Lib.hid (List.length_eq_zero_iff.1 hrl)
    go_enter Tryz.func48, Tryz.ntmps48
    go_wp2_with fail
    go_ret
    exact ⟨ret_int (by unfold lenR; rw [if_pos hr0.out]), rfl⟩
  · have hr0 := Lib.hid (show lenR ls r = lenGo ls 0 0 r by unfold lenR; rw [if_neg (by intro e; rw [e] at hrl; simp at hrl; omega)])
    have HL := Lib.hid hl
    have HR := Lib.hid hrl
    clear hl hrl hs h
    have e0 : ((m : Int) == 0) = false := by simp; omega
    go_enter Tryz.func48, Tryz.ntmps48
    go_wp2_with fail
    go_loopw [5, 6, 14] (fun a p i W => w = W ∧ ∃ (k q : Nat) (x : Int), k ≤ m ∧ i = .int .i64 k ∧ a = .int .i64 x ∧ p = .int .i64 q ∧ q < n ∧ lenR ls r = lenGo ls q x (r.drop k)) (fun _ _ i _ => m - (intOf i).toNat)
    case atStart => exact ⟨rfl, 0, 0, 0, Nat.zero_le _, rfl, rfl, rfl, hn0, hr0.out⟩
    case round =>
      obtain ⟨rfl, k, q, x, hk, rfl, rfl, rfl, hq, heq⟩ := hrel
      have HE := Lib.hid heq; clear heq
      by_cases hlt : k < m
      · obtain ⟨b, o, y, rfl, hy, hc⟩ := hr.at_ hlt
        have hlt' : k < r.length := by rw [HR.out]; exact hlt
        have hdrop : r.drop k = y :: r.drop (k + 1) := by
          rw [List.drop_eq_getElem_cons hlt']
          congr 1
          exact (List.getElem?_eq_some_iff.1 hy).2
        have HD := Lib.hid hdrop
        clear hdrop hlt' hy
        by_cases g1 : y < 1
        · have HF := Lib.hid (show lenR ls r = INF by rw [HE.out, HD.out]; unfold lenGo; rw [if_pos (Or.inl g1)])
          go_wp2_with fail
          go_ret
          exact ⟨ret_int HF.out.symm, rfl⟩
        · by_cases g2 : (n : Int) ≤ y
          · have HF := Lib.hid (show lenR ls r = INF by rw [HE.out, HD.out]; unfold lenGo; rw [if_pos (Or.inr (by rw [HL.out]; exact g2))])
            go_wp2_with fail
            go_ret
            exact ⟨ret_int HF.out.symm, rfl⟩
          · obtain ⟨z, rfl⟩ : ∃ z : Nat, y = z := ⟨y.toNat, by omega⟩
            have hz : z < n := by omega
            have HF := Lib.hid (show lenR ls r = lenGo ls z (add2 x (stepC ls q z)) (r.drop (k + 1)) by
              rw [HE.out, HD.out]
              conv => lhs; unfold lenGo
              rw [if_neg (by rw [HL.out]; omega)]
              rfl)
            have HS1 := Lib.hid (HS.out q z hq hz)
            go_wp2_with fail
            with_reducible refine (HS1.out).mono ?_
            rintro e w' ⟨rfl, rfl⟩
            go_wp2_with fail
            with_reducible refine (HA.out _ _ _).mono ?_
            rintro e w' ⟨rfl, rfl⟩
            go_wp2_with fail
            go_roundw
            case rel => exact ⟨by trivial, k + 1, z, _, by omega, by go_num, rfl, rfl, hz, HF.out⟩
            case measure => simp [intOf]; omega
      · obtain rfl : k = m := by omega
        have HF := Lib.hid (show lenR ls r = add2 x (stepC ls q 0) by
          rw [HE.out, List.drop_of_length_le (by rw [HR.out]; exact Nat.le_refl _)]
          rfl)
        have HS1 := Lib.hid (show Calls Tryz.prog 63 #[.slice A n c, .int .i64 q, .int .i64 0] w fun e w' => e = .returned (.int .i64 (stepC ls q 0)) ∧ w = w' from HS.out q 0 hq hn0)
        go_wp2_with fail
        with_reducible refine (HS1.out).mono ?_
        rintro e w' ⟨rfl, rfl⟩
        go_wp2_with fail
        with_reducible refine (HA.out _ _ _).mono ?_
        rintro e w' ⟨rfl, rfl⟩
        go_wp2_with fail
        go_ret
        exact ⟨ret_int HF.out.symm, rfl⟩

/-- A stop's load, if there is such a stop. -/
def loadOf (st : List (Int × Int)) (k : Int) : Int := if 1 ≤ k ∧ k ≤ st.length then ((st[(k - 1).toNat]?).getD (0, 0)).2 else 0
def loadR (st : List (Int × Int)) (r : List Int) : Int := (r.map (loadOf st)).sum
/-- Loads as a job may have them. -/
def LdOk (st : List (Int × Int)) : Prop := ∀ p ∈ st, 0 ≤ p.2 ∧ p.2 ≤ 2147483648
theorem loadOf_bd {st : List (Int × Int)} (h : LdOk st) (k : Int) : 0 ≤ loadOf st k ∧ loadOf st k ≤ 2147483648 := by
  unfold loadOf
  split
  · rename_i hk
    have hlt : (k - 1).toNat < st.length := by omega
    rw [List.getElem?_eq_getElem hlt]
    exact h _ (List.getElem_mem _)
  · omega
theorem loadR_bd {st : List (Int × Int)} (h : LdOk st) : ∀ r : List Int, 0 ≤ loadR st r ∧ loadR st r ≤ r.length * 2147483648
  | [] => by simp [loadR]
  | k :: t => by
    have h1 := loadOf_bd h k
    have h2 := loadR_bd h t
    unfold loadR at *
    simp only [List.map_cons, List.sum_cons, List.length_cons]
    omega
theorem loadR_take {st : List (Int × Int)} {r : List Int} {k : Nat} {x : Int} (h : r[k]? = some x) : loadR st (r.take (k + 1)) = loadR st (r.take k) + loadOf st x := by
  have hlt := (List.getElem?_eq_some_iff.1 h).1
  have e := (List.getElem?_eq_some_iff.1 h).2
  unfold loadR
  rw [List.take_succ_eq_append_getElem hlt, e]
  simp [List.sum_append]

abbrev jobV (dep cap lim : Int) (A : Option Addr) (n c : Nat) : Value := .agg #[.int .i64 dep, .int .i64 cap, .int .i64 lim, .slice A n c]
theorem Blk.four {w : World} {g : Nat} {t : TypeId} {a b c d : Value} (h : Blk w g t #[a, b, c, d]) :
    w.cell? ⟨g, 0, none⟩ = some a ∧ w.cell? ⟨g, 1, none⟩ = some b ∧ w.cell? ⟨g, 2, none⟩ = some c ∧ w.cell? ⟨g, 3, none⟩ = some d :=
  ⟨by rw [h.cell]; rfl, by rw [h.cell]; rfl, by rw [h.cell]; rfl, by rw [h.cell]; rfl⟩

set_option maxHeartbeats 1000000 in
theorem jobLoad_any (dep cap lim : Int) (A R : Option Addr) (n c m d : Nat) (st : List (Int × Int)) (r : List Int) (w : World) (h : RdP w A n st) (hL : LdOk st) (hr : RdI w R m r) (hn : n ≤ 4000000000000000000) (hm : m ≤ 1000000000) :
    Calls Tryz.prog 49 #[jobV dep cap lim A n c, .slice R m d] w fun e w' => e = .returned (.int .i64 (loadR st r)) ∧ Below w.heap.size w w' := by
  go_enter Tryz.func49, Tryz.ntmps49
  go_wp2_with fail
  (refine wp_named ?_; intro w1 hw1)
  have hb1 : Below w.heap.size w w1 := by rw [hw1]; exact (by repeat (first | exact Below.refl _ _ | assumption | apply Below.drew | apply below_drewN | apply Bel.alloc | (refine Bel.setCell_ ?_ ?_; rotate_left; omega) | (refine Bel.step ?_ (by assumption))))
  have hB : Blk w1 w.heap.size 35 #[.int .i64 dep, .int .i64 cap, .int .i64 lim, .slice A n c] := by rw [hw1]; exact Blk.new _ _ _
  have h1 := h.below hb1
  have hr1 := hr.below hb1
  have HL := Lib.hid hL
  have HN := Lib.hid h.1
  have HM := Lib.hid hr.1
  obtain ⟨b0, b1, b2, b3⟩ := hB.four
  clear hw1 h hr hL hB b0 b1 b2
  go_loopw [5, 10] (fun a i W => w1 = W ∧ ∃ k : Nat, k ≤ m ∧ i = .int .i64 k ∧ a = .int .i64 (loadR st (r.take k))) (fun _ i _ => m - (intOf i).toNat)
  case atStart => exact ⟨by trivial, 0, Nat.zero_le _, rfl, by simp [loadR]⟩
  case round =>
    obtain ⟨rfl, k, hk, rfl, rfl⟩ := hrel
    by_cases hlt : k < m
    · obtain ⟨b, o, y, rfl, hy, hc⟩ := hr1.at_ hlt
      have hx := Lib.hid (loadR_take (st := st) hy)
      have hbd := loadR_bd HL.out (r.take k)
      have hbd2 := loadOf_bd HL.out y
      have htl : (r.take k).length ≤ 1000000000 := by rw [List.length_take]; omega
      clear hy
      generalize loadR st (r.take k) = x at *
      by_cases g : 1 ≤ y ∧ y ≤ n
      · obtain ⟨z, rfl⟩ : ∃ z : Nat, y = z + 1 := ⟨(y - 1).toNat, by omega⟩
        have hz : z < n := by omega
        obtain ⟨b2, o2, x2, y2, rfl, hx2, hc2, hd2⟩ := h1.at_ hz
        have hv : loadOf st ((z : Int) + 1) = y2 := by
          unfold loadOf
          rw [if_pos (by rw [HN.out]; exact g)]
          rw [show ((z : Int) + 1 - 1).toNat = z by omega, hx2]
          rfl
        rw [hv] at hx hbd2
        clear hx2 hv
        have g1 : (1 : Int) ≤ (z : Int) + 1 := g.1
        have g2 : (z : Int) + 1 ≤ (n : Int) := g.2
        have e1 : IntKind.i64.wrap ((z : Int) + 1 - 1) = (z : Int) := by rw [show (z : Int) + 1 - 1 = z by omega]; exact IntWalk.i64_in _ (by omega)
        have e2 : IntKind.i64.wrap (x + y2) = x + y2 := IntWalk.i64_in _ (by omega)
        clear g
        go_wp2_with fail
        go_roundw
        case rel => exact ⟨by trivial, k + 1, by omega, by go_num, by rw [hx.out]⟩
        case measure => simp [intOf]; omega
      · have hv : loadOf st y = 0 := by
          unfold loadOf
          rw [if_neg (by rw [HN.out]; exact g)]
        rw [hv] at hx
        clear hv
        by_cases g1 : 1 ≤ y
        · have g2 : ¬ y ≤ (n : Int) := by omega
          clear g
          go_wp2_with fail
          go_roundw
          case rel => exact ⟨by trivial, k + 1, by omega, by go_num, by rw [hx.out]; simp⟩
          case measure => simp [intOf]; omega
        · clear g
          go_wp2_with fail
          go_roundw
          case rel => exact ⟨by trivial, k + 1, by omega, by go_num, by rw [hx.out]; simp⟩
          case measure => simp [intOf]; omega
    · obtain rfl : k = m := by omega
      rw [List.take_of_length_le (by rw [HM.out]; exact Nat.le_refl _)]
      go_wp2_with fail
      go_ret
      exact ⟨rfl, hb1⟩

def goesB (cap lim : Int) (ls : List (List Int)) (st : List (Int × Int)) (r : List Int) : Bool := decide (loadR st r ≤ cap) && (decide (lenR ls r < INF) && decide (lenR ls r ≤ lim))
end Go.Proofs.YtjphjbchhhembaaGreatDoor
