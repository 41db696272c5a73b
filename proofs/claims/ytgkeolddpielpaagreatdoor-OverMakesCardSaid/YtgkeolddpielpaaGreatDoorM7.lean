/- Parts of the proof: MkP, Err, Ft, Gr. -/
import Derived.Test.YtgkeolddpielpaaGreatDoorM6
import Derived.LaidEql
import Derived.Stop.Asserts
import Derived.RowKitTokens
import Derived.Lib.IfaceEq
import Derived.Stop.IfaceNil
/- The first level that is wrong: plain; part.tally, part.nested of cells that may not be. -/
namespace Go.Proofs.YtgkeolddpielpaaGreatDoor
open Go.RowKit

attribute [local go_sem ↓] Go.wp_at_zero Go.wp_at_succ

theorem least_nat {P : Nat → Prop} (h : ∃ i, P i) : ∃ i, P i ∧ ∀ j, j < i → ¬ P j := by
  classical
  obtain ⟨i, hi⟩ := h
  induction i using Nat.strongRecOn with
  | ind i ih =>
    by_cases hx : ∃ j, j < i ∧ P j
    · obtain ⟨j, hj, hp⟩ := hx
      exact ih j hj hp
    · exact ⟨i, hi, fun j hj hp => hx ⟨j, hj, hp⟩⟩
/-- Up to a level all is right. -/
def PGood (n : Nat) (ls : List (List Int)) (i : Nat) : Prop := ∀ (j : Nat) (l : List Int), j < i → ls[j]? = some l → lvlCode n (prevOf ls j) l = 0
theorem PGood.lvl {n i j : Nat} {ls : List (List Int)} (h : PGood n ls i) {l : List Int} (hj : j < i) (hl : ls[j]? = some l) : LvlOk n l := (lvlCode_inv (h j l hj hl)).1
theorem PGood.nest {n i j : Nat} {ls : List (List Int)} (h : PGood n ls i) {p l : List Int} (hj : j + 1 < i) (hp : ls[j]? = some p) (hl : ls[j + 1]? = some l) : NestOk p l :=
  (lvlCode_inv (h (j + 1) l hj hl)).2 p (by rw [prevOf_succ]; exact hp)
/-- The first level that is wrong, and how. -/
def PBad (n : Nat) (ls : List (List Int)) (k c : Int) : Prop :=
  (6 < ls.length ∧ k = 0 ∧ c = 4) ∨ (ls.length = 0 ∧ k = 0 ∧ c = 1) ∨ (1 ≤ ls.length ∧ ls.length ≤ 6 ∧ ∃ (i : Nat) (l : List Int), ls[i]? = some l ∧ k = (i : Int) + 1 ∧ c = lvlCode n (prevOf ls i) l ∧ c ≠ 0 ∧ PGood n ls i)
theorem PBad.ne {n : Nat} {ls : List (List Int)} {k c : Int} (h : PBad n ls k c) : c ≠ 0 := by
  rcases h with ⟨_, _, rfl⟩ | ⟨_, _, rfl⟩ | ⟨_, _, i, l, _, _, _, h, _⟩
  · decide
  · decide
  · exact h
theorem part_or (n : Nat) (ls : List (List Int)) : PartOk n ls ∨ ∃ k c, PBad n ls k c := by
  classical
  by_cases h6 : 6 < ls.length
  · exact .inr ⟨0, 4, .inl ⟨h6, rfl, rfl⟩⟩
  by_cases h0 : ls.length = 0
  · exact .inr ⟨0, 1, .inr (.inl ⟨h0, rfl, rfl⟩)⟩
  by_cases hx : ∃ i, ∃ l, ls[i]? = some l ∧ lvlCode n (prevOf ls i) l ≠ 0
  · obtain ⟨i, ⟨l, hl, hc⟩, hm⟩ := least_nat hx
    refine .inr ⟨(i : Int) + 1, _, .inr (.inr ⟨by omega, by omega, i, l, hl, rfl, rfl, hc, fun j l' hj hl' => ?_⟩)⟩
    exact Classical.byContradiction (fun hn => hm j hj ⟨l', hl', hn⟩)
  · have hg : PGood n ls ls.length := fun j l _ hl => Classical.byContradiction (fun hn => hx ⟨j, l, hl, hn⟩)
    refine .inl ⟨by omega, by omega, fun l hl => ?_, fun j p l hp hl => ?_⟩
    · obtain ⟨j, hj⟩ := List.getElem?_of_mem hl
      exact hg.lvl (List.getElem?_eq_some_iff.1 hj).1 hj
    · exact hg.nest (List.getElem?_eq_some_iff.1 hl).1 hp hl
theorem PartOk.good {n : Nat} {ls : List (List Int)} (h : PartOk n ls) : PGood n ls ls.length := fun j l _ hl => by
  refine lvlCode_ok (h.lvl l (List.mem_of_getElem? hl)) (fun q hq => ?_)
  cases j with
  | zero => cases hq
  | succ j => exact h.nest j q l (by rw [prevOf_succ] at hq; exact hq) hl

theorem cntI_has0 {l : List Int} {c : Nat} (hc : (c : Int) < mostN l) (hm : (c : Int) ∉ l) : (0 : Int) ∈ cntI l (mostN l).toNat := by
  unfold cntI
  rw [List.mem_map]
  refine ⟨c, List.mem_range.2 (by omega), ?_⟩
  have : l.countP (fun x => x == (c : Int)) = 0 := by
    rw [List.countP_eq_zero]
    intro x hx he
    rw [beq_iff_eq] at he
    exact hm (he ▸ hx)
  omega
set_option maxHeartbeats 1000000 in
theorem tally_no (A : Option Addr) (n c : Nat) (l : List Int) (w : World) (h : RdI w A n l) (hl : ¬ LvlOk n l) (hn : n ≤ 1000000) :
    Calls Tryz.prog 63 #[.slice A n c] w fun e w' => (∃ A2 k2 c2, e = .returned (.tuple #[.slice A2 k2 c2, .bool false])) ∧ Below w.heap.size w w' := by
  have HR := Lib.hid h
  have HL := Lib.hid h.1
  have HO := Lib.hid hl
  have hmk := run_makeI n (by omega)
  clear h hl
  go_enter Tryz.func63, Tryz.ntmps63
  go_wp2_with fail
  (refine wp_named ?_; intro w1 hw1)
  have hb1 : Below w.heap.size w w1 := by rw [hw1]; exact (by repeat (first | exact Below.refl _ _ | assumption | apply Below.drew | apply below_drewN | apply Bel.alloc | (refine Bel.setCell_ ?_ ?_; rotate_left; omega) | (refine Bel.step ?_ (by assumption))))
  have hB1 : Blk w1 w.heap.size 3 (ints (cntI (l.take 0) n)) := by rw [hw1, List.take_zero, cntI_zero]; exact Blk.new _ _ _
  clear hw1 hmk
  go_loopw [6, 15] (fun m q W => Below w.heap.size w W ∧ ∃ k : Nat, k ≤ n ∧ q = .int .i64 k ∧ m = .int .i64 (mostN (l.take k) - 1) ∧ Blk W w.heap.size 3 (ints (cntI (l.take k) n)) ∧ ∀ x ∈ l.take k, 0 ≤ x ∧ x < n) (fun _ q _ => n - (intOf q).toNat)
  case atStart => exact ⟨hb1, 0, Nat.zero_le _, rfl, rfl, hB1, fun x hx => by simp at hx⟩
  case round =>
    clear hb1 hB1
    obtain ⟨hbl, k, hk, rfl, rfl, hB, hin⟩ := hrel
    have HIN := Lib.hid hin
    clear hin
    by_cases hlt : k < n
    · obtain ⟨b, o, x, rfl, hx, hc⟩ := HR.out.at_ hlt
      have hc2 := Below.cellOf hbl (Nat.le_refl _) hc
      have i1 : (0 : Int) ≤ (k : Int) := by omega
      have i2 : (k : Int) < (n : Int) := by omega
      by_cases x0 : x < 0
      · clear hc hx
        go_wp2_with fail
        go_ret2
        exact ⟨⟨none, 0, 0, rfl⟩, hbl⟩
      by_cases x1 : (n : Int) ≤ x
      · clear hc hx
        go_wp2_with fail
        go_ret2
        exact ⟨⟨none, 0, 0, rfl⟩, hbl⟩
      obtain ⟨v, rfl⟩ : ∃ v : Nat, x = v := ⟨x.toNat, by omega⟩
      have hv : v < n := by omega
      have HNX := Lib.hid (mostN_next hx)
      have c1 := hB.cellI (cntI_get (l := l.take k) hv)
      have c1f := hB.frozen v
      have d1 := cntI_bd l k (v : Int)
      have m0 := mostN_nonneg (l.take k)
      have m1 := mostN_le (l := l.take k) (n := (n : Int)) (fun x hx => (HIN.out x hx).2) (by omega)
      have HBN := Lib.hid (hB.setI (cntI_next hx hv))
      have HI2 := Lib.hid (show ∀ x ∈ l.take (k + 1), 0 ≤ x ∧ x < n from fun y hy => by
        rw [List.take_succ_eq_append_getElem (List.getElem?_eq_some_iff.1 hx).1, (List.getElem?_eq_some_iff.1 hx).2] at hy
        rcases List.mem_append.1 hy with hy | hy
        · exact HIN.out y hy
        · rw [List.mem_singleton] at hy; subst hy; omega)
      have i3 : (0 : Int) ≤ (v : Int) := by omega
      have i4 : (v : Int) < (n : Int) := by omega
      clear hx hc hB HIN x0 x1
      generalize (l.take k).countP (fun x => x == (v : Int)) = p at *
      generalize mostN (l.take k) = m at *
      have hbn : Below w.heap.size w (wr.setCell ⟨w.heap.size, v, none⟩ (.int .i64 ((p : Int) + 1))) := hbl.setCell (Nat.le_refl _) _
      have HM := Lib.hid (show (if m - 1 < (v : Int) then (v : Int) else m - 1) = max m ((v : Int) + 1) - 1 by split <;> omega)
      go_wp2_with fail
      go_roundw
      case rel => exact ⟨hbn, k + 1, by omega, by go_num, by rw [HNX.out, HM.out], HBN.out, HI2.out⟩
      case measure => simp [intOf]; omega
    · obtain rfl : n = k := by omega
      have htk : l.take n = l := List.take_of_length_le (by rw [HL.out]; exact Nat.le_refl _)
      rw [htk] at hB HIN
      have HE := Lib.hid (show mostN (l.take n) = mostN l by rw [htk])
      have m0 := mostN_nonneg l
      have m1 := mostN_le (l := l) (n := (n : Int)) (fun x hx => (HIN.out x hx).2) (by omega)
      obtain ⟨c0, hc0, hc1⟩ : ∃ c : Nat, (c : Int) < mostN l ∧ (c : Int) ∉ l := Classical.byContradiction (fun hn => HO.out ⟨HL.out, fun x hx => (HIN.out x hx).1, fun x hx => (HIN.out x hx).2, fun c hc => Classical.byContradiction (fun h => hn ⟨c, hc, h⟩)⟩)
      have HP := Lib.hid (cntI_has0 hc0 hc1)
      have hrd := (hB.rdI (n := n) (cntI_len l n)).take (m := (mostN l).toNat) (by omega)
      rw [cntI_take l (by omega)] at hrd
      rw [HE.out]
      obtain ⟨M, hM⟩ : ∃ M : Nat, mostN l = M := ⟨(mostN l).toNat, by omega⟩
      rw [hM] at m0 m1 ⊢
      rw [hM, Int.toNat_natCast] at hrd HP
      have HCT := Lib.hid (show Calls Tryz.prog 99 #[.slice (some ⟨w.heap.size, 0, none⟩) M n, .int .i64 0] wr fun e w' => e = .returned (.bool true) ∧ wr = w' from (contains_any _ M n _ 0 wr hrd (by omega)).mono (fun e w' h => ⟨by rw [h.1, decide_eq_true HP.out], h.2⟩))
      clear hM hrd hB hc0 hc1 htk
      have i1 : (M : Int) - 1 + 1 = (M : Int) := by omega
      go_wp2_with fail
      with_reducible refine HCT.out.mono ?_
      rintro e w' ⟨rfl, rfl⟩
      go_wp2_with fail
      go_ret2
      exact ⟨⟨_, _, _, rfl⟩, hbl⟩

/-- What part.nested has noted of the first k vertices, where none was at odds. -/
structure UpJ (p l U : List Int) (k : Nat) : Prop where
  len : U.length = p.length
  put : ∀ (v c : Nat) (y : Int), v < k → p[v]? = some (c : Int) → l[v]? = some y → U[c]? = some y
theorem UpJ.start (p l : List Int) : UpJ p l (List.replicate p.length (-1)) 0 := ⟨by simp, fun v _ _ h => absurd h (Nat.not_lt_zero _)⟩
theorem UpJ.next {p l U : List Int} {k c : Nat} {y z : Int} (h : UpJ p l U k) (hp : p[k]? = some (c : Int)) (hl : l[k]? = some y) (hc : c < p.length) (hz : U[c]? = some z) (hzy : z = -1 ∨ z = y) (hpos : ∀ y ∈ l, 0 ≤ y) : UpJ p l (U.set c y) (k + 1) := by
  refine ⟨by rw [List.length_set]; exact h.len, fun v d u hv h1 h2 => ?_⟩
  by_cases e : c = d
  · subst e
    rw [List.getElem?_set_self (by rw [h.len]; exact hc)]
    by_cases ev : v = k
    · subst ev
      rw [hl] at h2
      exact h2
    · have := h.put v c u (by omega) h1 h2
      rw [hz] at this
      have h0 := hpos u (List.mem_of_getElem? h2)
      cases this
      rcases hzy with e | e
      · omega
      · rw [e]
  · rw [List.getElem?_set_ne e]
    by_cases ev : v = k
    · subst ev
      rw [hp] at h1
      injection h1 with h1
      omega
    · exact h.put v d u (by omega) h1 h2
theorem UpJ.unsorted {p l U : List Int} {n : Nat} (h : UpJ p l U n) (hn : ¬ NestOk p l) (hp : LvlOk n p) : sortedB (U.take (mostN p).toNat) = false := by
  cases hs : sortedB (U.take (mostN p).toNat) with
  | false => rfl
  | true =>
    exfalso
    apply hn
    unfold sortedB at hs
    rw [decide_eq_true_eq, List.pairwise_iff_getElem] at hs
    intro a b x y u v ha hb hla hlb hxy
    have la := (List.getElem?_eq_some_iff.1 ha).1
    have lb := (List.getElem?_eq_some_iff.1 hb).1
    rw [hp.len] at la lb
    have x0 := hp.lo x (List.mem_of_getElem? ha)
    have y0 := hp.lo y (List.mem_of_getElem? hb)
    have xm := lt_mostN (List.mem_of_getElem? ha)
    have ym := lt_mostN (List.mem_of_getElem? hb)
    obtain ⟨c, rfl⟩ : ∃ c : Nat, x = c := ⟨x.toNat, by omega⟩
    obtain ⟨d, rfl⟩ : ∃ d : Nat, y = d := ⟨y.toNat, by omega⟩
    have p1 := h.put a c u la ha hla
    have p2 := h.put b d v lb hb hlb
    by_cases e : c = d
    · subst e
      rw [p1] at p2
      cases p2
      exact Int.le_refl _
    · have l1 := (List.getElem?_eq_some_iff.1 p1).1
      have l2 := (List.getElem?_eq_some_iff.1 p2).1
      have := hs c d (by rw [List.length_take]; omega) (by rw [List.length_take]; omega) (by omega)
      rw [List.getElem_take, List.getElem_take, (List.getElem?_eq_some_iff.1 p1).2, (List.getElem?_eq_some_iff.1 p2).2] at this
      exact this
set_option maxHeartbeats 2000000 in
theorem nested_no (A B : Option Addr) (n c d : Nat) (p l : List Int) (w : World) (h : RdI w A n p) (h2 : RdI w B n l) (hp : LvlOk n p) (hl : LvlOk n l) (hN : ¬ NestOk p l) (hn : n ≤ 1000000) :
    Calls Tryz.prog 64 #[.slice A n c, .slice B n d] w fun e w' => e = .returned (.bool false) ∧ Below w.heap.size w w' := by
  have HR := Lib.hid h
  have HR2 := Lib.hid h2
  have HL := Lib.hid h.1
  have HO := Lib.hid hp
  have HO2 := Lib.hid hl
  have HN := Lib.hid hN
  have hmk := run_makeI n (by omega)
  clear h h2 hl hp hN
  go_enter Tryz.func64, Tryz.ntmps64
  go_wp2_with fail
  (refine wp_named ?_; intro w1 hw1)
  have hb1 : Below w.heap.size w w1 := by rw [hw1]; exact (by repeat (first | exact Below.refl _ _ | assumption | apply Below.drew | apply below_drewN | apply Bel.alloc | (refine Bel.setCell_ ?_ ?_; rotate_left; omega) | (refine Bel.step ?_ (by assumption))))
  have hB1 : Blk w1 w.heap.size 3 (ints (List.replicate 0 (-1) ++ List.replicate (n - 0) 0)) := by rw [hw1]; simp only [List.replicate_zero, List.nil_append, Nat.sub_zero]; rw [← zeros_int]; exact Blk.new _ _ _
  clear hw1 hmk
  go_loopw [15] (fun q W => Below w.heap.size w W ∧ ∃ k : Nat, k ≤ n ∧ q = .int .i64 k ∧ Blk W w.heap.size 3 (ints (List.replicate k (-1) ++ List.replicate (n - k) 0))) (fun q _ => n - (intOf q).toNat)
  case atStart => exact ⟨hb1, 0, Nat.zero_le _, rfl, hB1⟩
  case round =>
    clear hb1 hB1
    obtain ⟨hbl, k, hk, rfl, hB⟩ := hrel
    by_cases hlt : k < n
    · obtain ⟨z, hz⟩ : ∃ z, (List.replicate k (-1 : Int) ++ List.replicate (n - k) 0)[k]? = some z := ⟨_, List.getElem?_eq_getElem (by simp; omega)⟩
      have c1 := hB.cellI hz
      have c1f := hB.frozen k
      have HB := Lib.hid (hB.setI (min1_next hlt))
      have hbn : Below w.heap.size w (wr.setCell ⟨w.heap.size, k, none⟩ (.int .i64 (-1))) := hbl.setCell (Nat.le_refl _) _
      have i1 : (0 : Int) ≤ (k : Int) := by omega
      have i2 : (k : Int) < (n : Int) := by omega
      clear hB hz hbl
      go_wp2_with fail
      go_roundw
      case rel => exact ⟨hbn, k + 1, by omega, by go_num, HB.out⟩
      case measure => simp [intOf]; omega
    · obtain rfl : n = k := by omega
      rw [Nat.sub_self, List.replicate_zero, List.append_nil] at hB
      have HU := Lib.hid (show UpJ p l (List.replicate n (-1)) 0 from by have := UpJ.start p l; rw [HL.out] at this; exact this)
      go_wp2_with fail
      go_loopw [7, 24] (fun m q W => Below w.heap.size w W ∧ ∃ (k : Nat) (U : List Int), k ≤ n ∧ q = .int .i64 k ∧ m = .int .i64 (mostN (p.take k) - 1) ∧ Blk W w.heap.size 3 (ints U) ∧ UpJ p l U k ∧ ∀ z ∈ U, -1 ≤ z) (fun _ q _ => n - (intOf q).toNat)
      case atStart => exact ⟨hbl, 0, _, Nat.zero_le _, rfl, rfl, hB, HU.out, fun z hz => by rw [(List.mem_replicate.1 hz).2]; exact Int.le_refl _⟩
      case round =>
        clear hbl hB HU
        obtain ⟨hbl, k, U, hk, rfl, rfl, hB, hU, hUm⟩ := hrel
        have HU := Lib.hid hU
        by_cases hlt2 : k < n
        · obtain ⟨b, o, x, rfl, hx, hc⟩ := HR.out.at_ hlt2
          obtain ⟨b2, o2, y, rfl, hy, hcy⟩ := HR2.out.at_ hlt2
          have x0 := HO.out.lo x (List.mem_of_getElem? hx)
          have x1 := HO.out.hi x (List.mem_of_getElem? hx)
          have y0 := HO2.out.lo y (List.mem_of_getElem? hy)
          obtain ⟨v, rfl⟩ : ∃ v : Nat, x = v := ⟨x.toNat, by omega⟩
          have hv : v < n := by omega
          have hc2 := Below.cellOf hbl (Nat.le_refl _) hc
          have hcy2 := Below.cellOf hbl (Nat.le_refl _) hcy
          have HNX := Lib.hid (mostN_next hx)
          obtain ⟨z, hz⟩ : ∃ z, U[v]? = some z := ⟨_, List.getElem?_eq_getElem (by rw [hU.len, HL.out]; exact hv)⟩
          have hpre : -1 ≤ z := hUm z (List.mem_of_getElem? hz)
          have HUM := Lib.hid (show ∀ z ∈ U.set v y, -1 ≤ z from fun q hq => by
            rcases List.mem_or_eq_of_mem_set hq with hq | rfl
            · exact hUm q hq
            · omega)
          have c1 := hB.cellI hz
          have c1f := hB.frozen v
          have m0 := mostN_nonneg (p.take k)
          have m1 := mostN_le (l := p.take k) (n := (n : Int)) (fun x hx => HO.out.hi x (List.mem_of_mem_take hx)) (by omega)
          have HBN := Lib.hid (hB.setI (l' := U.set v y) rfl)
          have HUN := Lib.hid (fun hzy => hU.next hx hy (by rw [HL.out]; exact hv) hz hzy HO2.out.lo)
          have i1 : (0 : Int) ≤ (k : Int) := by omega
          have i2 : (k : Int) < (n : Int) := by omega
          have i3 : (0 : Int) ≤ (v : Int) := by omega
          have i4 : (v : Int) < (n : Int) := by omega
          have hbo := hbl
          have hbn : Below w.heap.size w (wr.setCell ⟨w.heap.size, v, none⟩ (.int .i64 y)) := hbl.setCell (Nat.le_refl _) _
          clear hx hy hc hcy hB hU hz HU hbl hUm
          generalize mostN (p.take k) = m at *
          have HM := Lib.hid (show (if m - 1 < (v : Int) then (v : Int) else m - 1) = max m ((v : Int) + 1) - 1 by split <;> omega)
          by_cases hz0 : z ≥ 0
          · by_cases hzy : z = y
            rotate_left
            · have e1 : (z == y) = false := by simpa using hzy
              have e2 : (z != y) = true := by simpa using hzy
              clear hzy HUN
              go_wp2_with fail
              go_quiet (fail)
              go_wp2_with fail
              go_ret
              exact ⟨rfl, below_drewN hbo _⟩
            obtain rfl : z = y := hzy
            have HUX := Lib.hid (HUN.out (.inr rfl))
            clear HUN
            go_wp2_with fail
            go_quiet (fail)
            go_wp2_with fail
            go_roundw
            case rel => exact ⟨below_drewN hbn _, k + 1, _, by omega, by go_num, by rw [HNX.out, HM.out], HBN.out.drewN _, HUX.out, HUM.out⟩
            case measure => simp [intOf]; omega
          · obtain rfl : z = -1 := by have := hpre; omega
            have HUX := Lib.hid (HUN.out (.inl rfl))
            clear HUN
            clear hz0
            go_wp2_with fail
            go_quiet (fail)
            go_wp2_with fail
            go_roundw
            case rel => exact ⟨below_drewN hbn _, k + 1, _, by omega, by go_num, by rw [HNX.out, HM.out], HBN.out.drewN _, HUX.out, HUM.out⟩
            case measure => simp [intOf]; omega
        · obtain rfl : n = k := by omega
          have HE := Lib.hid (show mostN (p.take n) = mostN p by rw [List.take_of_length_le (by rw [HL.out]; exact Nat.le_refl _)])
          have m0 := mostN_nonneg p
          have m1 := mostN_le (l := p) (n := (n : Int)) (fun x hx => HO.out.hi x hx) (by omega)
          have HS := Lib.hid (hU.unsorted HN.out HO.out)
          have hrd := (hB.rdI (n := n) (by rw [hU.len]; exact HL.out)).take (m := (mostN p).toNat) (by omega)
          rw [HE.out]
          obtain ⟨M, hM⟩ : ∃ M : Nat, mostN p = M := ⟨(mostN p).toNat, by omega⟩
          rw [hM] at m0 m1 ⊢
          rw [hM, Int.toNat_natCast] at hrd HS
          have HCT := Lib.hid (show Calls Tryz.prog 100 #[.slice (some ⟨w.heap.size, 0, none⟩) M n] wr fun e w' => e = .returned (.bool false) ∧ ∃ k, w' = wr.drewN k from (isSorted_any _ M n _ wr hrd (by omega)).mono (fun e w' h => ⟨by rw [h.1, HS.out], h.2⟩))
          have i1 : (M : Int) - 1 + 1 = (M : Int) := by omega
          clear hM hrd hB hU HE HU hUm
          go_wp2_with fail
          with_reducible refine HCT.out.mono ?_
          rintro e w' ⟨rfl, nq, hw'⟩
          have hbe : Below w.heap.size w w' := by rw [hw']; exact below_drewN hbl _
          clear hw'
          go_wp2_with fail
          go_ret
          exact ⟨rfl, hbe⟩

end Go.Proofs.YtgkeolddpielpaaGreatDoor

/- errors.Is, errors.As over chains of api.Fault: by contracts. After the worked texts Sentry and Toyas. -/
namespace Go.Proofs.YtgkeolddpielpaaGreatDoor
open Go.RowKit Go.Extern.Stop Go.Stop Go.Extern

abbrev errV (c : Int) : Value := .iface 95 (.int .i64 c)
abbrev fltV (b o : Nat) : Value := .iface 96 (.pointer (some ⟨b, o, none⟩))

/-- An error that is Faults, one in the other, and an Errno within. -/
def Chain (w : World) : Value → List (ByteArray × Int) → Int → Prop
  | v, [], c => v = errV c
  | v, p :: ps, c => ∃ b o u, v = fltV b o ∧ w.cell? ⟨b, o, none⟩ = some (.string p.1) ∧ w.cell? ⟨b, o + 1, none⟩ = some (.int .i64 p.2) ∧ w.cell? ⟨b, o + 2, none⟩ = some u ∧ Chain w u ps c
theorem Chain.below {w w' : World} (hb : Below w.heap.size w w') : ∀ {ps : List (ByteArray × Int)} {v : Value} {c : Int}, Chain w v ps c → Chain w' v ps c
  | [], _, _, h => h
  | _ :: _, _, _, h => by
    obtain ⟨b, o, u, h1, h2, h3, h4, h5⟩ := h
    exact ⟨b, o, u, h1, Below.cellOf hb (Nat.le_refl _) h2, Below.cellOf hb (Nat.le_refl _) h3, Below.cellOf hb (Nat.le_refl _) h4, Chain.below hb h5⟩

/-! closed facts -/
theorem er_typeOf (v : Value) (w : World) : (ReflectliteType.typeOf #[.iface 95 v]).run Tryz.prog w = .ok (.iface 184 (.agg #[.pointer (some ⟨1, 95, none⟩)])) w := by kernel_rfl
theorem er_typeOfF (v : Value) (w : World) : (ReflectliteType.typeOf #[.iface 96 v]).run Tryz.prog w = .ok (.iface 184 (.agg #[.pointer (some ⟨1, 96, none⟩)])) w := by kernel_rfl
def erComp : Array Value → Sem Value := ReflectliteType.method fun t => do Rtype.noPackHeld "Comparable" t; pure (.bool (← typeInfo t).comparable)
theorem er_comparable (w : World) : (erComp #[.agg #[.pointer (some ⟨1, 95, none⟩)]]).run Tryz.prog w = .ok (.bool true) w := by kernel_rfl
theorem er_mComparable (v : Value) (w : World) : (Go.method 350 184 v "Comparable").run Tryz.prog w = .ok (155, v) w := by kernel_rfl
theorem er_noIs (v : Value) (xT : TypeId) (w : World) : (Instr.typeAssert (.iface 95 v) xT 186 true).run Tryz.prog w = .ok (.tuple #[.nilIface, .bool false]) w := run_typeAssert_lacksB Tryz.underlying186 (by kernel_rfl) (by kernel_rfl) v xT w
theorem er_noIsF (v : Value) (xT : TypeId) (w : World) : (Instr.typeAssert (.iface 96 v) xT 186 true).run Tryz.prog w = .ok (.tuple #[.nilIface, .bool false]) w := run_typeAssert_lacksB Tryz.underlying186 (by kernel_rfl) (by kernel_rfl) v xT w
theorem er_noUnwrap (v : Value) (xT : TypeId) (w : World) : (Instr.typeAssert (.iface 95 v) xT 189 true).run Tryz.prog w = .ok (.tuple #[.nilIface, .bool false]) w := run_typeAssert_lacksB Tryz.underlying189 (by kernel_rfl) (by kernel_rfl) v xT w
theorem er_noUnwraps (v : Value) (xT : TypeId) (w : World) : (Instr.typeAssert (.iface 95 v) xT 191 true).run Tryz.prog w = .ok (.tuple #[.nilIface, .bool false]) w := run_typeAssert_lacksB Tryz.underlying191 (by kernel_rfl) (by kernel_rfl) v xT w
theorem er_noAs (v : Value) (xT : TypeId) (w : World) : (Instr.typeAssert (.iface 95 v) xT 196 true).run Tryz.prog w = .ok (.tuple #[.nilIface, .bool false]) w := run_typeAssert_lacksB Tryz.underlying196 (by kernel_rfl) (by kernel_rfl) v xT w
theorem er_hasUnwrapF (v : Value) (xT : TypeId) (w : World) : (Instr.typeAssert (.iface 96 v) xT 189 true).run Tryz.prog w = .ok (.tuple #[.iface 96 v, .bool true]) w := run_typeAssert_hasB Tryz.underlying189 (by kernel_rfl) v xT w
theorem er_mUnwrap (v : Value) (w : World) : (Go.method 350 96 v "Unwrap").run Tryz.prog w = .ok (149, v) w := by kernel_rfl
theorem er_comp : (Tryz.prog.info? 95).map (·.comparable) = some true := by kernel_rfl
theorem er_eq (a b : Int) (w : World) : (binOp .eql 39 (errV a) (errV b)).run Tryz.prog w = .ok (.bool (a == b)) w := Lib.run_eql_iface_int w a b Tryz.underlying39 er_comp Tryz.underlying95
theorem er_ne (p : Value) (b : Int) (w : World) : (binOp .eql 39 (.iface 96 p) (errV b)).run Tryz.prog w = .ok (.bool false) w := run_eql_iface_types (P := Tryz.prog) 96 95 p (.int .i64 b) Tryz.underlying39 (by decide) w

/-- The errors that a chain is. -/
theorem chain_cases {w : World} {v : Value} {ps : List (ByteArray × Int)} {c : Int} (h : Chain w v ps c) : v = errV c ∧ ps = [] ∨ ∃ b o u p t, v = fltV b o ∧ ps = p :: t ∧ w.cell? ⟨b, o, none⟩ = some (.string p.1) ∧ w.cell? ⟨b, o + 1, none⟩ = some (.int .i64 p.2) ∧ w.cell? ⟨b, o + 2, none⟩ = some u ∧ Chain w u t c := by
  cases ps with
  | nil => exact .inl ⟨h, rfl⟩
  | cons p t => obtain ⟨b, o, u, h1, h2, h3, h4, h5⟩ := h; exact .inr ⟨b, o, u, p, t, h1, rfl, h2, h3, h4, h5⟩
theorem chain_not_nil {w : World} {v : Value} {ps : List (ByteArray × Int)} {c : Int} (h : Chain w v ps c) : ∃ t x, v = .iface t x := by
  rcases chain_cases h with ⟨h, _⟩ | ⟨b, o, u, p, t, h, _⟩ <;> exact ⟨_, _, h⟩

theorem chain_len {w : World} : ∀ {ps qs : List (ByteArray × Int)} {v : Value} {c d : Int}, Chain w v ps c → Chain w v qs d → ps.length = qs.length
  | [], [], _, _, _, _, _ => rfl
  | [], _ :: _, _, _, _, h, g => by obtain ⟨b, o, u, h1, _⟩ := g; unfold Chain at h; rw [h] at h1; cases h1
  | _ :: _, [], _, _, _, g, h => by obtain ⟨b, o, u, h1, _⟩ := g; unfold Chain at h; rw [h] at h1; cases h1
  | _ :: _, _ :: _, _, _, _, h, g => by
    obtain ⟨b, o, u, h1, _, _, h2, h3⟩ := h
    obtain ⟨b', o', u', g1, _, _, g2, g3⟩ := g
    rw [h1] at g1
    cases g1
    rw [h2] at g2
    cases g2
    simp [chain_len h3 g3]
noncomputable def chainLen (w : World) (v : Value) : Nat := by
  classical exact if h : ∃ n c, ∃ ps, Chain w v ps c ∧ ps.length = n then h.choose else 0
theorem chainLen_eq {w : World} {ps : List (ByteArray × Int)} {v : Value} {c : Int} (h : Chain w v ps c) : chainLen w v = ps.length := by
  have hex : ∃ n c, ∃ ps, Chain w v ps c ∧ ps.length = n := ⟨_, c, ps, h, rfl⟩
  unfold chainLen
  rw [dif_pos hex]
  obtain ⟨d, qs, g, hl⟩ := hex.choose_spec
  rw [← hl]
  exact chain_len g h

theorem unwrap_any (b o : Nat) (u : Value) (w : World) (h : w.cell? ⟨b, o + 2, none⟩ = some u) :
    Calls Tryz.prog 149 #[.pointer (some ⟨b, o, none⟩)] w fun e w' => e = .returned u ∧ w' = w := by
  go_enter Tryz.func149, Tryz.ntmps149
  go_wp2
  go_ret
  exact ⟨rfl, rfl⟩

set_option maxHeartbeats 1000000 in
/-- errors.is over a chain, looking for its Errno: true. -/
theorem is_loop (v : Value) (ps : List (ByteArray × Int)) (c : Int) (w : World) (h : Chain w v ps c) :
    Calls Tryz.prog 72 #[v, errV c, .bool true] w fun e w' => e = .returned (.bool true) ∧ w' = w := by
  have nE := er_noIs
  have nF := er_noIsF
  have uF := er_hasUnwrapF
  have mU := er_mUnwrap
  have heq := er_eq
  have hne := er_ne
  have hCL : ∀ (ps : List (ByteArray × Int)) (v : Value) (c : Int), Chain w v ps c → chainLen w v = ps.length := fun _ _ _ h => chainLen_eq h
  have HCL := Lib.hid hCL; clear hCL
  have HU : ∀ (b o : Nat) (u : Value), w.cell? ⟨b, o + 2, none⟩ = some u → Calls Tryz.prog 149 #[.pointer (some ⟨b, o, none⟩)] w fun e w' => e = .returned u ∧ w' = w := fun b o u h => unwrap_any b o u w h
  have HU' := Lib.hid HU; clear HU
  go_enter Tryz.func72, Tryz.ntmps72
  go_wp2
  go_loop [0] (fun i => ∃ qs, Chain w i qs c) (fun i => chainLen w i)
  case atStart => exact ⟨ps, h⟩
  case round =>
    obtain ⟨qs, hq⟩ := hrel
    rcases chain_cases hq with ⟨rfl, rfl⟩ | ⟨b, o, u, p, t, rfl, rfl, h1, h2, h3, h4⟩
    · clear hq h
      go_wp2
      go_ret
      exact ⟨rfl, rfl⟩
    · obtain ⟨tu, xu, rfl⟩ := chain_not_nil h4
      have e1 := HCL.out _ _ _ hq
      have e2 := HCL.out _ _ _ h4
      have E1 := Lib.hid e1; clear e1
      have E2 := Lib.hid e2; clear e2
      have H4 := Lib.hid h4; clear h4
      have h3' := h3
      clear hq h
      go_wp2_with (go_at_call 149; refine (HU'.out b o _ h3).mono ?_; rintro e w' ⟨rfl, rfl⟩)
      go_round
      case rel => exact ⟨t, H4.out⟩
      case measure => rw [E1.out, E2.out]; simp

set_option maxHeartbeats 1000000 in
/-- errors.Is over a chain, its own Errno: true. -/
theorem errorsIs (v : Value) (ps : List (ByteArray × Int)) (c : Int) (w : World) (h : Chain w v ps c) :
    Calls Tryz.prog 43 #[v, errV c] w fun e w' => e = .returned (.bool true) ∧ w' = w := by
  have h10 := @run_callFunc_extern Tryz.prog 71 _ ReflectliteType.typeOf Tryz.func71 (by kernel_rfl) (by kernel_rfl) (by kernel_rfl) (by kernel_rfl)
  have h32 := @run_callFunc_extern Tryz.prog 155 _ erComp Tryz.func155 (by kernel_rfl) (by kernel_rfl) (by kernel_rfl) (by kernel_rfl)
  have tT := er_typeOf
  have cT := er_comparable
  have mR := er_mComparable
  have HL := Lib.hid (is_loop v ps c w h)
  obtain ⟨tv, xv, rfl⟩ := chain_not_nil h
  clear h
  go_enter Tryz.func43, Tryz.ntmps43
  go_wp2_with (go_at_call 72; refine (HL.out).mono ?_; rintro e w' ⟨rfl, rfl⟩)
  go_ret
  exact ⟨rfl, rfl⟩
end Go.Proofs.YtgkeolddpielpaaGreatDoor

/- Faults, Wrongs: told exactly (from XCost, over XBas). -/
namespace Go.Proofs.YtgkeolddpielpaaGreatDoor
open Go.RowKit

/-- A slice of roundsmanref6.Part reads as ps. -/
def RdW (w : World) (A : Option Addr) (n : Nat) (l : List (ByteArray × Int)) : Prop :=
  l.length = n ∧ ∀ i x, l[i]? = some x → ∃ b o, A = some ⟨b, o, none⟩ ∧ w.cell? ⟨b, o + i * 2, none⟩ = some (.string x.1) ∧ w.cell? ⟨b, o + i * 2 + 1, none⟩ = some (.int .i64 x.2)
theorem RdW.below {w w' : World} {A : Option Addr} {n : Nat} {l : List (ByteArray × Int)} (h : RdW w A n l) (hb : Below w.heap.size w w') : RdW w' A n l :=
  ⟨h.1, fun i x hx => by obtain ⟨b, o, e, hc, hd⟩ := h.2 i x hx; exact ⟨b, o, e, Below.cellOf hb (Nat.le_refl _) hc, Below.cellOf hb (Nat.le_refl _) hd⟩⟩

def Wrg (w : World) (v : Value) (ps : List (ByteArray × Int)) (c : Int) : Prop := ∃ A n m, v = .agg #[.slice A n m, .int .i64 c] ∧ RdW w A n ps ∧ n ≤ 1000000
theorem Wrg.below {w w' : World} {v : Value} {ps : List (ByteArray × Int)} {c : Int} (h : Wrg w v ps c) (hb : Below w.heap.size w w') : Wrg w' v ps c := by
  obtain ⟨A, n, m, h1, h2, h3⟩ := h
  exact ⟨A, n, m, h1, h2.below hb, h3⟩
theorem refAt_any (s : ByteArray) (k c : Int) (w : World) : Calls Tryz.prog 41 #[.string s, .int .i64 k, .int .i64 c] w fun e w' => ∃ v, e = .returned v ∧ Wrg w' v [(s, k)] c ∧ Below w.heap.size w w' := by
  go_enter Tryz.func41, Tryz.ntmps41
  go_wp2
  refine bodyPost_ret (v := .agg #[.slice (some ⟨w.heap.size + 1, 0, none⟩) 1 1, .int .i64 c]) (by simp [results, Tryz.results41, go_sem]) rfl ?_
  refine ⟨_, rfl, ⟨_, 1, 1, rfl, ⟨rfl, fun i x hx => ?_⟩, by omega⟩, (by repeat (first | exact Below.refl _ _ | assumption | apply Below.drew | apply below_drewN | apply Bel.alloc | (refine Bel.setCell_ ?_ ?_; rotate_left; omega) | (refine Bel.step ?_ (by assumption))))⟩
  match i, hx with
  | 0, hx => cases hx; exact ⟨_, _, rfl, by simp, by simp⟩
  | i + 1, hx => simp at hx
end Go.Proofs.YtgkeolddpielpaaGreatDoor

/- Graphs: how one lies in memory, its arcs and tables apart from the rest; plain. -/
namespace Go.Proofs.YtgkeolddpielpaaGreatDoor
open Go.RowKit

/-- The cells of a table in w, its costs in v. -/
def TabAt2 (w v : World) (b o : Nat) (t : TabD) : Prop := w.cell? ⟨b, o, none⟩ = some (.int .i64 t.ins) ∧ w.cell? ⟨b, o + 1, none⟩ = some (.int .i64 t.outs) ∧ ∃ (A : Option Addr) (n c : Nat), w.cell? ⟨b, o + 2, none⟩ = some (.slice A n c) ∧ RdI v A n t.costs ∧ n ≤ c ∧ c ≤ 9223372036854775807
def RdY2 (w v : World) (A : Option Addr) (n : Nat) (l : List TabD) : Prop := l.length = n ∧ ∀ i t, l[i]? = some t → ∃ b o, A = some ⟨b, o, none⟩ ∧ TabAt2 w v b (o + i * 3) t
theorem RdY2.rdY {w v : World} {A : Option Addr} {n : Nat} {l : List TabD} (h : RdY2 w v A n l) (hl : Le v w) : RdY w A n l :=
  ⟨h.1, fun i t ht => by
    obtain ⟨b, o, e, h1, h2, A', n', c', h3, h4, h5⟩ := h.2 i t ht
    exact ⟨b, o, e, h1, h2, A', n', c', h3, h4.le hl, h5⟩⟩
theorem RdY2.le {w w' v v' : World} {A : Option Addr} {n : Nat} {l : List TabD} (h : RdY2 w v A n l) (hw : ∀ b o x, blkOf A = some b → w.cell? ⟨b, o, none⟩ = some x → w'.cell? ⟨b, o, none⟩ = some x) (hl : Le v v') : RdY2 w' v' A n l :=
  ⟨h.1, fun i t ht => by
    obtain ⟨b, o, e, h1, h2, A', n', c', h3, h4, h5⟩ := h.2 i t ht
    have hb : blkOf A = some b := by rw [e]; rfl
    exact ⟨b, o, e, hw _ _ _ hb h1, hw _ _ _ hb h2, A', n', c', hw _ _ _ hb h3, h4.le hl, h5⟩⟩
/-- The block of a slice may be written. -/
def Warm (W : World) (A : Option Addr) : Prop := ∀ b, blkOf A = some b → b < W.heap.size ∧ ∀ o, W.frozen? ⟨b, o, none⟩ = false
theorem Warm.keep {W W' : World} {A : Option Addr} (h : Warm W A) (hz : W.heap.size ≤ W'.heap.size) (hk : ∀ b, blkOf A = some b → W'.heap[b]? = W.heap[b]?) : Warm W' A := fun b hb =>
  ⟨Nat.lt_of_lt_of_le (h b hb).1 hz, fun o => by rw [World.frozen?_of_block (hk b hb)]; exact (h b hb).2 o⟩
theorem Own.warm {w : World} {B s n c : Nat} {e : TypeId} {A : Option Addr} {xs : List Value} (h : Own w B e s A n c xs) : Warm w A := fun b hb => by
  refine ⟨(h.lt b hb).2, fun o => ?_⟩
  rcases h.2 with ⟨h', _⟩ | ⟨g, cap, cur, h1, h2, h3, _⟩
  · cases h'; cases hb
  · cases h1
    cases hb
    exact Blk.frozen (t := e) (cs := cur) h3 o
structure NetR (W : World) (G : Nat → Prop) (A B C : Option Addr) (n m k : Nat) (N : NetD) : Prop where
  vs : Rd3 (msk W G) A n N.vs
  ar : Rd3 W B m N.ar
  ts : RdY2 W (msk W G) C k N.ts
  wa : Warm W B
  wt : Warm W C
  ga : ∀ b, blkOf B = some b → ¬ G b
  gt : ∀ b, blkOf C = some b → ¬ G b
  ac : ∀ b, blkOf B = some b → blkOf C ≠ some b
theorem cell_keep {W W' : World} {b o : Nat} {x : Value} (hk : W'.heap[b]? = W.heap[b]?) (h : W.cell? ⟨b, o, none⟩ = some x) : W'.cell? ⟨b, o, none⟩ = some x := by
  rw [World.cell?_of_block (a := ⟨b, o, none⟩) hk]; exact h
theorem Rd3.keep {W W' : World} {A : Option Addr} {n : Nat} {l : List Tri} (h : Rd3 W A n l) (hk : ∀ b, blkOf A = some b → W'.heap[b]? = W.heap[b]?) : Rd3 W' A n l :=
  ⟨h.1, fun i x hx => by
    obtain ⟨b, o, e, h1, h2, h3⟩ := h.2 i x hx
    have hb := hk b (by rw [e]; rfl)
    exact ⟨b, o, e, cell_keep hb h1, cell_keep hb h2, cell_keep hb h3⟩⟩
section
variable {W W' : World} {G : Nat → Prop} {A B C : Option Addr} {n m k : Nat} {N : NetD}
theorem NetR.rd (h : NetR W G A B C n m k N) : RdNet W A B C n m k N := ⟨h.vs.le (msk_le W G), h.ar, h.ts.rdY (msk_le W G)⟩
theorem NetR.keep (h : NetR W G A B C n m k N) (hz : W.heap.size ≤ W'.heap.size) (hG : Kept G W W') (hB : ∀ b, blkOf B = some b → W'.heap[b]? = W.heap[b]?) (hC : ∀ b, blkOf C = some b → W'.heap[b]? = W.heap[b]?) : NetR W' G A B C n m k N where
  vs := h.vs.le hG.msk
  ar := h.ar.keep hB
  ts := h.ts.le (fun b _ _ hb hc => cell_keep (hC b hb) hc) hG.msk
  wa := h.wa.keep hz hB
  wt := h.wt.keep hz hC
  ga := h.ga
  gt := h.gt
  ac := h.ac
theorem NetR.below (h : NetR W G A B C n m k N) (hb : Below W.heap.size W W') : NetR W' G A B C n m k N :=
  h.keep hb.size (Kept.below hb) (fun b e => hb.block b (h.wa b e).1) (fun b e => hb.block b (h.wt b e).1)
theorem NetR.mono {G' : Nat → Prop} (h : NetR W G A B C n m k N) (hs : ∀ b, G b → G' b) (ha : ∀ b, blkOf B = some b → ¬ G' b) (ht : ∀ b, blkOf C = some b → ¬ G' b) : NetR W G' A B C n m k N where
  vs := h.vs.le (msk_mono hs)
  ar := h.ar
  ts := h.ts.le (fun _ _ _ _ hc => hc) (msk_mono hs)
  wa := h.wa
  wt := h.wt
  ga := ha
  gt := ht
  ac := h.ac
end
/-- A graph: its block is g; what may be written of it is its arcs, its tables. -/
structure GrR (W : World) (F G : Nat → Prop) (g : Nat) (A B C I O P : Option Addr) (n m k c d e ci co cp : Nat) (N : NetD) : Prop where
  net : NetR W G A B C n m k N
  blk : Blk W g 137 #[.slice A n c, .slice B m d, .slice C k e, .slice I n ci, .slice O n co, .slice P m cp]
  gg : G g
  ins : RdT (msk W G) I n (idxs (·.2.1) N.ar n)
  outs : RdT (msk W G) O n (idxs (·.1) N.ar n)
  plc : RdP (msk W G) P m (plcs N.ar)
  sub : ∀ b, (G b ∨ blkOf B = some b ∨ blkOf C = some b) → F b
  lt : ∀ b, F b → b < W.heap.size
  ok : NetOk N
  c0 : n ≤ c ∧ c ≤ 9223372036854775807
  c1 : m ≤ d ∧ d ≤ 9223372036854775807
  c2 : k ≤ e ∧ e ≤ 9223372036854775807
def GrO (W : World) (F : Nat → Prop) (g : Nat) (N : NetD) : Prop := ∃ (G : Nat → Prop) (A B C I O P : Option Addr) (n m k c d e ci co cp : Nat), GrR W F G g A B C I O P n m k c d e ci co cp N
/-- A graph that is read. -/
structure GrV (W : World) (g : Nat) (A B C I O P : Option Addr) (n m k c d e ci co cp : Nat) (N : NetD) : Prop where
  net : RdNet W A B C n m k N
  n0 : W.cell? ⟨g, 0, none⟩ = some (.slice A n c)
  n1 : W.cell? ⟨g, 1, none⟩ = some (.slice B m d)
  n2 : W.cell? ⟨g, 2, none⟩ = some (.slice C k e)
  n3 : W.cell? ⟨g, 3, none⟩ = some (.slice I n ci)
  n4 : W.cell? ⟨g, 4, none⟩ = some (.slice O n co)
  n5 : W.cell? ⟨g, 5, none⟩ = some (.slice P m cp)
  ins : RdT W I n (idxs (·.2.1) N.ar n)
  outs : RdT W O n (idxs (·.1) N.ar n)
  plc : RdP W P m (plcs N.ar)
  ok : NetOk N
  c0 : n ≤ c ∧ c ≤ 9223372036854775807
  c1 : m ≤ d ∧ d ≤ 9223372036854775807
  c2 : k ≤ e ∧ e ≤ 9223372036854775807
def RdGr (W : World) (g : Nat) (N : NetD) : Prop := ∃ (A B C I O P : Option Addr) (n m k c d e ci co cp : Nat), GrV W g A B C I O P n m k c d e ci co cp N
theorem RdGr.le {W W' : World} {g : Nat} {N : NetD} (h : RdGr W g N) (hl : Le W W') : RdGr W' g N := by
  obtain ⟨A, B, C, I, O, P, n, m, k, c, d, e, ci, co, cp, h⟩ := h
  exact ⟨A, B, C, I, O, P, n, m, k, c, d, e, ci, co, cp, h.net.le hl, hl _ _ h.n0, hl _ _ h.n1, hl _ _ h.n2, hl _ _ h.n3, hl _ _ h.n4, hl _ _ h.n5, h.ins.le hl, h.outs.le hl, h.plc.le hl, h.ok, h.c0, h.c1, h.c2⟩
theorem RdGr.below {W W' : World} {g : Nat} {N : NetD} (h : RdGr W g N) (hb : Below W.heap.size W W') : RdGr W' g N := h.le (Le.below hb)
theorem Blk.six {w : World} {g : Nat} {t : TypeId} {a b c d e f : Value} (h : Blk w g t #[a, b, c, d, e, f]) :
    w.cell? ⟨g, 0, none⟩ = some a ∧ w.cell? ⟨g, 1, none⟩ = some b ∧ w.cell? ⟨g, 2, none⟩ = some c ∧ w.cell? ⟨g, 3, none⟩ = some d ∧ w.cell? ⟨g, 4, none⟩ = some e ∧ w.cell? ⟨g, 5, none⟩ = some f :=
  ⟨by rw [h.cell]; rfl, by rw [h.cell]; rfl, by rw [h.cell]; rfl, by rw [h.cell]; rfl, by rw [h.cell]; rfl, by rw [h.cell]; rfl⟩
theorem GrO.rd {W : World} {F : Nat → Prop} {g : Nat} {N : NetD} (h : GrO W F g N) : RdGr W g N := by
  obtain ⟨G, A, B, C, I, O, P, n, m, k, c, d, e, ci, co, cp, h⟩ := h
  obtain ⟨h0, h1, h2, h3, h4, h5⟩ := h.blk.six
  exact ⟨A, B, C, I, O, P, n, m, k, c, d, e, ci, co, cp, h.net.rd, h0, h1, h2, h3, h4, h5, h.ins.le (msk_le W G), h.outs.le (msk_le W G), h.plc.le (msk_le W G), h.ok, h.c0, h.c1, h.c2⟩
theorem GrO.keep {W W' : World} {F : Nat → Prop} {g : Nat} {N : NetD} (h : GrO W F g N) (hz : W.heap.size ≤ W'.heap.size) (hF : Kept F W W') : GrO W' F g N := by
  obtain ⟨G, A, B, C, I, O, P, n, m, k, c, d, e, ci, co, cp, h⟩ := h
  have hG : Kept G W W' := hF.mono (fun b hb => h.sub b (.inl hb))
  refine ⟨G, A, B, C, I, O, P, n, m, k, c, d, e, ci, co, cp, ?_, (hF g (h.sub g (.inl h.gg)) h.blk.lt).trans h.blk, h.gg, h.ins.le hG.msk, h.outs.le hG.msk, h.plc.le hG.msk, h.sub, fun b hb => Nat.lt_of_lt_of_le (h.lt b hb) hz, h.ok, h.c0, h.c1, h.c2⟩
  exact h.net.keep hz hG (fun b hb => hF b (h.sub b (.inr (.inl hb))) (h.net.wa b hb).1) (fun b hb => hF b (h.sub b (.inr (.inr hb))) (h.net.wt b hb).1)
theorem GrO.below {W W' : World} {F : Nat → Prop} {g : Nat} {N : NetD} (h : GrO W F g N) (hb : Below W.heap.size W W') : GrO W' F g N := h.keep hb.size (Kept.below hb)
theorem GrO.lt {W : World} {F : Nat → Prop} {g b : Nat} {N : NetD} (h : GrO W F g N) (hb : F b) : b < W.heap.size := by
  obtain ⟨G, A, B, C, I, O, P, n, m, k, c, d, e, ci, co, cp, h⟩ := h
  exact h.lt b hb
theorem GrO.ok {W : World} {F : Nat → Prop} {g : Nat} {N : NetD} (h : GrO W F g N) : NetOk N := by
  obtain ⟨G, A, B, C, I, O, P, n, m, k, c, d, e, ci, co, cp, h⟩ := h
  exact h.ok
end Go.Proofs.YtgkeolddpielpaaGreatDoor
