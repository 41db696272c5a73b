/- Parts of the proof: NeD, RiP, QRi, NeK. -/
import Derived.Test.YtpffhoefmcpniaaGreatDoorH1
import Derived.Test.YtpffhoefmcpniaaGreatDoorH2
import Derived.Test.YtpffhoefmcpniaaGreatDoorH12
import Derived.Test.YtpffhoefmcpniaaGreatDoorH13
import Derived.Test.YtpffhoefmcpniaaGreatDoorH15
import Derived.Test.YtpffhoefmcpniaaGreatDoorH36
import Derived.Test.YtpffhoefmcpniaaGreatDoorH38
/- part.Check, bounds given. -/
namespace Go.Proofs.YtpffhoefmcpniaaGreatDoor
open Go.RowKit

attribute [local go_sem ↓] Go.wp_at_zero Go.wp_at_succ

set_option maxHeartbeats 1000000 in
theorem indexFunc_no (A : Option Addr) (n c g : Nat) (lb : Array Value) (w : World) (eg : ∀ args w, (callFunc g args).run Tryz.prog w = .ok (.enter g args) w) (hn : n ≤ 4000000000000000000)
    (hc : ∀ i, i < n → ∃ b o v, A = some ⟨b, o, none⟩ ∧ w.cell? ⟨b, o + i, none⟩ = some v ∧ ∀ W, Below w.heap.size w W → Calls Tryz.prog g (#[v] ++ lb) W fun e w' => e = .returned (.bool false) ∧ Below W.heap.size W w') :
    Calls Tryz.prog 70 #[.slice A n c, .func (.func g) #[] lb] w fun e w' => e = .returned (.int .i64 (-1)) ∧ Below w.heap.size w w' := by
  have HC := Lib.hid hc
  clear hc
  go_enter Tryz.func70, Tryz.ntmps70
  go_wp2_with fail
  go_loopw [8] (fun i W => Below w.heap.size w W ∧ ∃ k : Nat, k ≤ n ∧ i = .int .i64 k) (fun i _ => n - (intOf i).toNat)
  case atStart => exact ⟨Below.refl _ _, 0, Nat.zero_le _, rfl⟩
  case round =>
    obtain ⟨hbl, k, hk, rfl⟩ := hrel
    by_cases hlt : k < n
    · obtain ⟨b, o, v, rfl, hv, hcall⟩ := HC.out k hlt
      have hv2 := Below.cellOf hbl (Nat.le_refl _) hv
      have HK := Lib.hid hcall
      clear hcall hv
      go_wp2_with fail
      with_reducible refine (HK.out _ hbl).mono ?_
      rintro e w2 ⟨rfl, hb2⟩
      go_wp2_with fail
      go_roundw
      case rel => exact ⟨bELt, k + 1, by omega, by go_num⟩
      case measure => simp [intOf]; omega
    · obtain rfl : k = n := by omega
      go_wp2_with fail
      go_ret
      exact ⟨rfl, bELt⟩
theorem check1_no (gb gx L cb i : Nat) (AB : Option Addr) (bs : List Int) (x y : Int) (w : World) (h1 : w.cell? ⟨gb, 0, none⟩ = some (.slice AB L cb)) (h2 : w.cell? ⟨gx, 0, none⟩ = some (.int .i64 (i : Int))) (hB : RdI w AB L bs) (hy : bs[i]? = some y) (hx : x ≤ y) :
    Calls Tryz.prog 44 #[.int .i64 x, .pointer (some ⟨gb, 0, none⟩), .pointer (some ⟨gx, 0, none⟩)] w fun e w' => e = .returned (.bool false) ∧ Below w.heap.size w w' := by
  have hi : i < L := by rw [← hB.1]; exact (List.getElem?_eq_some_iff.1 hy).1
  obtain ⟨b, o, y', rfl, hy', hc⟩ := hB.at_ hi
  rw [hy] at hy'
  obtain rfl : y = y' := by injection hy'
  have i1 : (0 : Int) ≤ (i : Int) := by omega
  have i2 : (i : Int) < (L : Int) := by omega
  have i3 : ¬ x > y := by omega
  clear hB hy hy'
  go_enter Tryz.func44, Tryz.ntmps44
  go_wp2_with fail
  go_ret
  exact ⟨rfl, bELt⟩
theorem contains_no (A : Option Addr) (n c : Nat) (cnt : List Int) (gb gx L cb i : Nat) (AB : Option Addr) (bs : List Int) (y : Int) (w : World) (h : RdI w A n cnt) (hn : n ≤ 4000000000000000000) (h1 : w.cell? ⟨gb, 0, none⟩ = some (.slice AB L cb)) (h2 : w.cell? ⟨gx, 0, none⟩ = some (.int .i64 (i : Int))) (hB : RdI w AB L bs) (hy : bs[i]? = some y) (hle : ∀ x ∈ cnt, x ≤ y) :
    Calls Tryz.prog 43 #[.slice A n c, .func (.func 44) #[] #[.pointer (some ⟨gb, 0, none⟩), .pointer (some ⟨gx, 0, none⟩)]] w fun e w' => e = .returned (.bool false) ∧ Below w.heap.size w w' := by
  have HIX := Lib.hid (indexFunc_no A n c 44 #[.pointer (some ⟨gb, 0, none⟩), .pointer (some ⟨gx, 0, none⟩)] w (enters_of Tryz.func44 (by kernel_rfl) rfl) hn (fun j hj => by
    obtain ⟨b, o, x, e, hx, hc⟩ := h.at_ hj
    exact ⟨b, o, _, e, hc, fun W hW => check1_no gb gx L cb i AB bs x y W (Below.cellOf hW (Nat.le_refl _) h1) (Below.cellOf hW (Nat.le_refl _) h2) (hB.below hW) hy (hle x (List.mem_of_getElem? hx))⟩))
  clear h h1 h2 hB hle
  go_enter Tryz.func43, Tryz.ntmps43
  go_wp2_with fail
  with_reducible refine HIX.out.mono ?_
  rintro e w2 ⟨rfl, hb2⟩
  go_wp2_with fail
  go_ret
  exact ⟨rfl, bELt⟩
set_option maxHeartbeats 4000000 in
theorem partCheckB_ok (Q AB : Option Addr) (n L cq cb : Nat) (ls : List (List Int)) (bs : List Int) (w : World) (h : RdT w Q L ls) (hP : PartOk n ls) (hn : n ≤ 4096) (hbs : RdI w AB L bs) (hcn : ∀ (i : Nat) l y, ls[i]? = some l → bs[i]? = some y → ∀ x ∈ cntI l (mostN l).toNat, x ≤ y) :
    Calls Tryz.prog 18 #[.int .i64 n, .agg #[.slice Q L cq], .slice AB L cb] w fun e w' => e = .returned .nilIface ∧ Below w.heap.size w w' := by
  have HT := Lib.hid h
  have HP := Lib.hid hP
  have l1 : 1 ≤ L := by rw [← h.1]; exact hP.l1
  have l6 : L ≤ 6 := by rw [← h.1]; exact hP.l6
  have HLEN := Lib.hid h.1
  have HBS := Lib.hid hbs
  have HCN := Lib.hid hcn
  have j6 : (L : Int) > 0 := by omega
  clear h hP hbs hcn
  have j1 : ((L : Int) == 0) = false := by simp; omega
  have j2 : ¬ (n : Int) < 0 := by omega
  have j3 : ¬ (n : Int) > 4096 := by omega
  have j4 : ¬ (L : Int) > 6 := by omega
  have j5 : ¬ L = 0 := by omega
  go_enter Tryz.func18, Tryz.ntmps18
  go_wp2_with fail
  (refine wp_named ?_; intro w1 hw1)
  have hb1 : Below w.heap.size w w1 := by rw [hw1]; exact bELt
  have hQ : Blk w1 w.heap.size 34 #[.slice Q L cq] := by rw [hw1]; exact bLNt
  have hBd : Blk w1 (w.heap.size + 1) 27 #[.slice AB L cb] := by rw [hw1]; exact bLNt
  clear hw1
  go_loopw [45] (fun q W => Below w.heap.size w W ∧ Blk W w.heap.size 34 #[.slice Q L cq] ∧ Blk W (w.heap.size + 1) 27 #[.slice AB L cb] ∧ ∃ i : Nat, i ≤ L ∧ q = .int .i64 i) (fun q _ => L - (intOf q).toNat)
  case atStart => exact ⟨hb1, hQ, hBd, 0, Nat.zero_le _, rfl⟩
  case round =>
    clear hb1 hQ hBd
    obtain ⟨hbl, hQ, hBd, i, hi, rfl⟩ := hrel
    by_cases hlt : i < L
    · obtain ⟨b, o, A, m, c, l, rfl, hl, hc, hr, q1, q2⟩ := HT.out.at_ hlt
      have hlo := HP.out.lvl l (List.mem_of_getElem? hl)
      obtain rfl : m = n := by rw [← hr.1]; exact hlo.len
      have hcc := Below.cellOf hbl (Nat.le_refl _) hc
      have HTL := Lib.hid (show ∀ V, Below w.heap.size w V → Calls Tryz.prog 41 #[.slice A m c] V fun e w' => ∃ g, e = .returned (.tuple #[.slice (some ⟨g, 0, none⟩) (mostN l).toNat m, .bool true]) ∧ RdI w' (some ⟨g, 0, none⟩) (mostN l).toNat (cntI l (mostN l).toNat) ∧ Below V.heap.size V w' from fun V hV => tally_ok A m c l V (hr.below hV) hlo (by omega))
      have HR := Lib.hid hr
      have HLO := Lib.hid hlo
      have HLL := Lib.hid hl
      obtain ⟨y, hy⟩ : ∃ y, bs[i]? = some y := ⟨_, List.getElem?_eq_getElem (by rw [HBS.out.1]; exact hlt)⟩
      have HY := Lib.hid hy
      have HLE := Lib.hid (HCN.out i l y hl hy)
      have HCF := Lib.hid (show ∀ (V : World) (g k gx : Nat), Below w.heap.size w V → RdI V (some ⟨g, 0, none⟩) (mostN l).toNat (cntI l (mostN l).toNat) → V.cell? ⟨w.heap.size + 1, 0, none⟩ = some (.slice AB L cb) → V.cell? ⟨gx, 0, none⟩ = some (.int .i64 (i : Int)) → Calls Tryz.prog 43 #[.slice (some ⟨g, 0, none⟩) (mostN l).toNat k, .func (.func 44) #[] #[.pointer (some ⟨w.heap.size + 1, 0, none⟩), .pointer (some ⟨gx, 0, none⟩)]] V fun e w' => e = .returned (.bool false) ∧ Below V.heap.size V w' from
        fun V g k gx hV h1 h2 h3 => contains_no _ _ k _ (w.heap.size + 1) gx L cb i AB bs y V h1 (by have := mostN_le (n := (m : Int)) hlo.hi (by omega); omega) h2 h3 (HBS.out.below hV) HY.out HLE.out)
      clear hy
      have i1 : (0 : Int) ≤ (i : Int) := by omega
      have i2 : (i : Int) < (L : Int) := by omega
      clear hr hlo hl hc q1
      by_cases hi0 : i = 0
      · have e0 : ¬ ((i : Int) > 0) := by omega
        have e00 : ¬ (0 < i) := by omega
        clear hi0
        go_wp2_with fail
        (refine calls_named ?_; intro w2 hw2)
        have hb2 : Below wr.heap.size wr w2 := by rw [hw2]; exact bELt
        have hX : Blk w2 wr.heap.size 3 #[.int .i64 (i : Int)] := by rw [hw2]; exact bLNt
        clear hw2
        have hbl2 := Bel.step hbl hb2
        with_reducible refine (HTL.out w2 hbl2).mono ?_
        rintro e w3 ⟨g, rfl, hct, hb3⟩
        have hbX3 := hX.below hb3 hX.lt
        have hX3 := hbX3.cell 0
        have hQ3 := (hQ.below hb2 hQ.lt).below hb3 (hQ.below hb2 hQ.lt).lt
        have hB3 := (hBd.below hb2 hBd.lt).below hb3 (hBd.below hb2 hBd.lt).lt
        have z1 := hQ3.lt
        have z2 := hB3.lt
        have y1 := hQ3.cell 0
        have y2 := hB3.cell 0
        simp only [List.getElem?_toArray, List.getElem?_cons_zero] at hX3 y1 y2
        have hbl3 := Bel.step hbl2 hb3
        have HC3 := Lib.hid (HCF.out w3 g m wr.heap.size hbl3 hct y2 hX3)
        clear hX hQ hBd hcc hb2 hb3 hct
        go_wp2_with fail
        with_reducible refine HC3.out.mono ?_
        rintro e w5 ⟨rfl, hb5⟩
        have hQ5 := hQ3.below hb5 hQ3.lt
        have hB5 := hB3.below hb5 hB3.lt
        have hbl5 := Bel.step hbl3 hb5
        clear hQ3 hB3 hb5 hbX3 hX3 y1 y2
        go_wp2_with fail
        go_roundw
        case rel => exact ⟨hbl5, hQ5, hB5, i + 1, by omega, by go_num⟩
        case measure => simp [intOf]; omega
      · obtain ⟨j, rfl⟩ : ∃ j, i = j + 1 := ⟨i - 1, by omega⟩
        obtain ⟨b', o', A', m', c', l', e, hl', hc', hr', q1', q2'⟩ := HT.out.at_ (show j < L by omega)
        cases e
        have hlo' := HP.out.lvl l' (List.mem_of_getElem? hl')
        obtain rfl : m' = m := by rw [← hr'.1]; exact hlo'.len
        have hne := HP.out.nest j l' l hl' HLL.out
        have HNS := Lib.hid (show ∀ V, Below w.heap.size w V → Calls Tryz.prog 42 #[.slice A' m' c', .slice A m' c] V fun e w' => e = .returned (.bool true) ∧ Below V.heap.size V w' from fun V hV => nested_ok A' A m' c' c l' l V (hr'.below hV) (HR.out.below hV) hlo' HLO.out hne (by omega))
        have hcc' := Below.cellOf hbl (Nat.le_refl _) hc'
        have i3 : ((j : Int) + 1) - 1 = (j : Int) := by omega
        have i4 : (0 : Int) ≤ (j : Int) := by omega
        have i5 : (j : Int) < (L : Int) := by omega
        clear hr' hlo' hl' hc' q1' hne hi0
        go_wp2_with fail
        (refine calls_named ?_; intro w2 hw2)
        have hb2 : Below wr.heap.size wr w2 := by rw [hw2]; exact bELt
        have hX : Blk w2 wr.heap.size 3 #[.int .i64 ((j : Int) + 1)] := by rw [hw2]; exact bLNt
        clear hw2
        have hbl2 := Bel.step hbl hb2
        with_reducible refine (HTL.out w2 hbl2).mono ?_
        rintro e w3 ⟨g, rfl, hct, hb3⟩
        have hbX3 := hX.below hb3 hX.lt
        have hX3 := hbX3.cell 0
        have hQ3 := (hQ.below hb2 hQ.lt).below hb3 (hQ.below hb2 hQ.lt).lt
        have hB3 := (hBd.below hb2 hBd.lt).below hb3 (hBd.below hb2 hBd.lt).lt
        have y1 := hQ3.cell 0
        simp only [List.getElem?_toArray, List.getElem?_cons_zero] at hX3 y1
        have hbl3 := Bel.step hbl2 hb3
        have d1 := Below.cellOf hb3 (Nat.le_refl _) (Below.cellOf hb2 (Nat.le_refl _) hcc)
        have d2 := Below.cellOf hb3 (Nat.le_refl _) (Below.cellOf hb2 (Nat.le_refl _) hcc')
        clear hX hQ hBd hcc hb2 hb3 hcc'
        go_wp2_with fail
        with_reducible refine (HNS.out w3 hbl3).mono ?_
        rintro e w4 ⟨rfl, hb4⟩
        have hX4 := (hbX3.below hb4 hbX3.lt).cell 0
        have hQ4 := hQ3.below hb4 hQ3.lt
        have hB4 := hB3.below hb4 hB3.lt
        have y2 := hB4.cell 0
        simp only [List.getElem?_toArray, List.getElem?_cons_zero] at hX4 y2
        have hbl4 := Bel.step hbl3 hb4
        have HC4 := Lib.hid (HCF.out w4 g m' wr.heap.size hbl4 (hct.below hb4) y2 hX4)
        clear d1 d2 hX3 y1 hbX3 hQ3 hB3 hb4 hct
        go_wp2_with fail
        with_reducible refine HC4.out.mono ?_
        rintro e w5 ⟨rfl, hb5⟩
        have hQ5 := hQ4.below hb5 hQ4.lt
        have hB5 := hB4.below hb5 hB4.lt
        have hbl5 := Bel.step hbl4 hb5
        clear hQ4 hB4 hb5 hX4 y2
        go_wp2_with fail
        go_roundw
        case rel => exact ⟨hbl5, hQ5, hB5, j + 1 + 1, by omega, by go_num⟩
        case measure => simp [intOf]; omega
    · obtain rfl : L = i := by omega
      go_wp2_with fail
      go_ret
      exact ⟨rfl, hbl⟩
end Go.Proofs.YtpffhoefmcpniaaGreatDoor

/- The ring, the two cells: what they are, plain. -/
namespace Go.Proofs.YtpffhoefmcpniaaGreatDoor
open Go.RowKit

attribute [local go_sem ↓] Go.wp_at_zero Go.wp_at_succ

def ringN : NetD := ⟨[(0, 0, 1), (10, 0, 2), (5, 8, 0)], [(0, 1, 10), (1, 2, 20), (2, 0, 30), (1, 0, 40)], [⟨1, 1, [2]⟩, ⟨2, 1, [0, 1152921504606846976]⟩, ⟨1, 2, [1, 5]⟩]⟩
def twoL : List (List Int) := [[0, 0, 1], [0, 0, 0]]
theorem ringN_ok : NetOk ringN := by
  refine ⟨by decide, by decide, by decide, ?_, ?_, ?_, ?_⟩
  · intro t ht
    simp only [ringN, List.mem_cons, List.not_mem_nil, or_false] at ht
    rcases ht with rfl | rfl | rfl <;> exact ⟨by decide, by decide, by decide, by decide, by decide, by decide⟩
  · intro t ht
    simp only [ringN, List.mem_cons, List.not_mem_nil, or_false] at ht
    rcases ht with rfl | rfl | rfl <;> exact ⟨by decide, by decide, by decide, by decide⟩
  · intro t ht
    simp only [ringN, List.mem_cons, List.not_mem_nil, or_false] at ht
    rcases ht with rfl | rfl | rfl | rfl <;> exact ⟨by decide, by decide, by decide, by decide, by decide⟩
  · intro i v t hv ht
    have hi : i < 3 := (List.getElem?_eq_some_iff.1 hv).1
    rcases (by omega : i = 0 ∨ i = 1 ∨ i = 2) with rfl | rfl | rfl
    all_goals
      simp only [ringN, List.getElem?_cons_zero, List.getElem?_cons_succ, Option.some.injEq] at hv
      subst hv
      revert ht
      simp only [ringN, show (1 : Int).toNat = 1 from rfl, show (2 : Int).toNat = 2 from rfl, show (0 : Int).toNat = 0 from rfl, List.getElem?_cons_zero, List.getElem?_cons_succ, Option.some.injEq]
      rintro rfl
      exact ⟨by decide, by decide⟩
theorem get3 {P : Int → Prop} {l : List Int} (a b c : Int) (h : l = [a, b, c]) (h0 : P a) (h1 : P b) (h2 : P c) : ∀ x ∈ l, P x := by
  intro x hx
  subst h
  simp only [List.mem_cons, List.not_mem_nil, or_false] at hx
  rcases hx with rfl | rfl | rfl <;> assumption
theorem twoL_ok : PartOk 3 twoL := by
  refine ⟨by decide, by decide, ?_, ?_⟩
  · intro l hl
    simp only [twoL, List.mem_cons, List.not_mem_nil, or_false] at hl
    rcases hl with rfl | rfl
    · refine ⟨by decide, by decide, by decide, ?_⟩
      intro c hc
      have hm : mostN [0, 0, 1] = 2 := by decide
      rw [hm] at hc
      rcases (by omega : c = 0 ∨ c = 1) with rfl | rfl <;> decide
    · refine ⟨by decide, by decide, by decide, ?_⟩
      intro c hc
      have hm : mostN [0, 0, 0] = 1 := by decide
      rw [hm] at hc
      obtain rfl : c = 0 := by omega
      decide
  · intro i p l hp hl
    have hi : i + 1 < 2 := (List.getElem?_eq_some_iff.1 hl).1
    obtain rfl : i = 0 := by omega
    simp only [twoL, List.getElem?_cons_zero, List.getElem?_cons_succ, Option.some.injEq] at hp hl
    subst hp hl
    intro a b x y u v _ _ hu hv _
    have h0 : ∀ {k : Nat} {z : Int}, ([0, 0, 0] : List Int)[k]? = some z → z = 0 := by
      intro k z hz
      have hk : k < 3 := (List.getElem?_eq_some_iff.1 hz).1
      rcases (by omega : k = 0 ∨ k = 1 ∨ k = 2) with rfl | rfl | rfl <;> simpa using hz.symm
    rw [h0 hu, h0 hv]
    exact Int.le_refl _

theorem RdI.lit {w : World} {g : Nat} {t : TypeId} (l : List Int) (h : Blk w g t (icells l).toArray) : RdI w (some ⟨g, 0, none⟩) l.length l := by
  refine ⟨rfl, fun i x hx => ⟨g, 0, rfl, ?_⟩⟩
  rw [h.cell]
  simp [icells, hx]
theorem two_fact {w : World} {g1 g2 g3 : Nat} {t s : TypeId} (h1 : Blk w g1 t (icells [0, 0, 1]).toArray) (h2 : Blk w g2 t (icells [0, 0, 0]).toArray) (h3 : Blk w g3 s #[.slice (some ⟨g1, 0, none⟩) 3 3, .slice (some ⟨g2, 0, none⟩) 3 3]) : RdT w (some ⟨g3, 0, none⟩) 2 twoL := by
  refine ⟨rfl, fun i l hl => ?_⟩
  have hi : i < 2 := (List.getElem?_eq_some_iff.1 hl).1
  rcases (by omega : i = 0 ∨ i = 1) with rfl | rfl
  · simp only [twoL, List.getElem?_cons_zero, Option.some.injEq] at hl
    subst hl
    exact ⟨g3, 0, some ⟨g1, 0, none⟩, 3, 3, rfl, by rw [h3.cell]; rfl, RdI.lit _ h1, by omega, by omega⟩
  · simp only [twoL, List.getElem?_cons_zero, List.getElem?_cons_succ, Option.some.injEq] at hl
    subst hl
    exact ⟨g3, 0, some ⟨g2, 0, none⟩, 3, 3, rfl, by rw [h3.cell]; rfl, RdI.lit _ h2, by omega, by omega⟩
theorem Rd3.lit {w : World} {g : Nat} {t : TypeId} (l : List Tri) (h : Blk w g t (tcells l).toArray) : Rd3 w (some ⟨g, 0, none⟩) l.length l := by
  refine Rds.rd3 ⟨tcells_len l, fun i x hx => ⟨g, 0, rfl, ?_⟩⟩
  rw [h.cell]
  simpa using hx
theorem ring_fact {w : World} {g1 g2 g3 g4 g5 g6 : Nat} {t a b c : TypeId} (h1 : Blk w g1 t (icells [2]).toArray) (h2 : Blk w g2 t (icells [0, 1152921504606846976]).toArray) (h3 : Blk w g3 t (icells [1, 5]).toArray)
    (h4 : Blk w g4 a (tcells ringN.vs).toArray) (h5 : Blk w g5 b (tcells ringN.ar).toArray)
    (h6 : Blk w g6 c #[.int .i64 1, .int .i64 1, .slice (some ⟨g1, 0, none⟩) 1 1, .int .i64 2, .int .i64 1, .slice (some ⟨g2, 0, none⟩) 2 2, .int .i64 1, .int .i64 2, .slice (some ⟨g3, 0, none⟩) 2 2]) : RdNet w (some ⟨g4, 0, none⟩) (some ⟨g5, 0, none⟩) (some ⟨g6, 0, none⟩) 3 4 3 ringN := by
  refine ⟨Rd3.lit _ h4, Rd3.lit _ h5, rfl, fun i x hx => ?_⟩
  have hi : i < 3 := (List.getElem?_eq_some_iff.1 hx).1
  rcases (by omega : i = 0 ∨ i = 1 ∨ i = 2) with rfl | rfl | rfl
  · simp only [ringN, List.getElem?_cons_zero, Option.some.injEq] at hx
    subst hx
    exact ⟨g6, 0, rfl, by rw [h6.cell]; rfl, by rw [h6.cell]; rfl, some ⟨g1, 0, none⟩, 1, 1, by rw [h6.cell]; rfl, RdI.lit _ h1, by omega⟩
  · simp only [ringN, List.getElem?_cons_zero, List.getElem?_cons_succ, Option.some.injEq] at hx
    subst hx
    exact ⟨g6, 0, rfl, by rw [h6.cell]; rfl, by rw [h6.cell]; rfl, some ⟨g2, 0, none⟩, 2, 2, by rw [h6.cell]; rfl, RdI.lit _ h2, by omega⟩
  · simp only [ringN, List.getElem?_cons_zero, List.getElem?_cons_succ, Option.some.injEq] at hx
    subst hx
    exact ⟨g6, 0, rfl, by rw [h6.cell]; rfl, by rw [h6.cell]; rfl, some ⟨g3, 0, none⟩, 2, 2, by rw [h6.cell]; rfl, RdI.lit _ h3, by omega⟩
theorem bodyPost_named {P : Program} {f : Func} {Q : Ending → World → Prop} {x : Exit} {a : Act} {w : World} (h : ∀ W, W = w → bodyPost P f Q x a W) : bodyPost P f Q x a w := h w rfl
end Go.Proofs.YtpffhoefmcpniaaGreatDoor

/- The ring, the two cells: literal. -/
namespace Go.Proofs.YtpffhoefmcpniaaGreatDoor
open Go.RowKit

attribute [local go_sem ↓] Go.wp_at_zero Go.wp_at_succ

set_option maxHeartbeats 2000000 in
theorem ring_any (w : World) : Calls Tryz.prog 27 #[] w fun e w' => ∃ A B C, e = .returned (.agg #[.slice A 3 3, .slice B 4 4, .slice C 3 3]) ∧ RdNet w' A B C 3 4 3 ringN ∧ Below w.heap.size w w' := by
  go_enter Tryz.func27, Tryz.ntmps27
  go_wp2_with fail
  (refine bodyPost_named ?_; intro W hW)
  have hB : Blk W w.heap.size 26 #[.slice (some ⟨w.heap.size + 1 + 1 + 1 + 1 + 1 + 1 + 1, 0, none⟩) 3 3, .slice (some ⟨w.heap.size + 1 + 1 + 1 + 1 + 1 + 1 + 1 + 1, 0, none⟩) 4 4, .slice (some ⟨w.heap.size + 1 + 1 + 1 + 1 + 1 + 1 + 1 + 1 + 1, 0, none⟩) 3 3] := by
    rw [hW]
    refine Blk.alloc ?_ _
    refine Blk.alloc ?_ _
    refine Blk.alloc ?_ _
    refine Blk.alloc ?_ _
    refine Blk.alloc ?_ _
    refine Blk.alloc ?_ _
    refine Blk.alloc ?_ _
    refine Blk.alloc ?_ _
    refine Blk.alloc ?_ _
    refine Blk.new' _ _ _ ?_
    first | with_unfolding_all rfl | (simp; done)
  have c0 := hB.cell 0
  have c1 := hB.cell 1
  have c2 := hB.cell 2
  simp only [List.getElem?_toArray, List.getElem?_cons_zero, List.getElem?_cons_succ] at c0 c1 c2
  refine bodyPost_ret (v := .agg #[.slice (some ⟨w.heap.size + 1 + 1 + 1 + 1 + 1 + 1 + 1, 0, none⟩) 3 3, .slice (some ⟨w.heap.size + 1 + 1 + 1 + 1 + 1 + 1 + 1 + 1, 0, none⟩) 4 4, .slice (some ⟨w.heap.size + 1 + 1 + 1 + 1 + 1 + 1 + 1 + 1 + 1, 0, none⟩) 3 3]) (by simp [results, Tryz.results27, go_sem, c0, c1, c2]) rfl ?_
  have b1 : Blk W (w.heap.size + 1) 2 #[.int .i64 2] := by
    rw [hW]
    refine Blk.alloc ?_ _
    refine Blk.alloc ?_ _
    refine Blk.alloc ?_ _
    refine Blk.alloc ?_ _
    refine Blk.alloc ?_ _
    refine Blk.alloc ?_ _
    refine Blk.alloc ?_ _
    refine Blk.alloc ?_ _
    refine Blk.new' _ _ _ ?_
    first | with_unfolding_all rfl | (simp; done)
  have b2 : Blk W (w.heap.size + 1 + 1 + 1) 2 #[.int .i64 0, .int .i64 1152921504606846976] := by
    rw [hW]
    refine Blk.alloc ?_ _
    refine Blk.alloc ?_ _
    refine Blk.alloc ?_ _
    refine Blk.alloc ?_ _
    refine Blk.alloc ?_ _
    refine Blk.alloc ?_ _
    refine Blk.new' _ _ _ ?_
    first | with_unfolding_all rfl | (simp; done)
  have b3 : Blk W (w.heap.size + 1 + 1 + 1 + 1 + 1) 2 #[.int .i64 1, .int .i64 5] := by
    rw [hW]
    refine Blk.alloc ?_ _
    refine Blk.alloc ?_ _
    refine Blk.alloc ?_ _
    refine Blk.alloc ?_ _
    refine Blk.new' _ _ _ ?_
    first | with_unfolding_all rfl | (simp; done)
  have b4 : Blk W (w.heap.size + 1 + 1 + 1 + 1 + 1 + 1 + 1) 64 #[.int .i64 0, .int .i64 0, .int .i64 1, .int .i64 10, .int .i64 0, .int .i64 2, .int .i64 5, .int .i64 8, .int .i64 0] := by
    rw [hW]
    refine Blk.alloc ?_ _
    refine Blk.alloc ?_ _
    refine Blk.new' _ _ _ ?_
    first | with_unfolding_all rfl | (simp; done)
  have b5 : Blk W (w.heap.size + 1 + 1 + 1 + 1 + 1 + 1 + 1 + 1) 115 #[.int .i64 0, .int .i64 1, .int .i64 10, .int .i64 1, .int .i64 2, .int .i64 20, .int .i64 2, .int .i64 0, .int .i64 30, .int .i64 1, .int .i64 0, .int .i64 40] := by
    rw [hW]
    refine Blk.alloc ?_ _
    refine Blk.new' _ _ _ ?_
    first | with_unfolding_all rfl | (simp; done)
  have b6 : Blk W (w.heap.size + 1 + 1 + 1 + 1 + 1 + 1 + 1 + 1 + 1) 61 #[.int .i64 1, .int .i64 1, .slice (some ⟨w.heap.size + 1, 0, none⟩) 1 1, .int .i64 2, .int .i64 1, .slice (some ⟨w.heap.size + 1 + 1 + 1, 0, none⟩) 2 2, .int .i64 1, .int .i64 2, .slice (some ⟨w.heap.size + 1 + 1 + 1 + 1 + 1, 0, none⟩) 2 2] := by
    rw [hW]
    refine Blk.new' _ _ _ ?_
    first | with_unfolding_all rfl | (simp; done)
  have hbl : Below w.heap.size w W := by rw [hW]; exact bELt
  exact ⟨_, _, _, rfl, ring_fact b1 b2 b3 b4 b5 b6, hbl⟩
end Go.Proofs.YtpffhoefmcpniaaGreatDoor

/- What known asks of the ring. -/
namespace Go.Proofs.YtpffhoefmcpniaaGreatDoor
open Go.RowKit

theorem natsOf_nats (l : List Nat) : natsOf (nats l) = l := by
  unfold natsOf nats
  rw [List.map_map]
  conv => rhs; rw [← List.map_id l]
  apply List.map_congr_left
  intro x _
  simp
/-- The cells of a level: none holds more than its bound. -/
theorem rows_cnt (N : NetD) {bs : List Nat} (hp : ∀ b ∈ bs, 1 ≤ b) : ∀ (i : Nat) l y, (rowsN N bs)[i]? = some l → (nats bs)[i]? = some y → ∀ x ∈ cntI l (mostN l).toNat, x ≤ y := by
  intro i l y hl hy x hx
  have hi : i < bs.length := by
    have := (List.getElem?_eq_some_iff.1 hl).1
    rwa [rowsN_len] at this
  rw [rowsN_get N bs i hi] at hl
  have hl := (Option.some.inj hl).symm
  have hbi : bs[i]? = some bs[i] := List.getElem?_eq_getElem hi
  have ey : y = ((bs[i] : Nat) : Int) := by
    simp only [nats, List.getElem?_map, hbi] at hy
    exact (Option.some.inj hy).symm
  have hd := downP_drop N hbi
  have hcv : Cov N.vs.length (downP N (bs.drop i)) := by rw [hd]; exact nxt_cov (downP_perm N _).1 (downP_perm N _).2
  have hrow : IsRow N.vs.length (downP N (bs.drop i)) l := by rw [hl]; exact rowN_is hcv
  rw [hrow.most hcv] at hx
  unfold cntI at hx
  obtain ⟨c, hc, rfl⟩ := List.mem_map.1 hx
  have hc : c < (downP N (bs.drop i)).length := by have := List.mem_range.1 hc; omega
  have hq := List.getElem?_eq_getElem hc
  rw [hrow.countP hcv hq, ey]
  have hm := List.getElem_mem hc
  have hle : ∀ q ∈ downP N (bs.drop i), q.length ≤ bs[i] := by rw [hd]; exact nxt_le N (hp _ (List.getElem_mem hi))
  have := hle _ hm
  omega
theorem ring_pcs : (pcs ringN 2 [0, 1, 2]).length = 2 := by
  have h2 : 2 ≤ ([0, 1, 2] : List Nat).length := by decide
  have h3 : ([0, 1, 2] : List Nat).length = 3 := rfl
  rw [pcs_two ringN (by decide) h2]
  have a1 := hlf_len ringN true h2
  have a2 := hlf_len ringN false h2
  rw [h3] at a1 a2
  rw [pcs_one ringN (by omega) (.inl (by omega)), pcs_one ringN (by omega) (.inl (by omega))]
  rfl
theorem ring_d3 : downP ringN [3] = [List.range 3] := by
  show nxt ringN 3 (allV 3) = _
  show pcs ringN 3 (List.range 3) ++ [] = _
  rw [pcs_one ringN (by decide) (.inl (by decide))]
  rfl
theorem ring_d1 : (downP ringN [1, 3]).length = 3 := by
  show (nxt ringN 1 (downP ringN [3])).length = 3
  exact nxt_ones (downP_perm ringN [3]).1 (downP_perm ringN [3]).2
theorem ring_row (bs : List Nat) (b : Nat) : mostN (rowN 3 (downP ringN (b :: bs))) = ((downP ringN (b :: bs)).length : Int) := by
  have hc := downP_cov ringN b bs
  exact (rowN_is hc).most hc
theorem ring_r0 : (rowsN ringN [1, 3])[0]? = some (rowN 3 (downP ringN [1, 3])) := rowsN_get ringN [1, 3] 0 (by decide)
theorem ring_r1 : (rowsN ringN [1, 3])[1]? = some (rowN 3 (downP ringN [3])) := rowsN_get ringN [1, 3] 1 (by decide)
theorem ring_c0 : mostN (rowN 3 (downP ringN [1, 3])) = 3 := by rw [ring_row, ring_d1]; rfl
theorem ring_c1 : mostN (rowN 3 (downP ringN [3])) = 1 := by rw [ring_row, ring_d3]; rfl
theorem rows_rng (N : NetD) (bs : List Nat) : ∀ l ∈ rowsN N bs, ∀ x ∈ l, 0 ≤ x ∧ x < N.vs.length := by
  intro l hl x hx
  by_cases h : 1 ≤ bs.length ∧ bs.length ≤ 6
  · have := (rows_partOk N h.1 h.2).lvl l hl
    exact ⟨this.lo x hx, this.hi x hx⟩
  · obtain ⟨i, hi, e⟩ := List.getElem_of_mem hl
    rw [rowsN_len] at hi
    have hg := rowsN_get N bs i hi
    have hcv : Cov N.vs.length (downP N (bs.drop i)) := by rw [downP_drop N (List.getElem?_eq_getElem hi)]; exact nxt_cov (downP_perm N _).1 (downP_perm N _).2
    have e2 : l = rowN N.vs.length (downP N (bs.drop i)) := by
      have := List.getElem?_eq_getElem (show i < (rowsN N bs).length by rw [rowsN_len]; exact hi)
      rw [hg, e] at this
      exact (Option.some.inj this).symm
    have hlv := (rowN_is hcv).lvl hcv
    rw [← e2] at hlv
    exact ⟨hlv.lo x hx, hlv.hi x hx⟩
end Go.Proofs.YtpffhoefmcpniaaGreatDoor
