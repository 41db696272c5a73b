/- Parts of the proof: Od, Ki, Si, Ko, Dn, En, BaP. -/
import Derived.Test.YtgkeolddpielpaaGreatM15
import Derived.Test.YtgkeolddpielpaaGreatShelf
import Derived.Test.YtgkeolddpielpaaGreatShelf2
import Derived.Sort.OwnSortedInts
import Derived.Lib.RowBridge
namespace Go.Proofs.YtgkeolddpielpaaGreat
open Go.RowKit

attribute [local go_sem ↓] Go.wp_at_zero Go.wp_at_succ

theorem gate_sorted1 {ar : List Tri} {l : List Int} {c : Nat} {x : GateD} (h : (gateRow ar l)[c]? = some x) : x.1.Pairwise (· < ·) := by
 have hc : c < (mostN l).toNat := by rw [← gateRow_len ar l]; exact (List.getElem?_eq_some_iff.1 h).1
 rw [gateRow_get hc] at h
 cases h
 exact List.Pairwise.filter _ (arcP_sorted _ _)
theorem gate_sorted2 {ar : List Tri} {l : List Int} {c : Nat} {x : GateD} (h : (gateRow ar l)[c]? = some x) : x.2.Pairwise (· < ·) := by
 have hc : c < (mostN l).toNat := by rw [← gateRow_len ar l]; exact (List.getElem?_eq_some_iff.1 h).1
 rw [gateRow_get hc] at h
 cases h
 exact List.Pairwise.filter _ (arcP_sorted _ _)

end Go.Proofs.YtgkeolddpielpaaGreat

namespace Go.Proofs.YtgkeolddpielpaaGreat
open Go.RowKit

attribute [local go_sem ↓] Go.wp_at_zero Go.wp_at_succ

def srt (zs : List Int) : List Int := zs.mergeSort fun x y => decide (x ≤ y)
theorem srt_len (zs : List Int) : (srt zs).length = zs.length := by unfold srt; simp
theorem srt_mem {zs : List Int} {x : Int} : x ∈ srt zs ↔ x ∈ zs := by unfold srt; exact List.mem_mergeSort
theorem srt_le (zs : List Int) : (srt zs).Pairwise (· ≤ ·) := by
 have := List.pairwise_mergeSort (le := fun x y : Int => decide (x ≤ y)) (fun a b c h1 h2 => by simp at *; omega) (fun a b => by simp; omega) zs
 exact this.imp (fun h => by simpa using h)
theorem Own.sorted {w : World} {B g n c : Nat} {zs : List Int} (h : Own w B 3 1 (some ⟨g, 0, none⟩) n c (icells zs)) : zs.length = n ∧ g < w.heap.size ∧ B ≤ g ∧ Go.Sort.Holds (Value.int .i64) w g 0 zs.toArray ∧ n ≤ c ∧ c ≤ 9223372036854775807 ∧
 ∀ (ts : List Int) (q : Nat) (os : Array Obj), ts.length = n → Own (Go.Sort.grow (Go.Sort.putRow (Value.int .i64) (Go.Sort.ahead w q) g 0 ts.toArray) os) B 3 1 (some ⟨g, 0, none⟩) n c (icells ts) := by
 have hl : zs.length = n := by have := h.1; simpa [icells] using this
 rcases h.2 with ⟨h', _⟩ | ⟨g', cap, cur, h1, h2, h3, h4, h5, h6, h7⟩
 · cases h'
 · cases h1
   have h7' : cur.toList.take zs.length = zs.map (Value.int .i64) := by rw [hl]; simpa [icells] using h7
   refine ⟨hl, (Array.getElem?_eq_some_iff.1 h3).1, h2, holds_of_blockI h3 h7', h4, (by unfold maxLen at h5; exact h5), fun ts q os ht => ?_⟩
   have := ownsRow_sortedI (os := os) (n := q) (ss := zs) (ts := ts) (by rw [ht, hl]) h2 h3 (by rw [hl]; exact h4) h5 h6
   rw [hl] at this
   exact this
theorem sort_own (g n c B : Nat) (zs : List Int) (w : World) (h : Own w B 3 1 (some ⟨g, 0, none⟩) n c (icells zs)) (hn : n ≤ 1000000000) :
 Calls Tryz.prog 72 #[.slice (some ⟨g, 0, none⟩) n c] w fun e w' => e = .returned (.tuple #[]) ∧ Own w' B 3 1 (some ⟨g, 0, none⟩) n c (icells (srt zs)) ∧ w.grownBy w' (some g) := by
 obtain ⟨hl, hg, hB, hH, h1, h2, h3⟩ := h.sorted
 have hcon := Any.slices_Sort_int Tryz.sortIL g 0 c zs w hH hg (by omega)
 rw [hl] at hcon
 refine Calls.mono (show Calls Tryz.prog 72 _ _ _ from hcon) ?_
 rintro e w' ⟨rfl, q, os, rfl⟩
 exact ⟨rfl, h3 (srt zs) q os (by rw [srt_len, hl]), grownBy_sortedI _⟩
theorem compact_own (g n c B : Nat) (zs : List Int) (w : World) (h : Own w B 3 1 (some ⟨g, 0, none⟩) n c (icells zs)) :
 Calls Tryz.prog 73 #[.slice (some ⟨g, 0, none⟩) n c] w fun e w' => e = .returned (.slice (some ⟨g, 0, none⟩) (Lib.compact zs).length c) ∧ RdI w' (some ⟨g, 0, none⟩) (Lib.compact zs).length (Lib.compact zs) ∧ w.grownBy w' (some g) := by
 obtain ⟨hl, hg, hB, hH, h1, h2, h3⟩ := h.sorted
 have hcon := Any.slices_Compact_int Tryz.compactL g 0 c zs w hH (by omega) (by omega)
 rw [hl] at hcon
 have hcl := Lib.compact_length_le zs
 refine Calls.mono (show Calls Tryz.prog 73 _ _ _ from hcon) ?_
 rintro e w' ⟨rfl, q, rfl⟩
 have ho := h3 (Lib.compact zs ++ List.replicate (n - (Lib.compact zs).length) 0) q #[] (by simp; omega)
 rw [Go.Sort.grow_empty] at ho
 have hgr := grownBy_sortedI (w := w) (g := g) (n := q) (os := #[]) (Lib.compact zs ++ List.replicate (n - (Lib.compact zs).length) 0).toArray
 rw [Go.Sort.grow_empty] at hgr
 refine ⟨rfl, ?_, hgr⟩
 have := ho.rds.rdI.take (m := (Lib.compact zs).length) (by omega)
 rwa [List.take_append_of_le_length (Nat.le_refl _), List.take_length] at this
theorem compact_mem {zs : List Int} {x : Int} : x ∈ Lib.compact zs ↔ x ∈ zs := by
 unfold Lib.compact Lib.compactUpTo
 simp only [List.mem_map, List.mem_filter, List.mem_range]
 constructor
 · rintro ⟨j, ⟨hj, _⟩, rfl⟩
   rw [getElem!_pos _ _ (by simpa using hj)]
   simp
 · intro hx
   obtain ⟨k, hk⟩ := List.getElem?_of_mem hx
   have hkl := (List.getElem?_eq_some_iff.1 hk).1
   have hex : ∃ j, j < zs.length ∧ zs.toArray[j]! = x ∧ Lib.keeps zs.toArray j = true := by
    have hkx : zs.toArray[k]! = x := by rw [getElem!_pos _ _ (by simpa using hkl)]; simpa using (List.getElem?_eq_some_iff.1 hk).2
    clear hk
    induction k with
    | zero => exact ⟨0, hkl, hkx, by simp [Lib.keeps]⟩
    | succ k ih =>
     by_cases e : zs.toArray[k + 1]! = zs.toArray[k]!
     · exact ih (by omega) (by rw [← e]; exact hkx)
     · exact ⟨k + 1, hkl, hkx, Lib.keeps_pos e⟩
   obtain ⟨j, h1, h2, h3⟩ := hex
   exact ⟨j, ⟨h1, h3⟩, h2⟩
theorem compact_lt {zs : List Int} (h : zs.Pairwise (· ≤ ·)) : (Lib.compact zs).Pairwise (· < ·) := by
 unfold Lib.compact Lib.compactUpTo
 rw [List.pairwise_map]
 have hle : ∀ i j : Nat, i ≤ j → j < zs.length → zs.toArray[i]! ≤ zs.toArray[j]! := fun i j hij hj => by
  rw [getElem!_pos _ _ (by simp; omega), getElem!_pos _ _ (by simpa using hj)]
  simp only [List.getElem_toArray]
  rcases Nat.lt_or_ge i j with h1 | h1
  · exact List.pairwise_iff_getElem.1 h i j (by omega) hj h1
  · obtain rfl : i = j := by omega
    exact Int.le_refl _
 have hr : ((List.range zs.length).filter (Lib.keeps zs.toArray)).Pairwise (fun i j => i < j ∧ j < zs.length ∧ Lib.keeps zs.toArray j = true) := by
  rw [List.pairwise_filter]
  refine List.Pairwise.imp_of_mem ?_ (List.pairwise_lt_range (n := zs.length))
  intro i j hi hj hij _ hk
  exact ⟨hij, List.mem_range.1 hj, hk⟩
 refine hr.imp ?_
 rintro i j ⟨hij, hj, hk⟩
 have h1 := hle i (j - 1) (by omega) (by omega)
 have h2 := hle (j - 1) j (by omega) hj
 have h3 : zs.toArray[j]! ≠ zs.toArray[j - 1]! := fun e => by
  rw [Lib.keeps_neg (by omega) e] at hk
  cases hk
 omega
def kidsRaw (row below : List Int) (cell : Int) (k : Nat) : List Int := ((List.range k).filter (fun v : Nat => row.getD v 0 == cell)).map (fun v => below.getD v 0)
theorem kidsRaw_next {row below : List Int} {cell x y : Int} {k : Nat} (hx : row[k]? = some x) (hy : below[k]? = some y) : kidsRaw row below cell (k + 1) = kidsRaw row below cell k ++ (if x = cell then [y] else []) := by
 unfold kidsRaw
 have ex : row.getD k 0 = x := by rw [List.getD_eq_getElem?_getD, hx]; rfl
 have ey : below.getD k 0 = y := by rw [List.getD_eq_getElem?_getD, hy]; rfl
 rw [List.range_succ, List.filter_append, List.map_append]
 congr 1
 by_cases e : x = cell
 · rw [if_pos e]; simp only [List.filter_cons, List.filter_nil, ex, e, beq_self_eq_true, if_true, List.map_cons, List.map_nil, ey]
 · rw [if_neg e]; simp only [List.filter_cons, List.filter_nil, ex, beq_eq_false_iff_ne.2 e, Bool.false_eq_true, if_false, List.map_nil]
theorem kidsRaw_len (row below : List Int) (cell : Int) (k : Nat) : (kidsRaw row below cell k).length ≤ k := by
 unfold kidsRaw
 rw [List.length_map]
 exact Nat.le_trans (List.length_filter_le _ _) (by simp)
theorem mem_kidsRaw {row below : List Int} {cell x : Int} {n : Nat} (h1 : row.length = n) (h2 : below.length = n) : x ∈ kidsRaw row below cell n ↔ ∃ v : Nat, row[v]? = some cell ∧ below[v]? = some x := by
 unfold kidsRaw
 simp only [List.mem_map, List.mem_filter, List.mem_range, beq_iff_eq, List.getD_eq_getElem?_getD]
 constructor
 · rintro ⟨v, ⟨hv, e1⟩, e2⟩
   have a1 : row[v]? = some row[v] := List.getElem?_eq_getElem (by omega)
   have a2 : below[v]? = some below[v] := List.getElem?_eq_getElem (by omega)
   rw [a1] at e1
   rw [a2] at e2
   refine ⟨v, ?_, ?_⟩
   · rw [a1]; exact congrArg some e1
   · rw [a2]; exact congrArg some e2
 · rintro ⟨v, e1, e2⟩
   refine ⟨v, ⟨by have := (List.getElem?_eq_some_iff.1 e1).1; omega, by rw [e1]; rfl⟩, by rw [e2]; rfl⟩
def kidsOf (row below : List Int) (cell : Int) (n : Nat) : List Int := Lib.compact (srt (kidsRaw row below cell n))
theorem kidsOf_lt (row below : List Int) (cell : Int) (n : Nat) : (kidsOf row below cell n).Pairwise (· < ·) := compact_lt (srt_le _)
theorem mem_kidsOf {row below : List Int} {cell x : Int} {n : Nat} (h1 : row.length = n) (h2 : below.length = n) : x ∈ kidsOf row below cell n ↔ ∃ v : Nat, row[v]? = some cell ∧ below[v]? = some x := by
 unfold kidsOf
 rw [compact_mem, srt_mem, mem_kidsRaw h1 h2]
theorem kidsOf_len (row below : List Int) (cell : Int) (n : Nat) : (kidsOf row below cell n).length ≤ n := by
 unfold kidsOf
 refine Nat.le_trans (Lib.compact_length_le _) ?_
 rw [srt_len]
 exact kidsRaw_len _ _ _ _
set_option maxHeartbeats 2000000 in
theorem kids_own (Q : Option Addr) (L cq j n : Nat) (cell : Int) (ls : List (List Int)) (row below : List Int) (w : World) (h : RdT w Q L ls) (hr : ls[j + 1]? = some row) (hb : ls[j]? = some below) (hL : L ≤ 1000000) (h1 : row.length = n) (h2 : below.length = n) (hn : n ≤ 1000000) (hne : cell ∈ row) :
 Calls Tryz.prog 41 #[.agg #[.slice Q L cq], .int .i64 ((j : Int) + 1 + 1), .int .i64 cell] w fun e w' => ∃ A c, e = .returned (.slice A (kidsOf row below cell n).length c) ∧ RdI w' A (kidsOf row below cell n).length (kidsOf row below cell n) ∧ (∀ b, blkOf A = some b → w.heap.size ≤ b) ∧ Below w.heap.size w w' := by
 have HN1 := Lib.hid (show ∀ V, Below w.heap.size w V → Calls Tryz.prog 71 #[.agg #[.slice Q L cq], .int .i64 ((j : Int) + 1)] V fun e w' => ∃ A n c, e = .returned (.slice A n c) ∧ RdI V A n below ∧ n ≤ c ∧ c ≤ 9223372036854775807 ∧ Below V.heap.size V w' from fun V hV => numbers_ok Q L cq j ls below V (h.below hV) hb hL)
 have HN2 := Lib.hid (show ∀ V, Below w.heap.size w V → Calls Tryz.prog 71 #[.agg #[.slice Q L cq], .int .i64 ((j : Int) + 1 + 1)] V fun e w' => ∃ A n c, e = .returned (.slice A n c) ∧ RdI V A n row ∧ n ≤ c ∧ c ≤ 9223372036854775807 ∧ Below V.heap.size V w' from fun V hV => by
  have := numbers_ok Q L cq (j + 1) ls row V (h.below hV) hr hL
  simpa using this)
 have HL1 := Lib.hid h1
 have HL2 := Lib.hid h2
 have HNE := Lib.hid hne
 have hjL : j + 1 < L := by rw [← h.1]; exact (List.getElem?_eq_some_iff.1 hr).1
 clear h hr hb h1 h2 hne
 have i1 : ¬ ((j : Int) + 1 + 1 < 2) := by omega
 have i2 : (j : Int) + 1 + 1 - 1 = (j : Int) + 1 := by omega
 go_enter Tryz.func41, Tryz.ntmps41
 go_wp2_with fail
 (refine calls_named ?_; intro w1 hw1)
 have hb1 : Below w.heap.size w w1 := by rw [hw1]; exact bELt
 have hQ : Blk w1 w.heap.size 79 #[.slice Q L cq] := by rw [hw1]; exact bLNt
 clear hw1
 with_reducible refine (HN1.out w1 hb1).mono ?_
 rintro e w2 ⟨Ab, n1, cb, rfl, hrb, _, _, hb2⟩
 obtain rfl : n = n1 := by rw [← hrb.1]; exact HL2.out.symm
 have hbw2 := Bel.step hb1 hb2
 have HRB := Lib.hid (hrb.below hb2)
 have y0 := (hQ.below hb2 hQ.lt).cell 0
 simp only [List.getElem?_toArray, List.getElem?_cons_zero] at y0
 clear hrb hb2 hQ
 go_wp2_with fail
 with_reducible refine (HN2.out w2 hbw2).mono ?_
 rintro e w3 ⟨Ar, n2, cr, rfl, hrr, _, _, hb3⟩
 obtain rfl : n = n2 := by rw [← hrr.1]; exact HL1.out.symm
 have hbw3 := Bel.step hbw2 hb3
 have HRR := Lib.hid (hrr.below hb3)
 have HRB3 := Lib.hid (HRB.out.below hb3)
 have hz0 := hbw3.size
 clear hrr hb3 y0 HRB
 go_wp2_with fail
 go_loopw [8, 21] (fun x q W => w3.heap.size ≤ W.heap.size ∧ Below w3.heap.size w3 W ∧ ∃ (k : Nat) (X : Option Addr) (m cx : Nat), k ≤ n ∧ q = .int .i64 k ∧ x = .slice X m cx ∧ m ≤ k ∧ Own W w3.heap.size 3 1 X m cx (icells (kidsRaw row below cell k))) (fun _ q _ => n - (intOf q).toNat)
 case atStart => exact ⟨Nat.le_refl _, Below.refl _ _, 0, none, 0, 0, Nat.zero_le _, rfl, rfl, Nat.le_refl _, Own.nil _ _ _ _⟩
 case round =>
  obtain ⟨hsz, hbl, k, X, m, cx, hk, rfl, rfl, hmk, hown⟩ := hrel
  by_cases hlt : k < n
  · obtain ⟨rb, ro, x, rfl, hx, hcx⟩ := HRR.out.at_ hlt
    obtain ⟨bb, bo, y, rfl, hy, hcy⟩ := HRB3.out.at_ hlt
    have hcx2 := Below.cellOf hbl (Nat.le_refl _) hcx
    have hcy2 := Below.cellOf hbl (Nat.le_refl _) hcy
    have HNX := Lib.hid (kidsRaw_next (cell := cell) hx hy)
    have k1 : (0 : Int) ≤ (k : Int) := by omega
    have k2 : (k : Int) < (n : Int) := by omega
    clear hx hy hcx hcy
    by_cases hxc : x = cell
    · have e1 : (x == cell) = true := by simpa using hxc
      have HXC := Lib.hid hxc
      clear hxc
      have hr4 : Below wr.heap.size wr (wr.alloc (.cells #[.int .i64 y] 3)) := bELt
      have hownA := hown.below hr4
      have hrA : Rds (wr.alloc (.cells #[.int .i64 y] 3)) 1 (some ⟨wr.heap.size, 0, none⟩) 1 (icells [y]) := (Blk.new wr 3 (ints [y])).rds rfl
      have hblA := Bel.step hbl hr4
      go_wp2_with (at_builtin; with_reducible refine wpList_app rfl (.tmp 35) (.tmp 40) 36 rfl 3 _ 1 8 infoInt Tryz.underlying36 rfl (by omega) rfl rfl hownA hrA (icells_one _) (by omega) (by omega) (by simp; omega) ?_)
      intro A' c' w' hown' hg _
      have hbl5 : Below w3.heap.size w3 w' := Bel.grownOwn hblA hg hownA (by simp; omega)
      have hsz5 := hbl5.size
      have HO := Lib.hid hown'
      clear hown' hg hownA hrA hblA hr4 hown hbl
      go_wp2
      go_roundw
      case rel => exact ⟨hsz5, hbl5, k + 1, A', m + 1, c', by omega, by go_num, rfl, by omega, by rw [HNX.out, if_pos HXC.out, icells_app]; exact HO.out⟩
      case measure => simp [intOf]; omega
    · have e1 : (x == cell) = false := by simpa using hxc
      have HXC := Lib.hid hxc
      clear hxc
      go_wp2_with fail
      go_roundw
      case rel => exact ⟨hsz, hbl, k + 1, X, m, cx, by omega, by go_num, rfl, by omega, by rw [HNX.out, if_neg HXC.out]; simpa using hown⟩
      case measure => simp [intOf]; omega
  · obtain rfl : n = k := by omega
    have hm : (kidsRaw row below cell n).length = m := by have := hown.1; simpa [icells] using this
    have hm0 : 0 < m := by
     obtain ⟨v, hv⟩ := List.getElem?_of_mem HNE.out
     have hvn := (List.getElem?_eq_some_iff.1 hv).1
     rw [HL1.out] at hvn
     obtain ⟨z, hz⟩ : ∃ z, below[v]? = some z := ⟨_, List.getElem?_eq_getElem (by rw [HL2.out]; exact hvn)⟩
     have hmem := (mem_kidsRaw HL1.out HL2.out).2 ⟨v, hv, hz⟩
     rw [← hm]
     exact List.length_pos_of_mem hmem
    obtain ⟨gk, cur, rfl, hgk, _⟩ := hown.block hm0
    have HS := Lib.hid (sort_own gk m cx w3.heap.size _ wr hown (by omega))
    clear hown hm hm0 HNE
    go_wp2_with fail
    with_reducible refine HS.out.mono ?_
    rintro e w5 ⟨rfl, hown5, hg5⟩
    have hbl5 : Below w3.heap.size w3 w5 := hbl.grown hg5 hsz (fun k hk => by cases hk; exact hgk)
    have hz5 := hg5.size
    have HC := Lib.hid (compact_own gk m cx w3.heap.size _ w5 hown5)
    clear hown5 hg5 HS
    go_wp2_with fail
    with_reducible refine HC.out.mono ?_
    rintro e w6 ⟨rfl, hr6, hg6⟩
    have hbl6 : Below w3.heap.size w3 w6 := hbl5.grown hg6 (by omega) (fun k hk => by cases hk; exact hgk)
    have HR6 := Lib.hid hr6
    clear hr6 hg6 HC
    go_wp2_with fail
    go_ret
    exact ⟨_, _, rfl, HR6.out, fun b hb => by injection hb with hb; simp only at hb; omega, Bel.step hbw3 hbl6⟩
end Go.Proofs.YtgkeolddpielpaaGreat

namespace Go.Proofs.YtgkeolddpielpaaGreat
open Go.RowKit

attribute [local go_sem ↓] Go.wp_at_zero Go.wp_at_succ

end Go.Proofs.YtgkeolddpielpaaGreat

namespace Go.Proofs.YtgkeolddpielpaaGreat
open Go.RowKit

attribute [local go_sem ↓] Go.wp_at_zero Go.wp_at_succ

theorem oKids_own (o j n : Nat) (cell : Int) (ar : List Tri) (ls : List (List Int)) (row below : List Int) (w : World) (h : RdOv w o ar ls) (hr : ls[j + 1]? = some row) (hb : ls[j]? = some below) (hL : ls.length ≤ 1000000) (h1 : row.length = n) (h2 : below.length = n) (hn : n ≤ 1000000) (hne : cell ∈ row) :
 Calls Tryz.prog 13 #[.pointer (some ⟨o, 0, none⟩), .int .i64 ((j : Int) + 1 + 1), .int .i64 cell] w fun e w' => ∃ A c, e = .returned (.slice A (kidsOf row below cell n).length c) ∧ RdI w' A (kidsOf row below cell n).length (kidsOf row below cell n) ∧ (∀ b, blkOf A = some b → w.heap.size ≤ b) ∧ Below w.heap.size w w' := by
 obtain ⟨Q, F, T, G, S, L, m, cq, cf, ct, cg, cs, h⟩ := h
 have h0 := h.n0
 have HK := Lib.hid (kids_own Q L cq j n cell ls row below w h.part hr hb (by rw [← h.part.1]; exact hL) h1 h2 hn hne)
 clear h hr hb hL h1 h2 hn hne
 generalize kidsOf row below cell n = ks at *
 go_enter Tryz.func13, Tryz.ntmps13
 go_wp2_with fail
 with_reducible refine HK.out.mono ?_
 rintro e w' ⟨A, c, rfl, hA, hlt, hbl⟩
 have HA := Lib.hid hA
 clear hA
 go_wp2_with fail
 go_ret
 exact ⟨A, c, rfl, HA.out, hlt, hbl⟩
end Go.Proofs.YtgkeolddpielpaaGreat

namespace Go.Proofs.YtgkeolddpielpaaGreat

theorem mem_gate1 {ar : List Tri} {l : List Int} {c : Nat} {x : GateD} (hx : (gateRow ar l)[c]? = some x) {y : Int} : y ∈ x.1 ↔ y ∈ crossL ar l ∧ toC ar l y = (c : Int) := by
 have hc : c < (mostN l).toNat := by rw [← gateRow_len ar l]; exact (List.getElem?_eq_some_iff.1 hx).1
 rw [gateRow_get hc] at hx
 cases hx
 simp only [List.mem_filter, beq_iff_eq]
theorem mem_gate2 {ar : List Tri} {l : List Int} {c : Nat} {x : GateD} (hx : (gateRow ar l)[c]? = some x) {y : Int} : y ∈ x.2 ↔ y ∈ crossL ar l ∧ frC ar l y = (c : Int) := by
 have hc : c < (mostN l).toNat := by rw [← gateRow_len ar l]; exact (List.getElem?_eq_some_iff.1 hx).1
 rw [gateRow_get hc] at hx
 cases hx
 simp only [List.mem_filter, beq_iff_eq]
theorem mem_cross {ar : List Tri} {l : List Int} {y : Int} : y ∈ crossL ar l ↔ ∃ (a : Nat) (t : Tri), y = (a : Int) ∧ ar[a]? = some t ∧ cellOf l t.1 ≠ cellOf l t.2.1 := by
 unfold crossL arcP
 rw [List.mem_map]
 constructor
 · rintro ⟨p, hp, rfl⟩
   obtain ⟨h1, h2⟩ := List.mem_filter.1 hp
   refine ⟨p.2, p.1, rfl, (List.mem_zipIdx_iff_getElem?.1 h1), ?_⟩
   simpa [crossB] using h2
 · rintro ⟨a, t, rfl, h1, h2⟩
   exact ⟨(t, a), List.mem_filter.2 ⟨List.mem_zipIdx_iff_getElem?.2 h1, by simpa [crossB] using h2⟩, rfl⟩
theorem cellOf_get {l : List Int} {v : Nat} (h : v < l.length) : l[v]? = some (cellOf l (v : Int)) := by
 rw [cellOf_nat (List.getElem?_eq_getElem h), List.getElem?_eq_getElem h]
theorem gate_there {ar : List Tri} {n : Nat} {l : List Int} (hl : LvlOk n l) {z : Int} (hz : z ∈ l) : ∃ q : Nat, z = (q : Int) ∧ ∃ y, (gateRow ar l)[q]? = some y := by
 have h0 := hl.lo z hz
 have h1 := lt_mostN hz
 exact ⟨z.toNat, by omega, _, gateRow_get (by omega)⟩
theorem apart_below {l lb : List Int} {n u v : Nat} (hn : NestOk lb l) (h1 : l.length = n) (h2 : lb.length = n) (hu : u < n) (hv : v < n) (h : cellOf l (u : Int) ≠ cellOf l (v : Int)) : cellOf lb (u : Int) ≠ cellOf lb (v : Int) := by
 intro e
 have a1 := cellOf_get (l := l) (v := u) (by omega)
 have a2 := cellOf_get (l := l) (v := v) (by omega)
 have b1 := cellOf_get (l := lb) (v := u) (by omega)
 have b2 := cellOf_get (l := lb) (v := v) (by omega)
 have c1 := hn u v _ _ _ _ b1 b2 a1 a2 (by omega)
 have c2 := hn v u _ _ _ _ b2 b1 a2 a1 (by omega)
 exact h (by omega)
theorem cell_there {n c : Nat} {l : List Int} (hl : LvlOk n l) (hc : c < (mostN l).toNat) : (c : Int) ∈ l := hl.all c (by omega)
end Go.Proofs.YtgkeolddpielpaaGreat

namespace Go.Proofs.YtgkeolddpielpaaGreat
open Go.RowKit

theorem mkOf_get {l : List Int} {c : Int} {v : Int} (h : v.toNat < l.length) : (mkOf l c).getD v.toNat false = true ↔ cellOf l v = c := by
 unfold mkOf cellOf
 rw [List.getD_eq_getElem?_getD, List.getD_eq_getElem?_getD, List.getElem?_map, List.getElem?_eq_getElem h]
 simp
theorem stA_iff {N : NetD} (hok : NetOk N) {l : List Int} (hl : l.length = N.vs.length) {c : Int} {a b : Nat} {d : Int} : StA N (mkOf l c) a b d ↔
 ∃ x y, N.ar[a]? = some x ∧ N.ar[b]? = some y ∧ x.2.1 = y.1 ∧ turnN N a b ≠ 1152921504606846976 ∧ y.2.2 ≠ 1152921504606846976 ∧ cellOf l y.1 = c ∧ cellOf l y.2.1 = c ∧ d = turnN N a b + y.2.2 := by
 constructor
 · rintro ⟨y, hy, h1, h2, h3, h4, h5⟩
   obtain ⟨x, y', hx, hy', e⟩ := turnN_meet h1
   rw [hy] at hy'
   cases hy'
   have ho := hok.arcs y (List.mem_of_getElem? hy)
   have f0 := ho.f0; have f1 := ho.f1; have g0 := ho.g0; have g1 := ho.g1
   exact ⟨x, y, hx, hy, e, h1, h2, (mkOf_get (by omega)).1 h3, (mkOf_get (by omega)).1 h4, h5⟩
 · rintro ⟨x, y, hx, hy, e, h1, h2, h3, h4, h5⟩
   have ho := hok.arcs y (List.mem_of_getElem? hy)
   have f0 := ho.f0; have f1 := ho.f1; have g0 := ho.g0; have g1 := ho.g1
   exact ⟨y, hy, h1, h2, (mkOf_get (by omega)).2 h3, (mkOf_get (by omega)).2 h4, h5⟩
def toV (N : NetD) (a : Nat) : Int := (N.ar.getD a (0, 0, 0)).2.1
def frV (N : NetD) (a : Nat) : Int := (N.ar.getD a (0, 0, 0)).1
def wV (N : NetD) (a : Nat) : Int := (N.ar.getD a (0, 0, 0)).2.2
theorem toV_at {N : NetD} {a : Nat} {x : Tri} (h : N.ar[a]? = some x) : toV N a = x.2.1 ∧ frV N a = x.1 ∧ wV N a = x.2.2 := by
 unfold toV frV wV
 rw [List.getD_eq_getElem?_getD, h]
 exact ⟨rfl, rfl, rfl⟩
theorem gate_in {N : NetD} {l : List Int} {c : Nat} {x : GateD} (hx : (gateRow N.ar l)[c]? = some x) {a : Nat} : (a : Int) ∈ x.1 ↔ ∃ y, N.ar[a]? = some y ∧ cellOf l y.1 ≠ c ∧ cellOf l y.2.1 = c := by
 rw [mem_gate1 hx, mem_cross]
 constructor
 · rintro ⟨⟨a', t, e, h1, h2⟩, h3⟩
   have : a' = a := by omega
   subst this
   rw [toC_nat h1] at h3
   exact ⟨t, h1, by rw [← h3]; exact h2, h3⟩
 · rintro ⟨t, h1, h2, h3⟩
   exact ⟨⟨a, t, rfl, h1, by rw [h3]; exact h2⟩, by rw [toC_nat h1]; exact h3⟩
theorem gate_out {N : NetD} {l : List Int} {c : Nat} {x : GateD} (hx : (gateRow N.ar l)[c]? = some x) {a : Nat} : (a : Int) ∈ x.2 ↔ ∃ y, N.ar[a]? = some y ∧ cellOf l y.1 = c ∧ cellOf l y.2.1 ≠ c := by
 rw [mem_gate2 hx, mem_cross]
 constructor
 · rintro ⟨⟨a', t, e, h1, h2⟩, h3⟩
   have : a' = a := by omega
   subst this
   rw [frC_nat h1] at h3
   exact ⟨t, h1, h3, by rw [← h3]; exact fun e => h2 e.symm⟩
 · rintro ⟨t, h1, h2, h3⟩
   exact ⟨⟨a, t, rfl, h1, by rw [h2]; exact fun e => h3 e.symm⟩, by rw [frC_nat h1]; exact h2⟩

/-! By arcs: each place an arc. -/
structure FldA (N : NetD) (l : List Int) (c : Nat) (x : GateD) (arcs : List Nat) (L : Nat → List Stp) : Prop where
 at_ : ∀ a ∈ arcs, ∃ y, N.ar[a]? = some y ∧ cellOf l y.2.1 = c
 snd : ∀ p a, arcs[p]? = some a → ∀ s ∈ L p, ∃ b, turnN N a b ≠ 1152921504606846976 ∧ ((∃ k : Nat, x.2[k]? = some (b : Int) ∧ s.2.1 = (k : Int) ∧ s.2.2 = turnN N a b) ∨ ((b : Int) ∉ x.2 ∧ wV N b ≠ 1152921504606846976 ∧ s.2.1 < 0 ∧ arcs[s.1]? = some b ∧ s.2.2 = turnN N a b + wV N b))
 outC : ∀ p a b (k : Nat), arcs[p]? = some a → turnN N a b ≠ 1152921504606846976 → x.2[k]? = some (b : Int) → ∃ s ∈ L p, s.2.1 = (k : Int) ∧ s.2.2 = turnN N a b
 toC : ∀ p a b, arcs[p]? = some a → turnN N a b ≠ 1152921504606846976 → (b : Int) ∉ x.2 → wV N b ≠ 1152921504606846976 → ∃ s ∈ L p, s.2.1 < 0 ∧ arcs[s.1]? = some b ∧ s.2.2 = turnN N a b + wV N b
section
variable {N : NetD} {l : List Int} {c : Nat} {x : GateD} {arcs : List Nat} {L : Nat → List Stp}
theorem FldA.fwd (h : FldA N l c x arcs L) (hok : NetOk N) (hl : l.length = N.vs.length) (hx : (gateRow N.ar l)[c]? = some x) {i s : Nat} (hi : arcs[i]? = some s) {p : Nat} {d : Int} (hr : Rch (StF L) i p d) :
 ∃ a, arcs[p]? = some a ∧ Rch (StA N (mkOf l c)) s a d := by
 induction hr with
 | start => exact ⟨s, hi, .start⟩
 | @step p q d e _ h2 ih =>
  obtain ⟨a, ha, hr⟩ := ih
  obtain ⟨t, ht, h3, rfl, rfl⟩ := h2
  obtain ⟨b, h4, h5⟩ := h.snd p a ha t ht
  rcases h5 with ⟨k, _, h6, _⟩ | ⟨h6, h7, _, h8, h9⟩
  · omega
  · refine ⟨b, h8, hr.step ((stA_iff hok hl).2 ?_)⟩
    obtain ⟨xa, y, hxa, hy, e⟩ := turnN_meet h4
    rw [(toV_at hy).2.2] at h7 h9
    obtain ⟨xa', hxa', hc⟩ := h.at_ a (List.mem_of_getElem? ha)
    rw [hxa] at hxa'
    cases hxa'
    refine ⟨xa, y, hxa, hy, e, h4, h7, by rw [← e]; exact hc, ?_, h9⟩
    apply Classical.byContradiction
    intro hn
    exact h6 ((gate_out hx).2 ⟨y, hy, by rw [← e]; exact hc, hn⟩)
theorem FldA.bwd (h : FldA N l c x arcs L) (hok : NetOk N) (hl : l.length = N.vs.length) (hx : (gateRow N.ar l)[c]? = some x) {i s : Nat} (hi : arcs[i]? = some s) {a : Nat} {d : Int} (hr : Rch (StA N (mkOf l c)) s a d) :
 ∃ p, arcs[p]? = some a ∧ Rch (StF L) i p d := by
 induction hr with
 | start => exact ⟨i, hi, .start⟩
 | @step a b d e _ h2 ih =>
  obtain ⟨p, ha, hr⟩ := ih
  obtain ⟨xa, y, hxa, hy, e, h4, h7, h8, h9, rfl⟩ := (stA_iff hok hl).1 h2
  have hw := (toV_at hy).2.2
  obtain ⟨t, ht, h10, h11, h12⟩ := h.toC p a b ha h4 (fun hm => by
   obtain ⟨y', hy', _, h13⟩ := (gate_out hx).1 hm
   rw [hy] at hy'
   cases hy'
   exact h13 h9) (by rw [hw]; exact h7)
  exact ⟨t.1, h11, hr.step ⟨t, ht, h10, rfl, by rw [h12, hw]⟩⟩
theorem FldA.entry (h : FldA N l c x arcs L) (hok : NetOk N) (hl : l.length = N.vs.length) (hx : (gateRow N.ar l)[c]? = some x) {i s k t : Nat} (hi : arcs[i]? = some s) (hk : x.2[k]? = some (t : Int)) {v : Int} (hv : Lst (OutC (StF L) (OuF L) i k) v) :
 EntC N (mkOf l c) s t v := by
 have hinj : ∀ (b k' : Nat), x.2[k']? = some (b : Int) → k' = k → b = t := fun b k' h1 e => by
  subst e
  rw [hk] at h1
  have := Option.some.inj h1
  omega
 refine hv.conv (fun d hd => ?_) (fun d hd => ?_)
 · obtain ⟨p, d1, d2, h1, ⟨u, hu, h2, h3⟩, rfl⟩ := hd
   obtain ⟨a, ha, hr⟩ := h.fwd hok hl hx hi h1
   obtain ⟨b, h4, h5⟩ := h.snd p a ha u hu
   rcases h5 with ⟨k', h6, h7, h8⟩ | ⟨_, _, h6, _⟩
   · have hb := hinj b k' h6 (by omega)
     subst hb
     exact ⟨_, ⟨a, d1, _, hr, ⟨h4, rfl⟩, rfl⟩, by omega⟩
   · omega
 · obtain ⟨a, d1, d2, h1, ⟨h2, h3⟩, rfl⟩ := hd
   obtain ⟨p, ha, hr⟩ := h.bwd hok hl hx hi h1
   obtain ⟨u, hu, h4, h5⟩ := h.outC p a t k ha h2 hk
   exact ⟨_, ⟨p, d1, _, hr, ⟨u, hu, h4, rfl⟩, rfl⟩, by omega⟩
theorem FldA.bound (h : FldA N l c x arcs L) (hok : NetOk N) (hl : l.length = N.vs.length) (hx : (gateRow N.ar l)[c]? = some x) {i s : Nat} (hi : arcs[i]? = some s) (hnd : arcs.Nodup) (p : Nat) (d : Int) (hr : Rch (StF L) i p d) : ∃ e, Rch (StF L) i p e ∧ e ≤ MB := by
 obtain ⟨a, ha, h1⟩ := h.fwd hok hl hx hi hr
 obtain ⟨e, h2, h3⟩ := rchA_bd hok a d h1
 obtain ⟨q, hq, h4⟩ := h.bwd hok hl hx hi h2
 have : q = p := (List.getElem?_inj (List.getElem?_eq_some_iff.1 hq).1 hnd).1 (hq.trans ha.symm)
 subst this
 exact ⟨e, h4, h3⟩
end

/-! By kids: each place an arc that enters a kid. -/
def StC (N : NetD) (lb : List Int) (x : GateD) : StepR := fun a m d => ∃ v, (∃ y z, N.ar[a]? = some y ∧ N.ar[m]? = some z ∧ cellOf lb y.1 ≠ cellOf lb y.2.1 ∧ cellOf lb z.1 = cellOf lb y.2.1 ∧ cellOf lb z.2.1 ≠ cellOf lb y.2.1 ∧ z.2.2 ≠ 1152921504606846976 ∧ d = v + z.2.2 ∧
 EntC N (mkOf lb (cellOf lb y.2.1)) a m v) ∧ v ≠ 1152921504606846976 ∧ (m : Int) ∉ x.2
def OuC (N : NetD) (lb : List Int) (x : GateD) : StepR := fun a m v => (∃ y z, N.ar[a]? = some y ∧ N.ar[m]? = some z ∧ cellOf lb y.1 ≠ cellOf lb y.2.1 ∧ cellOf lb z.1 = cellOf lb y.2.1 ∧ cellOf lb z.2.1 ≠ cellOf lb y.2.1 ∧
 EntC N (mkOf lb (cellOf lb y.2.1)) a m v) ∧ v ≠ 1152921504606846976 ∧ (m : Int) ∈ x.2
def StK (N : NetD) (l lb : List Int) (c : Nat) : StepR := fun a b d => StA N (mkOf l c) a b d ∧ cellOf lb (frV N b) = cellOf lb (toV N b)
section
variable {N : NetD} {l lb : List Int} {c : Nat} {x : GateD}
theorem kid_fwd (hok : NetOk N) (hl : l.length = N.vs.length) (hb : lb.length = N.vs.length) {a p : Nat} {y : Tri} {d : Int} (hy : N.ar[a]? = some y) (hr : Rch (StK N l lb c) a p d) :
 Rch (StA N (mkOf lb (cellOf lb y.2.1))) a p d ∧ ∃ z, N.ar[p]? = some z ∧ cellOf lb z.2.1 = cellOf lb y.2.1 := by
 induction hr with
 | start => exact ⟨.start, y, hy, rfl⟩
 | @step p q d e _ h2 ih =>
  obtain ⟨ih, z, hz, hc⟩ := ih
  obtain ⟨h3, h4⟩ := h2
  obtain ⟨z', w, hz', hw, e1, h5, h6, h7, h8, rfl⟩ := (stA_iff hok hl).1 h3
  rw [hz] at hz'
  cases hz'
  obtain ⟨t1, t2, t3⟩ := toV_at hw
  rw [t1, t2] at h4
  refine ⟨ih.step ((stA_iff hok hb).2 ⟨z, w, hz, hw, e1, h5, h6, by rw [← e1]; exact hc, ?_, rfl⟩), w, hw, ?_⟩
  · rw [← h4, ← e1]; exact hc
  · rw [← h4, ← e1]; exact hc
theorem kid_in (hok : NetOk N) (hl : l.length = N.vs.length) (hb : lb.length = N.vs.length) (hn : NestOk lb l) {y z : Tri} (hy : y ∈ N.ar) (u v : Int) (hu : u = y.2.1) (hv : v = z.2.1 ∨ v = z.1) (hz : z ∈ N.ar) (h : cellOf lb u = cellOf lb v) : cellOf l u = cellOf l v := by
 have o1 := hok.arcs y hy
 have o2 := hok.arcs z hz
 have a0 := o1.g0; have a1 := o1.g1; have b0 := o2.g0; have b1 := o2.g1; have c0 := o2.f0; have c1 := o2.f1
 apply Classical.byContradiction
 intro hne
 have hu0 : 0 ≤ u ∧ u < N.vs.length := by subst hu; exact ⟨a0, a1⟩
 have hv0 : 0 ≤ v ∧ v < N.vs.length := by rcases hv with rfl | rfl <;> omega
 obtain ⟨u', rfl⟩ : ∃ u' : Nat, u = (u' : Int) := ⟨u.toNat, by omega⟩
 obtain ⟨v', rfl⟩ : ∃ v' : Nat, v = (v' : Int) := ⟨v.toNat, by omega⟩
 exact apart_below hn hl hb (by omega) (by omega) hne h
theorem kid_bwd (hok : NetOk N) (hl : l.length = N.vs.length) (hb : lb.length = N.vs.length) (hn : NestOk lb l) {a p : Nat} {y : Tri} {d : Int} (hy : N.ar[a]? = some y) (hc : cellOf l y.2.1 = c) (hr : Rch (StA N (mkOf lb (cellOf lb y.2.1))) a p d) :
 Rch (StK N l lb c) a p d := by
 induction hr with
 | start => exact .start
 | @step p q d e _ h2 ih =>
  obtain ⟨z, w, hz, hw, e1, h5, h6, h7, h8, rfl⟩ := (stA_iff hok hb).1 h2
  have m1 := List.mem_of_getElem? hy
  have m2 := List.mem_of_getElem? hw
  obtain ⟨t1, t2, t3⟩ := toV_at hw
  refine ih.step ⟨(stA_iff hok hl).2 ⟨z, w, hz, hw, e1, h5, h6, ?_, ?_, rfl⟩, by rw [t1, t2, h7, h8]⟩
  · rw [← kid_in hok hl hb hn m1 y.2.1 w.1 rfl (.inr rfl) m2 h7.symm]; exact hc
  · rw [← kid_in hok hl hb hn m1 y.2.1 w.2.1 rfl (.inl rfl) m2 h8.symm]; exact hc
def InKid (N : NetD) (l lb : List Int) (c : Nat) (a : Nat) : Prop := ∃ y, N.ar[a]? = some y ∧ cellOf lb y.1 ≠ cellOf lb y.2.1 ∧ cellOf l y.2.1 = c
theorem nested (hok : NetOk N) (hl : l.length = N.vs.length) (hb : lb.length = N.vs.length) (hn : NestOk lb l) (hx : (gateRow N.ar l)[c]? = some x)
 (hE : ∀ a m y z, InKid N l lb c a → N.ar[a]? = some y → N.ar[m]? = some z → cellOf lb z.1 = cellOf lb y.2.1 → cellOf lb z.2.1 ≠ cellOf lb y.2.1 → ∃ v, EntC N (mkOf lb (cellOf lb y.2.1)) a m v) {k : Nat} (hk : (k : Int) ∈ x.2) :
 Nested (StA N (mkOf l c)) (fun a t d => OuA N a t d ∧ t = k) (StK N l lb c) (fun a m v => ∃ y, N.ar[a]? = some y ∧ EntC N (mkOf lb (cellOf lb y.2.1)) a m v) (fun a m d => StC N lb x a m d ∧ InKid N l lb c a ∧ InKid N l lb c m) (fun a t d => OuC N lb x a t d ∧ InKid N l lb c a ∧ t = k) (InKid N l lb c) (wV N) (OuA N) where
 sub := fun p q d h => h.1
 split := fun p q d h => by
  obtain ⟨z, w, hz, hw, e1, h5, h6, h7, h8, rfl⟩ := (stA_iff hok hl).1 h
  obtain ⟨t1, t2, t3⟩ := toV_at hw
  by_cases hc : cellOf lb w.1 = cellOf lb w.2.1
  · exact .inl ⟨h, by rw [t1, t2]; exact hc⟩
  · have := (wOk_bd (hok.arcs w (List.mem_of_getElem? hw)).w).resolve_left h6
    exact .inr ⟨⟨w, hw, hc, h8⟩, _, ⟨h5, rfl⟩, by rw [t3], by rw [t3]; exact this.1⟩
 join := fun a p q c' t _ _ h1 ⟨d, h2, _⟩ => by
  obtain ⟨z, w, hz, hw, e1, h5, h6, h7, h8, rfl⟩ := (stA_iff hok hl).1 h2
  obtain ⟨t1, t2, t3⟩ := toV_at hw
  obtain ⟨_, rfl⟩ := h1
  rw [t3]
  exact h2
 cst := fun a q d h => by
  obtain ⟨⟨v, ⟨y, z, hy, hz, h1, h2, h3, h4, rfl, h5⟩, h6, h7⟩, h8, h9⟩ := h
  refine ⟨h8, h9, v, ⟨y, hy, h5⟩, by rw [(toV_at hz).2.2], ?_⟩
  rcases h5 with ⟨⟨p, c1, t, g1, g2, rfl⟩, _⟩ | ⟨g, _⟩
  · obtain ⟨y', hy', _, hcy⟩ := h8
    rw [hy] at hy'
    cases hy'
    refine ⟨p, c1, t, kid_bwd hok hl hb hn hy hcy g1, g2, rfl, ?_⟩
    obtain ⟨g3, rfl⟩ := g2
    obtain ⟨w, z', hw, hz', e⟩ := turnN_meet g3
    rw [hz] at hz'
    cases hz'
    obtain ⟨z', hz', _, hcz⟩ := h9
    rw [hz] at hz'
    cases hz'
    have m1 := List.mem_of_getElem? hy
    have m2 := List.mem_of_getElem? hz
    refine (stA_iff hok hl).2 ⟨w, z, hw, hz, e, g3, h4, ?_, hcz, by rw [(toV_at hz).2.2]⟩
    rw [← kid_in hok hl hb hn m1 y.2.1 z.1 rfl (.inr rfl) m2 h2.symm]
    exact hcy
  · exact absurd g h6
 cst2 := fun a p q c' t hin hr ht hq hst hns => by
  obtain ⟨y, hy, h1, h2⟩ := hin
  obtain ⟨g1, u, hu, g2⟩ := kid_fwd hok hl hb hy hr
  obtain ⟨z, w, hz, hw, e1, h5, h6, h7, h8, h9⟩ := (stA_iff hok hl).1 hst
  rw [hu] at hz
  cases hz
  obtain ⟨t1, t2, t3⟩ := toV_at hw
  have hne : cellOf lb w.1 ≠ cellOf lb w.2.1 := fun e => hns ⟨hst, by rw [t1, t2]; exact e⟩
  have hf : cellOf lb w.1 = cellOf lb y.2.1 := by rw [← e1]; exact g2
  obtain ⟨v, hv⟩ := hE a q y w ⟨y, hy, h1, h2⟩ hy hw hf (by rw [← hf]; exact fun e => hne e.symm)
  have hle : v ≤ c' + t ∧ v ≠ 1152921504606846976 := by
   rcases hv with ⟨⟨p', c1, t', k1, k2, rfl⟩, k3⟩ | ⟨_, k3⟩
   · refine ⟨k3 _ ⟨p, c', t, g1, ht, rfl⟩, ?_⟩
     have b1 := (EntC.bd hok (N := N) (v := c1 + t') (s := a) (t := q) (mk := mkOf lb (cellOf lb y.2.1)) (.inl ⟨⟨p', c1, t', k1, k2, rfl⟩, k3⟩))
     obtain ⟨e, h10, h11⟩ := rchA_bd hok p' c1 k1
     have b2 := OuA.bd hok k2
     have := k3 _ ⟨p', e, t', h10, k2, rfl⟩
     unfold MB at h11
     omega
   · exact absurd ⟨p, c', t, g1, ht, rfl⟩ (k3 _)
  refine ⟨v + w.2.2, ⟨⟨v, ⟨y, w, hy, hw, h1, hf, by rw [← hf]; exact fun e => hne e.symm, h6, rfl, hv⟩, hle.2, fun hm => ?_⟩, ⟨y, hy, h1, h2⟩, hq⟩, by rw [t3]; omega⟩
  obtain ⟨w', hw', _, hn'⟩ := (gate_out hx).1 hm
  rw [hw] at hw'
  cases hw'
  exact hn' h8
 cout := fun a k' d h => by
  obtain ⟨⟨⟨y, z, hy, hz, h1, h2, h3, h5⟩, h6, h7⟩, h8, rfl⟩ := h
  rcases h5 with ⟨⟨p, c1, t, g1, g2, rfl⟩, _⟩ | ⟨g, _⟩
  · obtain ⟨y', hy', _, hcy⟩ := h8
    rw [hy] at hy'
    cases hy'
    exact ⟨p, c1, t, kid_bwd hok hl hb hn hy hcy g1, ⟨g2, rfl⟩, rfl⟩
  · exact absurd g h6
 cout2 := fun a p k' c' t hin hr ht => by
  obtain ⟨ht, rfl⟩ := ht
  obtain ⟨y, hy, h1, h2⟩ := hin
  obtain ⟨g1, u, hu, g2⟩ := kid_fwd hok hl hb hy hr
  obtain ⟨w, z, hw, hz, e⟩ := turnN_meet ht.1
  rw [hu] at hw
  cases hw
  have hf : cellOf lb z.1 = cellOf lb y.2.1 := by rw [← e]; exact g2
  obtain ⟨z', hz', k1, k2⟩ := (gate_out hx).1 hk
  rw [hz] at hz'
  cases hz'
  have hne : cellOf lb z.2.1 ≠ cellOf lb y.2.1 := fun e2 => by
   have m1 := List.mem_of_getElem? hy
   have m2 := List.mem_of_getElem? hz
   have := kid_in hok hl hb hn m1 y.2.1 z.2.1 rfl (.inl rfl) m2 e2.symm
   exact k2 (this.symm.trans h2)
  obtain ⟨v, hv⟩ := hE a k' y z ⟨y, hy, h1, h2⟩ hy hz hf hne
  have hle : v ≤ c' + t ∧ v ≠ 1152921504606846976 := by
   rcases hv with ⟨⟨p', c1, t', j1, j2, rfl⟩, k3⟩ | ⟨_, k3⟩
   · refine ⟨k3 _ ⟨p, c', t, g1, ht, rfl⟩, ?_⟩
     obtain ⟨e, h10, h11⟩ := rchA_bd hok p' c1 j1
     have b2 := OuA.bd hok j2
     have := k3 _ ⟨p', e, t', h10, j2, rfl⟩
     unfold MB at h11
     omega
   · exact absurd ⟨p, c', t, g1, ht, rfl⟩ (k3 _)
  exact ⟨v, ⟨⟨⟨y, z, hy, hz, h1, hf, hne, hv⟩, hle.2, hk⟩, ⟨y, hy, h1, h2⟩, rfl⟩, hle.1⟩
end
end Go.Proofs.YtgkeolddpielpaaGreat

namespace Go.Proofs.YtgkeolddpielpaaGreat
open Go.RowKit

structure StO (N : NetD) (x : GateD) (arcs : List Nat) (a : Nat) (Gone : Nat → Prop) (l : List Stp) : Prop where
 snd : ∀ s ∈ l, ∃ b, turnN N a b ≠ 1152921504606846976 ∧ ((∃ k : Nat, x.2[k]? = some (b : Int) ∧ s.2.1 = (k : Int) ∧ s.2.2 = turnN N a b) ∨ ((b : Int) ∉ x.2 ∧ wV N b ≠ 1152921504606846976 ∧ s.2.1 < 0 ∧ arcs[s.1]? = some b ∧ s.2.2 = turnN N a b + wV N b))
 outC : ∀ b (k : Nat), Gone b → turnN N a b ≠ 1152921504606846976 → x.2[k]? = some (b : Int) → ∃ s ∈ l, s.2.1 = (k : Int) ∧ s.2.2 = turnN N a b
 toC : ∀ b, Gone b → turnN N a b ≠ 1152921504606846976 → (b : Int) ∉ x.2 → wV N b ≠ 1152921504606846976 → ∃ s ∈ l, s.2.1 < 0 ∧ arcs[s.1]? = some b ∧ s.2.2 = turnN N a b + wV N b
section
variable {N : NetD} {x : GateD} {arcs : List Nat} {a b : Nat} {Gone : Nat → Prop} {l : List Stp}
theorem StO.nil (N : NetD) (x : GateD) (arcs : List Nat) (a : Nat) : StO N x arcs a (fun _ => False) [] := ⟨fun s h => (by cases h), fun b k h => h.elim, fun b h => h.elim⟩
theorem StO.gone {G' : Nat → Prop} (h : StO N x arcs a Gone l) (hg : ∀ b, G' b → turnN N a b ≠ 1152921504606846976 → Gone b) : StO N x arcs a G' l :=
 ⟨h.snd, fun b k g t e => h.outC b k (hg b g t) t e, fun b g t => h.toC b (hg b g t) t⟩
theorem StO.more (h : StO N x arcs a Gone l) (z : Nat) : StO N x (arcs ++ [z]) a Gone l := by
 have key : ∀ {i : Nat} {b : Nat}, arcs[i]? = some b → (arcs ++ [z])[i]? = some b := fun {i b} h => by
  rw [List.getElem?_append_left (List.getElem?_eq_some_iff.1 h).1]; exact h
 refine ⟨fun s hs => ?_, h.outC, fun b g t m w => ?_⟩
 · obtain ⟨b, h1, h2⟩ := h.snd s hs
   exact ⟨b, h1, h2.imp id (fun ⟨k1, k2, k3, k4, k5⟩ => ⟨k1, k2, k3, key k4, k5⟩)⟩
 · obtain ⟨s, h1, h2, h3, h4⟩ := h.toC b g t m w
   exact ⟨s, h1, h2, key h3, h4⟩
theorem StO.skip (h : StO N x arcs a Gone l) (hb : turnN N a b = 1152921504606846976 ∨ ((b : Int) ∉ x.2 ∧ wV N b = 1152921504606846976)) : StO N x arcs a (fun q => Gone q ∨ q = b) l := by
 refine ⟨h.snd, fun q k g t e => ?_, fun q g t m w => ?_⟩
 · rcases g with g | rfl
   · exact h.outC q k g t e
   · rcases hb with hb | hb
     · exact absurd hb t
     · exact absurd (List.mem_of_getElem? e) hb.1
 · rcases g with g | rfl
   · exact h.toC q g t m w
   · rcases hb with hb | hb
     · exact absurd hb t
     · exact absurd hb.2 w
theorem nodup_at {l : List Int} (h : l.Pairwise (· < ·)) {i j : Nat} {v : Int} (hi : l[i]? = some v) (hj : l[j]? = some v) : i = j := by
 have h1 := plI_sorted h hi
 have h2 := plI_sorted h hj
 rw [h1] at h2
 omega
theorem StO.out (h : StO N x arcs a Gone l) (hs : x.2.Pairwise (· < ·)) (ht : turnN N a b ≠ 1152921504606846976) {k : Nat} (hk : x.2[k]? = some (b : Int)) : StO N x arcs a (fun q => Gone q ∨ q = b) (l ++ [(0, (k : Int), turnN N a b)]) := by
 refine ⟨fun s hs => ?_, fun q k' g t e => ?_, fun q g t m w => ?_⟩
 · rcases List.mem_append.1 hs with hs | hs
   · exact h.snd s hs
   · obtain rfl := List.mem_singleton.1 hs
     exact ⟨b, ht, .inl ⟨k, hk, rfl, rfl⟩⟩
 · rcases g with g | rfl
   · obtain ⟨s, h1, h2⟩ := h.outC q k' g t e
     exact ⟨s, List.mem_append_left _ h1, h2⟩
   · obtain rfl := nodup_at hs hk e
     exact ⟨_, List.mem_append_right _ (List.mem_singleton.2 rfl), rfl, rfl⟩
 · rcases g with g | rfl
   · obtain ⟨s, h1, h2⟩ := h.toC q g t m w
     exact ⟨s, List.mem_append_left _ h1, h2⟩
   · exact absurd (List.mem_of_getElem? hk) m
theorem StO.to (h : StO N x arcs a Gone l) (ht : turnN N a b ≠ 1152921504606846976) (hm : (b : Int) ∉ x.2) (hw : wV N b ≠ 1152921504606846976) {p : Nat} (hp : arcs[p]? = some b) : StO N x arcs a (fun q => Gone q ∨ q = b) (l ++ [(p, -1, turnN N a b + wV N b)]) := by
 refine ⟨fun s hs => ?_, fun q k' g t e => ?_, fun q g t m w => ?_⟩
 · rcases List.mem_append.1 hs with hs | hs
   · exact h.snd s hs
   · obtain rfl := List.mem_singleton.1 hs
     exact ⟨b, ht, .inr ⟨hm, hw, (by decide : (-1 : Int) < 0), hp, rfl⟩⟩
 · rcases g with g | rfl
   · obtain ⟨s, h1, h2⟩ := h.outC q k' g t e
     exact ⟨s, List.mem_append_left _ h1, h2⟩
   · exact absurd (List.mem_of_getElem? e) hm
 · rcases g with g | rfl
   · obtain ⟨s, h1, h2⟩ := h.toC q g t m w
     exact ⟨s, List.mem_append_left _ h1, h2⟩
   · exact ⟨_, List.mem_append_right _ (List.mem_singleton.2 rfl), (by decide : (-1 : Int) < 0), hp, rfl⟩
end
structure ArcsI (N : NetD) (l : List Int) (c : Nat) (arcs : List Nat) (f : Nat → Option Nat) : Prop where
 at_ : ∀ a ∈ arcs, ∃ y, N.ar[a]? = some y ∧ cellOf l y.2.1 = c
 map : ∀ b p, f b = some p ↔ arcs[p]? = some b
theorem ArcsI.nodup {N : NetD} {l : List Int} {c : Nat} {arcs : List Nat} {f : Nat → Option Nat} (h : ArcsI N l c arcs f) : arcs.Nodup := by
 rw [List.Nodup, List.pairwise_iff_getElem]
 intro i j hi hj hij e
 have h1 := (h.map (arcs[i]) i).2 (List.getElem?_eq_getElem hi)
 have h2 := (h.map (arcs[i]) j).2 (by rw [List.getElem?_eq_getElem hj, e])
 rw [h1] at h2
 injection h2 with h2
 omega
theorem ArcsI.len {N : NetD} {l : List Int} {c : Nat} {arcs : List Nat} {f : Nat → Option Nat} (h : ArcsI N l c arcs f) : arcs.length ≤ N.ar.length :=
 nodup_le N.ar.length arcs h.nodup (fun a ha => by obtain ⟨y, hy, _⟩ := h.at_ a ha; exact (List.getElem?_eq_some_iff.1 hy).1)
theorem ArcsI.push {N : NetD} {l : List Int} {c b : Nat} {arcs : List Nat} {f : Nat → Option Nat} (h : ArcsI N l c arcs f) {y : Tri} (hy : N.ar[b]? = some y) (hc : cellOf l y.2.1 = c) (hno : f b = none) : ArcsI N l c (arcs ++ [b]) (fun q => if q = b then some arcs.length else f q) := by
 refine ⟨fun a ha => ?_, fun q p => ?_⟩
 · rcases List.mem_append.1 ha with ha | ha
   · exact h.at_ a ha
   · obtain rfl := List.mem_singleton.1 ha
     exact ⟨y, hy, hc⟩
 · by_cases e : q = b
   · subst e
     rw [if_pos rfl]
     constructor
     · intro e2; injection e2 with e2; subst e2; rw [List.getElem?_append_right (Nat.le_refl _), Nat.sub_self]; rfl
     · intro e2
       rcases Nat.lt_trichotomy p arcs.length with h1 | h1 | h1
       · rw [List.getElem?_append_left h1] at e2
         have := (h.map q p).2 e2
         rw [hno] at this
         cases this
       · rw [h1]
       · rw [List.getElem?_eq_none (by simp; omega)] at e2
         cases e2
   · rw [if_neg e]
     rw [h.map]
     rcases Nat.lt_trichotomy p arcs.length with h1 | h1 | h1
     · rw [List.getElem?_append_left h1]
     · subst h1
       rw [List.getElem?_append_right (Nat.le_refl _), Nat.sub_self, List.getElem?_eq_none (Nat.le_refl _)]
       constructor
       · intro h; cases h
       · intro h; injection h with h; exact absurd h.symm e
     · have h2 : (arcs ++ [b])[p]? = none := List.getElem?_eq_none (by rw [List.length_append, List.length_singleton]; omega)
       have h3 : arcs[p]? = none := List.getElem?_eq_none (by omega)
       rw [h2, h3]
theorem FldA.of {N : NetD} {l : List Int} {c : Nat} {x : GateD} {arcs : List Nat} {f : Nat → Option Nat} {Ls : List (List Stp)} (h : ArcsI N l c arcs f) (hl : Ls.length = arcs.length) (hs : ∀ (p a : Nat) (t : List Stp), arcs[p]? = some a → Ls[p]? = some t → StO N x arcs a (fun _ => True) t) :
 FldA N l c x arcs (fun p => Ls.getD p []) := by
 have key : ∀ p a, arcs[p]? = some a → StO N x arcs a (fun _ => True) (Ls.getD p []) := fun p a ha => by
  have hp := (List.getElem?_eq_some_iff.1 ha).1
  exact hs p a _ ha (getD_lt [] (by omega))
 exact ⟨h.at_, fun p a ha s hs => (key p a ha).snd s hs, fun p a b k ha ht hk => (key p a ha).outC b k trivial ht hk, fun p a b ha ht hm hw => (key p a ha).toC b trivial ht hm hw⟩
theorem FldA.fld {N : NetD} (hok : NetOk N) {l : List Int} {c : Nat} {x : GateD} {arcs : List Nat} {Ls : List (List Stp)} (h : FldA N l c x arcs (fun p => Ls.getD p [])) : FldOk (fun p => Ls.getD p []) arcs.length x.2.length 4294967296 := by
 have key : ∀ p, p < arcs.length → ∀ s ∈ Ls.getD p [], (s.2.1 < 0 → s.1 < arcs.length) ∧ s.2.1 < x.2.length ∧ 0 ≤ s.2.2 ∧ s.2.2 ≤ 4294967296 := fun p hp s hs => by
  obtain ⟨b, h1, h2⟩ := h.snd p _ (List.getElem?_eq_getElem hp) s hs
  have hb := (turnN_bd hok _ b).resolve_left h1
  rcases h2 with ⟨k, h3, h4, h5⟩ | ⟨h3, h4, h5, h6, h7⟩
  · have hk := (List.getElem?_eq_some_iff.1 h3).1
    exact ⟨fun e => by omega, by omega, by omega, by omega⟩
  · obtain ⟨xa, y, _, hy, _⟩ := turnN_meet h1
    rw [(toV_at hy).2.2] at h4 h7
    have hw := (wOk_bd (hok.arcs y (List.mem_of_getElem? hy)).w).resolve_left h4
    exact ⟨fun _ => (List.getElem?_eq_some_iff.1 h6).1, by omega, by omega, by omega⟩
 exact ⟨fun p hp s hs => (key p hp s hs).1, fun p hp s hs => (key p hp s hs).2.1, fun p hp s hs => (key p hp s hs).2.2⟩
end Go.Proofs.YtgkeolddpielpaaGreat
