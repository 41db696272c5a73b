/- Parts of the proof: QCo2, QCo3. -/
import Derived.Test.YtpffhoefmcpniaaGreatDoorW1
import Derived.Test.YtpffhoefmcpniaaGreatDoorW4
import Derived.Test.YtpffhoefmcpniaaGreatDoorShelf3
/- line.Order and its laws (out of XA5, XA6, XPl1, for the cut of the cards) -/
namespace Go.Proofs.YtpffhoefmcpniaaGreatDoor
open Go.Lib Go.RowKit Go.Shelf Go.Sort


instance inhFin (n : Nat) [NeZero n] : Inhabited (Fin n) := ⟨0⟩

/-- What the sort leaves of a row that is a whole block. -/
theorem blk_sortWorld {α : Type} [Inhabited α] (enc : α → Value) (w : World) (g t : Nat) (c : Array Value) (d : Array α) (n : Nat) (os : Array Obj) (h : Blk w g t c) (hs : d.size = c.size) :
    Blk (sortWorld enc w g 0 n d os) g t (d.map enc) := by
  have hlt : g < (putRow enc (Sort.ahead w n) g 0 d).heap.size := by
    have := h.lt
    simpa [putRow, mapBlock, Sort.ahead] using this
  unfold Blk sortWorld
  rw [heap_grow_old _ _ hlt]
  have hb : (Sort.ahead w n).heap[g]? = some (.cells c t (0, 0)) := h
  simp only [putRow, mapBlock, Array.getElem?_modify, hb, if_true, Option.map_some, onCells]
  congr 2
  apply Array.ext_getElem?
  intro k
  simp only [putCells, Array.getElem?_mapIdx, Array.getElem?_map]
  by_cases hk : k < c.size
  · rw [Array.getElem?_eq_getElem hk, Array.getElem?_eq_getElem (by omega : k < d.size), Option.map_some, Option.map_some, if_pos ⟨by omega, by omega⟩]
    rw [getElem!_pos d (k - 0) (by omega)]
    rfl
  · rw [Array.getElem?_eq_none (by omega), Array.getElem?_eq_none (by omega)]
    rfl

theorem grownBy_sortWorld {α : Type} [Inhabited α] (enc : α → Value) (w : World) (g : Nat) (d : Array α) (n : Nat) (os : Array Obj) : w.grownBy (sortWorld enc w g 0 n d os) (some g) where
  os := rfl
  tape := rfl
  output := rfl
  size := by simp [sortWorld, putRow, mapBlock, Sort.ahead]
  block := by
    intro k hk hne
    have hne' : k ≠ g := fun e => hne (by rw [e])
    have hlt : k < (putRow enc (Sort.ahead w n) g 0 d).heap.size := by simpa [putRow, mapBlock, Sort.ahead] using hk
    unfold sortWorld
    rw [heap_grow_old _ _ hlt]
    simp only [putRow, mapBlock, Array.getElem?_modify]
    rw [if_neg (by omega)]
    rfl

/-- The row of the places 0 to n - 1, sorted. -/
def iota (n : Nat) : List Int := (List.range n).map (fun i : Nat => (i : Int))
def sortIdx (cf : Int → Int → Int) (n : Nat) : List Int := ((List.finRange n).mergeSort (fun x y => !decide (cf y x < 0))).map (fun x => (x.val : Int))

theorem sortPlaces (cb : Array Value) (cf : Int → Int → Int) (n c g : Nat) (hn : 0 < n) (hbig : n < 4611686018427387904) (w : World) (hB : Blk w g 3 (ints (iota n)))
    (hirr : ∀ x, x < n → ¬ cf x x < 0)
    (htr : ∀ x y z, x < n → y < n → z < n → cf x y < 0 → cf y z < 0 → cf x z < 0)
    (htot : ∀ x y : Nat, x < n → y < n → ¬ cf x y < 0 → ¬ cf y x < 0 → x = y)
    (hcmp : ∀ (W : World) (x y : Nat), x < n → y < n → w.grownBy W (some g) → Calls Tryz.prog 117 (#[.int .i64 x, .int .i64 y] ++ cb) W fun e W' => e = .returned (.int .i64 (cf x y)) ∧ ∃ q, W' = W.drewN q) :
    Calls Tryz.prog 116 #[.slice (some ⟨g, 0, none⟩) n c, .func (.func 117) #[] cb] w fun e w' =>
      e = .returned (.tuple #[]) ∧ Blk w' g 3 (ints (sortIdx cf n)) ∧ w.grownBy w' (some g) := by
  haveI : NeZero n := ⟨by omega⟩
  have eg : ∀ args w, (callFunc 117 args).run Tryz.prog w = .ok (.enter 117 args) w := enters_of Tryz.func117 (by kernel_rfl) rfl
  let enc : Fin n → Value := fun x => .int .i64 (x.val : Int)
  let cfn : Fin n → Fin n → Int := fun x y => cf x.val y.val
  let d : Array (Fin n) := (List.finRange n).toArray
  have hds : d.size = n := by simp [d]
  have hdg : ∀ j (hj : j < n), d[j]! = ⟨j, hj⟩ := fun j hj => by
    rw [getElem!_pos d j (by omega)]
    simp [d]
  have hlt : ∀ x y : Fin n, ltOf cfn x y = decide (cf x.val y.val < 0) := fun x y => rfl
  have hO : SWO (ltOf cfn) := {
    irrefl := fun x => by rw [hlt]; simpa using hirr x.val x.isLt
    trans := fun x y z h1 h2 => by
      rw [hlt] at *
      simp only [decide_eq_true_eq] at *
      exact htr _ _ _ x.isLt y.isLt z.isLt h1 h2
    ntrans := fun x y z h1 h2 => by
      rw [hlt] at *
      simp only [decide_eq_false_iff_not] at *
      intro h3
      by_cases hyx : cf y.val x.val < 0
      · exact h2 (htr _ _ _ y.isLt x.isLt z.isLt hyx h3)
      · have := htot _ _ x.isLt y.isLt h1 hyx
        rw [this] at h3
        exact h2 h3 }
  have hT : ∀ x y, ltOf cfn x y = false → ltOf cfn y x = false → x = y := fun x y h1 h2 => by
    rw [hlt] at *
    simp only [decide_eq_false_iff_not] at *
    exact Fin.ext (htot _ _ x.isLt y.isLt h1 h2)
  have hH : Holds enc w g 0 d := fun j hj => by
    rw [hds] at hj
    rw [Nat.zero_add, hdg j hj]
    exact ⟨hB.cellI (by simp [iota, hj]), hB.frozen _⟩
  have hC : CmpLays1 Tryz.prog 117 cb enc cfn g 0 d.size w := fun m os dk hs x y =>
    (hcmp _ x.val y.val x.isLt y.isLt (grownBy_sortWorld enc w g dk m os)).mono fun _ _ ⟨he, q, hq⟩ => ⟨he, q, #[], by rw [hq, grow_empty]⟩
  have hcon := Any.slices_SortFunc_total Tryz.sortPl enc (fun _ => rfl) cfn hO 117 cb g 0 c d w eg hC hH hB.lt (by omega) hT
  rw [hds] at hcon
  refine Calls.mono (show Calls Tryz.prog 116 _ _ _ from hcon) ?_
  rintro e w' ⟨rfl, q, os, rfl⟩
  refine ⟨rfl, ?_, grownBy_sortWorld enc w g _ q os⟩
  have h := blk_sortWorld enc w g 3 (ints (iota n)) ((d.toList.mergeSort fun x y => !ltOf cfn y x).toArray) q os hB (by simp [ints, iota, d])
  have he : ((d.toList.mergeSort fun x y => !ltOf cfn y x).toArray).map enc = ints (sortIdx cf n) := by
    simp [ints, sortIdx, d, enc, hlt, cfn]
  rw [he] at h
  exact h


/-- l's first k, then noughts. -/
def fillTo (l : List Int) (k n : Nat) : List Int := l.take k ++ List.replicate (n - k) 0
theorem fillTo_zero (l : List Int) (n : Nat) : fillTo l 0 n = List.replicate n 0 := by simp [fillTo]
theorem fillTo_all {l : List Int} {n : Nat} (h : l.length = n) : fillTo l n n = l := by simp [fillTo, ← h]
theorem fillTo_at {l : List Int} {k n : Nat} (h : l.length = n) (hk : k < n) : (fillTo l k n)[k]? = some 0 := by
  unfold fillTo
  rw [List.getElem?_append_right (by simp; omega), List.getElem?_replicate, if_pos (by simp; omega)]
theorem fillTo_set {l : List Int} {k n : Nat} {x : Int} (h : l.length = n) (hk : k < n) (hx : l[k]? = some x) : (fillTo l k n).set k x = fillTo l (k + 1) n := by
  unfold fillTo
  have hl : (l.take k).length = k := by simp; omega
  rw [List.set_append_right _ _ (by omega), hl, Nat.sub_self, List.take_add_one, hx, show n - k = (n - (k + 1)) + 1 by omega, List.replicate_succ]
  simp
theorem fillTo_len {l : List Int} {k n : Nat} (h : l.length = n) (hk : k ≤ n) : (fillTo l k n).length = n := by simp [fillTo]; omega

/-- The keys of the points; the places by the keys. -/
def keysOf (l : List (Int × Int)) (d : Int) : List Int := l.map (key · d)
def order (l : List (Int × Int)) (d : Int) : List Int := sortIdx (cmpK (keysOf l d)) l.length

set_option maxHeartbeats 1000000 in
set_option maxRecDepth 100000 in
theorem order_any (A : Option Addr) (n c : Nat) (l : List (Int × Int)) (d : Int) (w : World) (h : RdP w A n l) (hn : n ≤ 1000000000) (hd : 0 ≤ d) (hd' : d ≤ 3)
    (hb : ∀ p ∈ l, -1000000000000 ≤ p.1 ∧ p.1 ≤ 1000000000000 ∧ -1000000000000 ≤ p.2 ∧ p.2 ≤ 1000000000000) :
    Calls Tryz.prog 104 #[.slice A n c, .int .i64 d] w fun e w' => ∃ A', e = .returned (.slice A' n n) ∧ RdI w' A' n (order l d) ∧ Below w.heap.size w w' := by
  have hl : l.length = n := h.1
  have hmk := fun W => run_make1 (P := Tryz.prog) 27 3 (.int .i64 0) 8 Tryz.info3 Tryz.underlying27 rfl n (by omega) (by omega) .i64 .i64 W
  have HL := Lib.hid hl; clear hl
  have HB := Lib.hid hb; clear hb
  go_enter Tryz.func104, Tryz.ntmps104
  go_wp2
  go_loopw [17] (fun i W => ∃ k : Nat, k ≤ n ∧ i = .int .i64 k ∧ Blk W w.heap.size 3 (ints (fillTo (iota n) k n)) ∧ Blk W (w.heap.size + 1) 3 (ints (fillTo (keysOf l d) k n)) ∧
      Blk W (w.heap.size + 1 + 1) 27 #[.slice (some ⟨w.heap.size + 1, 0, none⟩) n n] ∧ Below w.heap.size w W) (fun i _ => n - (intOf i).toNat)
  case atStart =>
    refine ⟨0, Nat.zero_le _, rfl, ?_, ?_, ?_, ?_⟩
    · rw [fillTo_zero, ← zeros_int]; exact ((Blk.new w _ _).alloc _).alloc _
    · rw [fillTo_zero, ← zeros_int]; exact (Blk.new' (w.alloc _) _ _ (by simp)).alloc _
    · exact Blk.new' ((w.alloc _).alloc _) _ _ (by simp)
    · exact bELt
  case round =>
    obtain ⟨k, hk, rfl, h1, h2, h3, hbl⟩ := hrel
    by_cases hlt : k < n
    · obtain ⟨b, o, x, y, rfl, hx, hcx, hcy⟩ := (h.below hbl).at_ hlt
      have HX := Lib.hid hx; clear hx
      have hkey : (keysOf l d)[k]? = some (key (x, y) d) := by simp [keysOf, HX.out]
      have hbd := HB.out _ (List.mem_of_getElem? HX.out)
      have c1 : ∀ o, (wr.alloc o).cell? ⟨w.heap.size, k, none⟩ = some (.int .i64 0) := fun o => (h1.alloc o).cellI (fillTo_at (by simp [iota]) hlt)
      have f1 : ∀ o, (wr.alloc o).frozen? ⟨w.heap.size, k, none⟩ = false := fun o => (h1.alloc o).frozen k
      have hs : w.heap.size + 2 < wr.heap.size := h3.lt
      have HK := Lib.hid hkey; clear hkey
      go_wp2
      (refine wp_named ?_; intro W hW)
      have g1 : Blk W w.heap.size 3 (ints (fillTo (iota n) (k + 1) n)) := by rw [hW]; exact (h1.alloc _).setI (fillTo_set (by simp [iota]) hlt (by simp [iota, hlt]))
      have g2 : Blk W (w.heap.size + 1) 3 (ints (fillTo (keysOf l d) k n)) := by rw [hW]; exact bLKt
      have g3 : Blk W (w.heap.size + 1 + 1) 27 #[.slice (some ⟨w.heap.size + 1, 0, none⟩) n n] := by rw [hW]; exact bLKt
      have g4 : Blk W wr.heap.size 127 #[.int .i64 x, .int .i64 y] := by rw [hW]; exact (Blk.new _ _ _).far (by simp; omega) _
      have g5 : Below w.heap.size w W := by
        have hz := hbl.size
        rw [hW]; exact (hbl.alloc hz _).setCell (Nat.le_refl _) _
      clear h1 h2 h3 hW c1 f1 hcx hcy
      have i1 : (0 : Int) ≤ (k : Int) := by omega
      have i2 : (k : Int) < (n : Int) := by omega
      have c2 : ∀ o, (W.alloc o).cell? ⟨w.heap.size + 1, k, none⟩ = some (.int .i64 0) := fun o => (g2.alloc o).cellI (fillTo_at (by simp [keysOf, HL.out]) hlt)
      have f2 : ∀ o, (W.alloc o).frozen? ⟨w.heap.size + 1, k, none⟩ = false := fun o => (g2.alloc o).frozen k
      have s1 : W.cell? ⟨w.heap.size + 1 + 1, 0, none⟩ = some (.slice (some ⟨w.heap.size + 1, 0, none⟩) n n) := g3.cell 0
      have s2 : W.cell? ⟨wr.heap.size, 0, none⟩ = some (.int .i64 x) := g4.cell 0
      have s3 : W.cell? ⟨wr.heap.size, 1, none⟩ = some (.int .i64 y) := g4.cell 1
      generalize hkk : key (x, y) d = kk at HK
      have HKK := Lib.hid hkk; clear hkk
      have hC : ∀ W', Calls Tryz.prog 115 #[.agg #[.int .i64 x, .int .i64 y], .int .i64 d] W' fun e w' => e = .returned (.int .i64 kk) ∧ ∃ q, w' = (W'.alloc (.cells #[.int .i64 x, .int .i64 y] 127)).drewN q := fun W' => by
        rw [← HKK.out]; exact key_any x y d W' (by omega) (by omega) (by omega) (by omega) hd hd'
      have HC := Lib.hid hC; clear hC
      go_region_held3 (fun V => V.cell? ⟨w.heap.size + 1 + 1, 0, none⟩ = some (.slice (some ⟨w.heap.size + 1, 0, none⟩) n n) ∧ V.cell? ⟨wr.heap.size, 0, none⟩ = some (.int .i64 x) ∧ V.cell? ⟨wr.heap.size, 1, none⟩ = some (.int .i64 y))
        (first | exact ⟨s1, s2, s3⟩ | exact ⟨(show Blk _ _ 27 #[.slice (some ⟨w.heap.size + 1, 0, none⟩) n n] from bLKt).cell 0, (show Blk _ _ 127 #[.int .i64 x, .int .i64 y] from bLKt).cell 0, (show Blk _ _ 127 #[.int .i64 x, .int .i64 y] from bLKt).cell 1⟩)
        (first | (go_at_call 115; (with_reducible refine (HC.out _).mono ?_); rintro e w' ⟨rfl, q, rfl⟩))
      clear c2 f2 s1 s2 s3
      go_wp2
      go_roundw
      case rel =>
        refine ⟨k + 1, by omega, by go_num, bLKt, ?_, bLKt, ?_⟩
        · exact Blk.setI bLKt (fillTo_set (by simp [keysOf, HL.out]) hlt HK.out)
        · have := g5.size
          exact bELt
      case measure => simp [intOf]; omega
    · obtain rfl : k = n := by omega
      rw [fillTo_all (by simp [iota])] at h1
      rw [fillTo_all (by simp [keysOf, HL.out])] at h2
      by_cases h0 : k = 0
      · subst h0
        have hS := fun W => AnyF.slices_SortFunc_none (P := Tryz.prog) (ρ := Tryz.sortPl_ren) { Tryz.sortPl with } (some ⟨w.heap.size, 0, none⟩) 0 (.func (.func 117) #[] #[.pointer (some ⟨w.heap.size + 1 + 1, 0, none⟩)]) W
        have hS' : ∀ W, Calls Tryz.prog 116 _ W _ := hS
        have HS := Lib.hid hS'; clear hS hS'
        go_wp2_with (go_at_call 116; (with_reducible refine (HS.out _).mono ?_); rintro e w' ⟨rfl, rfl⟩)
        go_ret
        have hlz : l = [] := List.eq_nil_of_length_eq_zero HL.out
        exact ⟨_, rfl, by rw [hlz]; exact ⟨by simp [order, sortIdx], fun i x hx => by simp [order, sortIdx] at hx⟩, hbl⟩
      · have HH := Lib.hid (sortPlaces #[.pointer (some ⟨w.heap.size + 1 + 1, 0, none⟩)] (cmpK (keysOf l d)) k k w.heap.size (by omega) (by omega) wr h1
          (fun x _ => by rw [cmpK_neg]; omega) (fun x y z _ _ _ h1 h2 => by rw [cmpK_neg] at *; omega) (fun x y _ _ h1 h2 => by rw [cmpK_neg] at *; omega)
          (fun W x y hx hy hg => by
            have hz := h3.lt
            have hb2 : Blk W (w.heap.size + 1) 3 (ints (keysOf l d)) := (hg.block _ (by omega) (by intro e; injection e; omega)).trans h2
            have hb3 : Blk W (w.heap.size + 1 + 1) 27 #[.slice (some ⟨w.heap.size + 1, 0, none⟩) k k] := (hg.block _ (by omega) (by intro e; injection e; omega)).trans h3
            exact order1_any (w.heap.size + 1 + 1) (w.heap.size + 1) k k (keysOf l d) x y hx hy (by simp [keysOf, HL.out]) W (hb3.cell 0) (hb2.rdI (by simp [keysOf, HL.out]))))
        go_wp2_with (go_at_call 116; (with_reducible refine (HH.out).mono ?_); rintro e w' ⟨rfl, hr, hg⟩)
        go_ret
        have hrd : RdI w' (some ⟨w.heap.size, 0, none⟩) k (order l d) := by
          have : order l d = sortIdx (cmpK (keysOf l d)) k := by unfold order; rw [HL.out]
          rw [this]
          exact hr.rdI (by simp [sortIdx])
        exact ⟨_, rfl, hrd, hbl.grown hg hbl.size (fun j hj => by cases hj; exact Nat.le_refl _)⟩

end Go.Proofs.YtpffhoefmcpniaaGreatDoor

/- Plain laws: the order by keys (XPl1, for the cut of the cards). No walk. -/
namespace Go.Proofs.YtpffhoefmcpniaaGreatDoor

/-- a stands ahead of b by the keys, of one key by place -/
def klt (ks : List Int) (a b : Int) : Prop := ks.getD a.toNat 0 < ks.getD b.toNat 0 ∨ (ks.getD a.toNat 0 = ks.getD b.toNat 0 ∧ a < b)
instance (ks : List Int) (a b : Int) : Decidable (klt ks a b) := by unfold klt; infer_instance
def IsOrd (ks : List Int) (n : Nat) (o : List Int) : Prop := o.Perm (iota n) ∧ o.Pairwise (klt ks)
instance (ks : List Int) (n : Nat) (o : List Int) : Decidable (IsOrd ks n o) := by unfold IsOrd; infer_instance

theorem iota_mem {n : Nat} {x : Int} : x ∈ iota n ↔ 0 ≤ x ∧ x < n := by
  unfold iota
  rw [List.mem_map]
  constructor
  · rintro ⟨i, hi, rfl⟩; rw [List.mem_range] at hi; omega
  · rintro ⟨h0, h1⟩; exact ⟨x.toNat, by rw [List.mem_range]; omega, by omega⟩
theorem iota_nodup (n : Nat) : (iota n).Nodup := by
  unfold iota
  exact List.Pairwise.map _ (fun a b h => by intro e; exact h (by omega)) List.nodup_range
theorem klt_trans {ks : List Int} {a b c : Int} (h1 : klt ks a b) (h2 : klt ks b c) : klt ks a c := by unfold klt at *; omega
theorem klt_irr {ks : List Int} {a : Int} : ¬ klt ks a a := by unfold klt; omega
theorem klt_tot {ks : List Int} {a b : Int} (h : a ≠ b) : klt ks a b ∨ klt ks b a := by unfold klt; omega

theorem isOrd_unique {ks : List Int} {n : Nat} {o o' : List Int} (h : IsOrd ks n o) (h' : IsOrd ks n o') : o = o' :=
  List.Perm.eq_of_pairwise (le := klt ks) (fun _ _ _ _ h1 h2 => absurd (klt_trans h1 h2) klt_irr) h.2 h'.2 (h.1.trans h'.1.symm)

theorem finRange_map (n : Nat) : (List.finRange n).map (fun x => (x.val : Int)) = iota n := by
  unfold iota
  apply List.ext_getElem?
  intro i
  simp only [List.getElem?_map]
  rcases Nat.lt_or_ge i n with h | h
  · rw [List.getElem?_eq_getElem (by simpa using h), List.getElem?_eq_getElem (by simpa using h)]
    simp
  · rw [List.getElem?_eq_none (by simpa using h), List.getElem?_eq_none (by simpa using h)]
    rfl

theorem sortIdx_ord (ks : List Int) (n : Nat) : IsOrd ks n (sortIdx (cmpK ks) n) := by
  have hk : ∀ a b : Int, cmpK ks a b < 0 ↔ klt ks a b := fun a b => by rw [cmpK_neg]; rfl
  have hp : (sortIdx (cmpK ks) n).Perm (iota n) := by
    unfold sortIdx
    rw [← finRange_map]
    exact (List.mergeSort_perm _ _).map _
  refine ⟨hp, ?_⟩
  have hnd : (sortIdx (cmpK ks) n).Nodup := hp.nodup_iff.2 (iota_nodup n)
  have hs : (sortIdx (cmpK ks) n).Pairwise (fun a b => ¬ klt ks b a) := by
    unfold sortIdx
    have h := List.pairwise_mergeSort (le := fun x y : Fin n => !decide (cmpK ks y.val x.val < 0))
      (fun a b c h1 h2 => by
        simp only [Bool.not_eq_true', decide_eq_false_iff_not, hk] at *
        intro h3
        by_cases hab : a.val = b.val
        · rw [hab] at h3; exact h2 h3
        · rcases klt_tot (ks := ks) (a := (a.val : Int)) (b := b.val) (by omega) with h4 | h4
          · exact h2 (klt_trans h3 h4)
          · exact h1 h4)
      (fun a b => by
        simp only [Bool.or_eq_true, Bool.not_eq_true', decide_eq_false_iff_not, hk]
        by_cases h : klt ks b.val a.val
        · right; intro h2; exact klt_irr (klt_trans h h2)
        · left; exact h)
      (List.finRange n)
    exact List.Pairwise.map _ (fun a b h => by simp only [Bool.not_eq_true', decide_eq_false_iff_not, hk] at h; exact h) h
  have := hs.and hnd
  exact this.imp (fun {a b} h => by
    rcases klt_tot (ks := ks) h.2 with h1 | h1
    · exact h1
    · exact absurd h1 h.1)

theorem order_ord (l : List (Int × Int)) (d : Int) : IsOrd (keysOf l d) l.length (order l d) := sortIdx_ord _ _
theorem order_eq {l : List (Int × Int)} {d : Int} {o : List Int} (h : IsOrd (keysOf l d) l.length o) : order l d = o := isOrd_unique (order_ord l d) h
theorem order_len (l : List (Int × Int)) (d : Int) : (order l d).length = l.length := by rw [(order_ord l d).1.length_eq]; simp [iota]
theorem order_mem {l : List (Int × Int)} {d : Int} {x : Int} (h : x ∈ order l d) : 0 ≤ x ∧ x < l.length := iota_mem.1 ((order_ord l d).1.mem_iff.1 h)
theorem order_nodup (l : List (Int × Int)) (d : Int) : (order l d).Nodup := (order_ord l d).1.nodup_iff.2 (iota_nodup _)

theorem nodup_at {l : List Int} {i j : Nat} {x : Int} (h : l.Nodup) (hij : i < j) (hi : l[i]? = some x) (hj : l[j]? = some x) : False := by
  obtain ⟨h1, e1⟩ := List.getElem?_eq_some_iff.1 hi
  obtain ⟨h2, e2⟩ := List.getElem?_eq_some_iff.1 hj
  exact (List.pairwise_iff_getElem.1 h i j h1 h2 hij) (e1.trans e2.symm)
theorem order_k1 : order [(3, 0), (0, 4), (3, 1), (-1, -1)] 0 = [3, 1, 0, 2] := order_eq (by decide)
theorem order_k2 : order [(3, 0), (0, 4), (3, 1), (-1, -1)] 3 = [1, 3, 2, 0] := order_eq (by decide)
def moveP (dx dy : Int) (l : List (Int × Int)) : List (Int × Int) := l.map (fun p => (p.1 + dx, p.2 + dy))
theorem key_move (dx dy d : Int) (h0 : 0 ≤ d) (h3 : d ≤ 3) : ∃ c, ∀ p : Int × Int, key (p.1 + dx, p.2 + dy) d = key p d + c := by
  rcases (show d = 0 ∨ d = 1 ∨ d = 2 ∨ d = 3 by omega) with rfl | rfl | rfl | rfl
  · exact ⟨dx, fun p => by simp [key]⟩
  · exact ⟨dy, fun p => by simp [key]⟩
  · exact ⟨dx + dy, fun p => by simp [key]; omega⟩
  · exact ⟨dx - dy, fun p => by simp [key]; omega⟩
theorem keys_at {l : List (Int × Int)} {d a : Int} (h0 : 0 ≤ a) (h1 : a < l.length) : (keysOf l d).getD a.toNat 0 = key (l[a.toNat]'(by omega)) d := by
  unfold keysOf
  rw [List.getD_eq_getElem?_getD, List.getElem?_map, List.getElem?_eq_getElem (by omega)]
  rfl
theorem order_move (l : List (Int × Int)) (dx dy d : Int) (h0 : 0 ≤ d) (h3 : d ≤ 3) : order (moveP dx dy l) d = order l d := by
  obtain ⟨c, hc⟩ := key_move dx dy d h0 h3
  apply order_eq
  have ho := order_ord l d
  refine ⟨by simpa [moveP] using ho.1, ho.2.imp_of_mem (fun {a b} ha hb h => ?_)⟩
  have ha' := order_mem ha
  have hb' := order_mem hb
  unfold klt at *
  rw [keys_at ha'.1 ha'.2, keys_at hb'.1 hb'.2] at h
  rw [keys_at ha'.1 (by simpa [moveP] using ha'.2), keys_at hb'.1 (by simpa [moveP] using hb'.2)]
  simp only [moveP, List.getElem_map, hc]
  omega
end Go.Proofs.YtpffhoefmcpniaaGreatDoor
