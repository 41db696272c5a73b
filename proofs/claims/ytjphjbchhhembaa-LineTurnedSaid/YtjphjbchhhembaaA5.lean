/- slices.SortFunc[[]int,int] over a row of the call's own: what it leaves. -/
import Derived.Test.YtjphjbchhhembaaA4
import Derived.Test.YtjphjbchhhembaaShelf
namespace Go.Proofs.Ytjphjbchhhembaa
open Go.RowKit Go.Sort Go.Shelf Go.Lib

instance inhFin (n : Nat) [NeZero n] : Inhabited (Fin n) := ⟨0⟩

/-- What the sort leaves of a row that is a whole block. -/
theorem blk_sortWorld {α : Type} [Inhabited α] (enc : α → Value) (w : World) (g t : Nat) (c : Array Value) (d : Array α) (n : Nat) (os : Array Obj) (h : Blk w g t c) (hs : d.size = c.size) :
    Blk (sortWorld enc w g 0 n d os) g t (d.map enc) := by
  have hlt : g < (putRow enc (Sort.ahead w n) g 0 d).heap.size := by
    have := h.lt
    simpa [putRow, mapBlock, Sort.ahead] using this
  unfold Blk sortWorld
  rw [heap_grow_old _ _ hlt]
  have hb : (Sort.ahead w n).heap[g]? = some (.cells c t (0, 0)) := h
  simp only [putRow, mapBlock, Array.getElem?_modify, hb, if_true, Option.map_some, onCells]
  congr 2
  apply Array.ext_getElem?
  intro k
  simp only [putCells, Array.getElem?_mapIdx, Array.getElem?_map]
  by_cases hk : k < c.size
  · rw [Array.getElem?_eq_getElem hk, Array.getElem?_eq_getElem (by omega : k < d.size), Option.map_some, Option.map_some, if_pos ⟨by omega, by omega⟩]
    rw [getElem!_pos d (k - 0) (by omega)]
    rfl
  · rw [Array.getElem?_eq_none (by omega), Array.getElem?_eq_none (by omega)]
    rfl

theorem grownBy_sortWorld {α : Type} [Inhabited α] (enc : α → Value) (w : World) (g : Nat) (d : Array α) (n : Nat) (os : Array Obj) : w.grownBy (sortWorld enc w g 0 n d os) (some g) where
  os := rfl
  tape := rfl
  output := rfl
  size := by simp [sortWorld, putRow, mapBlock, Sort.ahead]
  block := by
    intro k hk hne
    have hne' : k ≠ g := fun e => hne (by rw [e])
    have hlt : k < (putRow enc (Sort.ahead w n) g 0 d).heap.size := by simpa [putRow, mapBlock, Sort.ahead] using hk
    unfold sortWorld
    rw [heap_grow_old _ _ hlt]
    simp only [putRow, mapBlock, Array.getElem?_modify]
    rw [if_neg (by omega)]
    rfl

/-- The row of the places 0 to n - 1, sorted. -/
def iota (n : Nat) : List Int := (List.range n).map (fun i : Nat => (i : Int))
def sortIdx (cf : Int → Int → Int) (n : Nat) : List Int := ((List.finRange n).mergeSort (fun x y => !decide (cf y x < 0))).map (fun x => (x.val : Int))

theorem sortPlaces (cb : Array Value) (cf : Int → Int → Int) (n c g : Nat) (hn : 0 < n) (hbig : n < 4611686018427387904) (w : World) (hB : Blk w g 3 (ints (iota n)))
    (hirr : ∀ x, x < n → ¬ cf x x < 0)
    (htr : ∀ x y z, x < n → y < n → z < n → cf x y < 0 → cf y z < 0 → cf x z < 0)
    (htot : ∀ x y : Nat, x < n → y < n → ¬ cf x y < 0 → ¬ cf y x < 0 → x = y)
    (hcmp : ∀ (W : World) (x y : Nat), x < n → y < n → w.grownBy W (some g) → Calls Try.prog 18 (#[.int .i64 x, .int .i64 y] ++ cb) W fun e W' => e = .returned (.int .i64 (cf x y)) ∧ ∃ q, W' = W.drewN q) :
    Calls Try.prog 17 #[.slice (some ⟨g, 0, none⟩) n c, .func (.func 18) #[] cb] w fun e w' =>
      e = .returned (.tuple #[]) ∧ Blk w' g 3 (ints (sortIdx cf n)) ∧ w.grownBy w' (some g) := by
  haveI : NeZero n := ⟨by omega⟩
  have eg : ∀ args w, (callFunc 18 args).run Try.prog w = .ok (.enter 18 args) w := enters_of Try.func18 (by kernel_rfl) rfl
  let enc : Fin n → Value := fun x => .int .i64 (x.val : Int)
  let cfn : Fin n → Fin n → Int := fun x y => cf x.val y.val
  let d : Array (Fin n) := (List.finRange n).toArray
  have hds : d.size = n := by simp [d]
  have hdg : ∀ j (hj : j < n), d[j]! = ⟨j, hj⟩ := fun j hj => by
    rw [getElem!_pos d j (by omega)]
    simp [d]
  have hlt : ∀ x y : Fin n, ltOf cfn x y = decide (cf x.val y.val < 0) := fun x y => rfl
  have hO : SWO (ltOf cfn) := {
    irrefl := fun x => by rw [hlt]; simpa using hirr x.val x.isLt
    trans := fun x y z h1 h2 => by
      rw [hlt] at *
      simp only [decide_eq_true_eq] at *
      exact htr _ _ _ x.isLt y.isLt z.isLt h1 h2
    ntrans := fun x y z h1 h2 => by
      rw [hlt] at *
      simp only [decide_eq_false_iff_not] at *
      intro h3
      by_cases hyx : cf y.val x.val < 0
      · exact h2 (htr _ _ _ y.isLt x.isLt z.isLt hyx h3)
      · have := htot _ _ x.isLt y.isLt h1 hyx
        rw [this] at h3
        exact h2 h3 }
  have hT : ∀ x y, ltOf cfn x y = false → ltOf cfn y x = false → x = y := fun x y h1 h2 => by
    rw [hlt] at *
    simp only [decide_eq_false_iff_not] at *
    exact Fin.ext (htot _ _ x.isLt y.isLt h1 h2)
  have hH : Holds enc w g 0 d := fun j hj => by
    rw [hds] at hj
    rw [Nat.zero_add, hdg j hj]
    exact ⟨hB.cellI (by simp [iota, hj]), hB.frozen _⟩
  have hC : CmpLays1 Try.prog 18 cb enc cfn g 0 d.size w := fun m os dk hs x y =>
    (hcmp _ x.val y.val x.isLt y.isLt (grownBy_sortWorld enc w g dk m os)).mono fun _ _ ⟨he, q, hq⟩ => ⟨he, q, #[], by rw [hq, grow_empty]⟩
  have hcon := Any.slices_SortFunc_total Try.sortInt enc (fun _ => rfl) cfn hO 18 cb g 0 c d w eg hC hH hB.lt (by omega) hT
  rw [hds] at hcon
  refine Calls.mono (show Calls Try.prog 17 _ _ _ from hcon) ?_
  rintro e w' ⟨rfl, q, os, rfl⟩
  refine ⟨rfl, ?_, grownBy_sortWorld enc w g _ q os⟩
  have h := blk_sortWorld enc w g 3 (ints (iota n)) ((d.toList.mergeSort fun x y => !ltOf cfn y x).toArray) q os hB (by simp [ints, iota, d])
  have he : ((d.toList.mergeSort fun x y => !ltOf cfn y x).toArray).map enc = ints (sortIdx cf n) := by
    simp [ints, sortIdx, d, enc, hlt, cfn]
  rw [he] at h
  exact h
end Go.Proofs.Ytjphjbchhhembaa
