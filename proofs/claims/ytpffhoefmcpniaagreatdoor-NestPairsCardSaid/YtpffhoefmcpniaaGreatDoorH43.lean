/- Parts of the proof: NeH. -/
import Derived.Test.YtpffhoefmcpniaaGreatDoorH1
import Derived.Test.YtpffhoefmcpniaaGreatDoorH40
import Derived.Test.YtpffhoefmcpniaaGreatDoorH42
/- NestPairs: the walk. -/
namespace Go.Proofs.YtpffhoefmcpniaaGreatDoor
open Go.RowKit

attribute [local go_sem ↓] Go.wp_at_zero Go.wp_at_succ

theorem infoHV : (Tryz.prog.info? 64).map (fun i => (i.zero, i.size, i.bytes)) = some (some (.agg #[.int .i64 0, .int .i64 0, .int .i64 0]), 3, 24) := by kernel_rfl
/-- The points. -/
def prV (xs ys : List Int) (k : Nat) : List Tri := (List.range k).map (fun i => (xs.getD i 0, ys.getD i 0, 0))
theorem prV_next {xs ys : List Int} {k : Nat} {x y : Int} (hx : xs[k]? = some x) (hy : ys[k]? = some y) : prV xs ys (k + 1) = prV xs ys k ++ [(x, y, 0)] := by
  unfold prV
  rw [List.range_succ, List.map_append]
  simp [hx, hy]
theorem prV_len (xs ys : List Int) (k : Nat) : (prV xs ys k).length = k := by simp [prV]
def prN (xs ys : List Int) (k : Nat) : NetD := ⟨prV xs ys k, [], [⟨0, 0, []⟩]⟩
theorem prN_ok {xs ys : List Int} {k : Nat} (hk : k ≤ 20) (hx : ∀ x ∈ xs, -32768 ≤ x ∧ x ≤ 32767) (hy : ∀ x ∈ ys, -32768 ≤ x ∧ x ≤ 32767) : NetOk (prN xs ys k) := by
  have hg : ∀ (l : List Int) (i : Nat), (∀ x ∈ l, -32768 ≤ x ∧ x ≤ 32767) → -32768 ≤ l.getD i 0 ∧ l.getD i 0 ≤ 32767 := fun l i h => by
    rcases Nat.lt_or_ge i l.length with hi | hi
    · rw [List.getD_eq_getElem?_getD, List.getElem?_eq_getElem hi]
      exact h _ (List.getElem_mem hi)
    · rw [List.getD_eq_getElem?_getD, List.getElem?_eq_none hi]
      exact ⟨by decide, by decide⟩
  refine ⟨by simp [prN, prV]; omega, by simp [prN], by simp [prN], fun t ht => ?_, fun v hv => ?_, fun a ha => by simp [prN] at ha, fun i v t hv ht => ?_⟩
  · obtain rfl := List.mem_singleton.1 ht
    exact ⟨by decide, by decide, by decide, by decide, rfl, fun c hc => by simp at hc⟩
  · obtain ⟨i, _, rfl⟩ := List.mem_map.1 hv
    have h1 := hg xs i hx
    have h2 := hg ys i hy
    exact ⟨by
      show (decide (-1048576 ≤ xs.getD i 0) && decide (xs.getD i 0 ≤ 1048576)) = true
      rw [Bool.and_eq_true, decide_eq_true_eq, decide_eq_true_eq]
      exact ⟨by omega, by omega⟩, by
      show (decide (-1048576 ≤ ys.getD i 0) && decide (ys.getD i 0 ≤ 1048576)) = true
      rw [Bool.and_eq_true, decide_eq_true_eq, decide_eq_true_eq]
      exact ⟨by omega, by omega⟩, Int.le_refl 0, by
      show (0 : Int) < ((1 : Nat) : Int)
      decide⟩
  · obtain ⟨j, _, rfl⟩ := List.mem_map.1 (List.mem_of_getElem? hv)
    have ht : some (⟨0, 0, []⟩ : TabD) = some t := ht
    injection ht with ht
    subst ht
    exact ⟨rfl, rfl⟩
theorem prN_vok {xs ys : List Int} {k : Nat} (h : 2 ≤ k) : VrtOk (prN xs ys k).vs.length (nats [0, 1]) := by
  intro j hj
  have hl : (prN xs ys k).vs.length = k := prV_len xs ys k
  rw [hl]
  rcases j with _ | _ | j
  · exact ⟨0, rfl, by decide, by omega, fun a h => absurd rfl h⟩
  · exact ⟨1, rfl, by decide, by omega, fun a _ h => by cases h; decide⟩
  · simp [nats] at hj
    omega
theorem prN_pt {xs ys : List Int} {k i : Nat} {x : Int} (hi : i < k) (hx : xs[i]? = some x) : (ptN (prN xs ys k) i).1 = x := by
  have : (prN xs ys k).vs[i]? = some (x, ys.getD i 0, 0) := by simp [prN, prV, hi, hx]
  unfold ptN
  rw [this]
theorem prN_pok {xs ys : List Int} {k : Nat} (h : 2 ≤ k) : PcOk (prN xs ys k).vs.length [0, 1] := by
  rw [show (prN xs ys k).vs.length = k from prV_len xs ys k]
  exact ⟨by decide, fun v hv => by simp at hv; omega⟩
theorem prN_rng (xs ys : List Int) (k : Nat) : PcOk (prN xs ys k).vs.length (List.range k) := by
  rw [show (prN xs ys k).vs.length = k from prV_len xs ys k]
  exact range_ok k
theorem prN_all (xs ys : List Int) (k : Nat) : VrtOk (prN xs ys k).vs.length (nats (List.range k)) := vok_of (prN_rng xs ys k)
set_option maxHeartbeats 8000000 in
set_option maxRecDepth 20000 in
theorem pairs_ok (A B : Option Addr) (n m ca cb : Nat) (xs ys : List Int) (w : World) (hx : RdK .i16 w A n xs) (hy : RdK .i16 w B m ys) (hrx : ∀ x ∈ xs, -32768 ≤ x ∧ x ≤ 32767) (hry : ∀ x ∈ ys, -32768 ≤ x ∧ x ≤ 32767) (hg : w.cell? ⟨0, 0, none⟩ = some errT) :
    Calls Tryz.prog 5 #[.slice A n ca, .slice B m cb] w fun e w' => e = .returned (.bool true) ∧ Below w.heap.size w w' := by
  have HKN := Lib.hid (known14_ok w hg)
  have HX := Lib.hid hx
  have HY := Lib.hid hy
  clear hx hy
  go_enter Tryz.func5, Tryz.ntmps5
  go_wp2_with fail
  with_reducible refine HKN.out.mono ?_
  rintro e w1 ⟨rfl, hb1⟩
  have HB1 := Lib.hid hb1
  clear hb1 HKN
  by_cases h2 : n < 2
  · have e1 : (n : Int) < 2 := by omega
    go_wp2_with fail
    go_ret
    exact ⟨rfl, HB1.out⟩
  have e1 : ¬ (n : Int) < 2 := by omega
  by_cases h20 : 20 < n
  · have e2 : (n : Int) > 20 := by omega
    go_wp2_with fail
    go_ret
    exact ⟨rfl, HB1.out⟩
  have e2 : ¬ (n : Int) > 20 := by omega
  by_cases hm : m < n
  · have e3 : (m : Int) < (n : Int) := by omega
    go_wp2_with fail
    go_ret
    exact ⟨rfl, HB1.out⟩
  have e3 : ¬ (m : Int) < (n : Int) := by omega
  go_wp2_with fail
  (refine wp_named ?_; intro w2 hw2)
  have hb2 : Below w1.heap.size w1 w2 := by rw [hw2]; exact bELt
  have qT : Blk w2 w1.heap.size 61 #[.int .i64 0, .int .i64 0, .slice none 0 0] := by rw [hw2]; exact bLNt
  have qN : Blk w2 (w1.heap.size + 1) 26 #[.slice none 0 0, .slice none 0 0, .slice (some ⟨w1.heap.size, 0, none⟩) 1 1] := by rw [hw2]; exact bLNt
  have HZ2 := Lib.hid (show w1.heap.size + 1 < w2.heap.size from qN.lt)
  have HB2 := Lib.hid (Bel.step HB1.out hb2)
  have HW1 := Lib.hid HB1.out.size
  clear hw2 hb2
  go_loopw [6, 7] (fun a q W => Below w.heap.size w W ∧ ∃ (k : Nat) (A1 A2 : Option Addr) (c1 c2 : Nat), k ≤ n ∧ q = .int .i64 (k : Int) ∧ a = .slice A2 k c2 ∧ Blk W w1.heap.size 61 #[.int .i64 0, .int .i64 0, .slice none 0 0] ∧ Blk W (w1.heap.size + 1) 26 #[.slice A1 k c1, .slice none 0 0, .slice (some ⟨w1.heap.size, 0, none⟩) 1 1] ∧ Own W w2.heap.size 64 3 A1 k c1 (tcells (prV xs ys k)) ∧ Own W w2.heap.size 3 1 A2 k c2 (icells (nats (List.range k))) ∧ (∀ q, blkOf A1 = some q → blkOf A2 ≠ some q) ∧ w2.heap.size ≤ W.heap.size) (fun _ q _ => n - (intOf q).toNat)
  case atStart => exact ⟨HB2.out, 0, none, none, 0, 0, Nat.zero_le _, rfl, rfl, qT, qN, Own.nil _ _ _ _, Own.nil _ _ _ _, fun q h => (by simp [blkOf] at h), Nat.le_refl _⟩
  case round =>
    clear qT qN
    obtain ⟨hbl, k, A1, A2, c1, c2, hk, rfl, rfl, hT, hN, hO1, hO2, hne, hsz⟩ := hrel
    have HBL := Lib.hid hbl
    have HT := Lib.hid hT
    have HN := Lib.hid hN
    have HO1 := Lib.hid hO1
    have HO2 := Lib.hid hO2
    have HNE := Lib.hid hne
    have HSZ := Lib.hid hsz
    clear hbl hT hN hO1 hO2 hne hsz
    by_cases hlt : k < n
    · have HLT := Lib.hid hlt
      obtain ⟨bx, ox, x, rfl, hx, hcx⟩ := HX.out.at_ hlt
      obtain ⟨by_, oy, y, rfl, hy, hcy⟩ := HY.out.at_ (show k < m by omega)
      have hx2 := hrx x (List.mem_of_getElem? hx)
      have hy2 := hry y (List.mem_of_getElem? hy)
      have e4 : IntKind.i64.wrap x = x := IntWalk.i64_in _ (by omega)
      have e5 : IntKind.i64.wrap y = y := IntWalk.i64_in _ (by omega)
      have i1 : (0 : Int) ≤ (k : Int) := by omega
      have i2 : (k : Int) < (n : Int) := by omega
      have i3 : (k : Int) < (m : Int) := by omega
      have HNX := Lib.hid (prV_next hx hy)
      have hlx := lt_of_cell hcx
      have hly := lt_of_cell hcy
      have dx := Below.cellOf HBL.out (Nat.le_refl _) hcx
      have dy := Below.cellOf HBL.out (Nat.le_refl _) hcy
      have d0 : wr.cell? ⟨w1.heap.size + 1, 0, none⟩ = some (.slice A1 k c1) := by rw [HN.out.cell]; rfl
      clear hx hy hcx hcy
      go_wp2_with fail
      refine wp_region_K 16 (S := fun V => V.cell? ⟨w1.heap.size + 1, 0, none⟩ = some (.slice A1 k c1) ∧ V.cell? ⟨bx, ox + k, none⟩ = some (.int .i16 x) ∧ V.cell? ⟨by_, oy + k, none⟩ = some (.int .i16 y)) (by kernel_rfl) ⟨d0, dx, dy⟩ (fun _ => ?_)
      refine tkF 0 40 (h := ⟨_, tv, ?_⟩)
      simp only [pE, List.set]
      refine tkK 1 41 (h := ⟨_, tv, ?_⟩)
      simp only [pE, List.set]
      refine tkF 2 42 (h := ⟨_, tv, ?_⟩)
      simp only [pE, List.set]
      refine tkF 3 43 (h := ⟨_, tv, ?_⟩)
      simp only [pE, List.set]
      refine tkF 4 44 (h := ⟨_, tv, ?_⟩)
      simp only [pE, List.set]
      refine tkK 5 45 (h := ⟨_, tv, ?_⟩)
      simp only [pE, List.set]
      refine tkF 6 46 (h := ⟨_, tv, ?_⟩)
      simp only [pE, List.set]
      refine tkF 7 47 (h := ⟨_, tv, ?_⟩)
      simp only [pE, List.set]
      refine tkF 8 48 (h := ⟨_, tv, ?_⟩)
      simp only [pE, List.set]
      refine tkF 9 49 (h := ⟨_, tv, ?_⟩)
      simp only [pE, List.set]
      refine tkK 10 50 (h := ⟨_, tv, ?_⟩)
      simp only [pE, List.set]
      refine tkF 11 51 (h := ⟨_, tv, ?_⟩)
      simp only [pE, List.set]
      refine tkF 12 52 (h := ⟨_, tv, ?_⟩)
      simp only [pE, List.set]
      refine wpAnyK_one (i := 13) (by kernel_rfl) (by rfl) rfl (fun K hK => ?_)
      go_simp
      obtain ⟨W4, hW4⟩ : ∃ W, W = (wr.alloc (.cells #[.int .i64 x, .int .i64 y, .int .i64 0] 64)).drew := ⟨_, rfl⟩
      rw [← hW4]
      have hb4 : Below wr.heap.size wr W4 := by rw [hW4]; exact bELt
      have hrd : Rds W4 3 (some ⟨wr.heap.size, 0, none⟩) 1 (tcells [(x, y, 0)]) := by rw [hW4]; exact (Blk.drew (Blk.new wr 64 #[.int .i64 x, .int .i64 y, .int .i64 0])).rds rfl
      have hown := HO1.out.below hb4
      have hsz4 : w2.heap.size ≤ W4.heap.size := Nat.le_trans HSZ.out hb4.size
      have HB4 := Lib.hid hb4
      clear hW4
      refine hK.out _ _ ⟨Below.cellOf hb4 (Nat.le_refl _) d0, Below.cellOf hb4 (Nat.le_refl _) dx, Below.cellOf hb4 (Nat.le_refl _) dy⟩ (fun _ => ?_)
      clear hK K
      refine wpAnyK_one (i := 14) (by kernel_rfl) (by rfl) rfl (fun K hK => ?_)
      with_reducible refine step_app' (some 54) rfl rfl (.tmp 41) (.tmp 53) 22 rfl 64 _ 3 24 infoHV Tryz.underlying22 rfl (by omega) rfl rfl hown hrd (tcells_one _) (by omega) (by omega) hsz4 ?_
      intro A5 c5 w5 ho5 hg5 hat5
      have hgN : w1.heap.size + 1 < W4.heap.size := by have := HZ2.out; omega
      have hneB : ∀ q, q < w2.heap.size → blkOf A1 ≠ some q := fun q hq e => by have := (HO1.out.lt q e).1; omega
      have hN5 := (HN.out.below hb4 HN.out.lt).grown hg5 (hneB _ HZ2.out)
      have hT5 := (HT.out.below hb4 HT.out.lt).grown hg5 (hneB _ (by have := HZ2.out; omega))
      have p5 : w5.cell? ⟨w1.heap.size + 1, 0, none⟩ = some (.slice A1 k c1) := by rw [hN5.cell]; rfl
      have pf5 := hN5.frozen 0
      have x5 : w5.cell? ⟨bx, ox + k, none⟩ = some (.int .i16 x) := cell_keep (hg5.block bx (by have := HW1.out; have := HZ2.out; omega) (fun e => hneB bx (by have := HW1.out; have := HZ2.out; omega) e.symm)) (Below.cellOf hb4 (Nat.le_refl _) dx)
      have y5 : w5.cell? ⟨by_, oy + k, none⟩ = some (.int .i16 y) := cell_keep (hg5.block by_ (by have := HW1.out; have := HZ2.out; omega) (fun e => hneB by_ (by have := HW1.out; have := HZ2.out; omega) e.symm)) (Below.cellOf hb4 (Nat.le_refl _) dy)
      refine hK.out _ _ ⟨p5, x5, y5⟩ (fun _ => ?_)
      clear hK K
      simp only [pE, List.set]
      refine tkF 15 55 (h := ⟨_, tv, ?_⟩)
      simp only [pE, List.set]
      refine wpAnyK_at (k := 16) (by kernel_rfl) rfl (fun K hK => ?_)
      go_simp
      refine hK.out _ _ ?_
      clear hK K
      refine wpAny_over (by kernel_rfl) ?_ _
      have hk4 : ∀ q, blkOf A1 = some q ∨ blkOf A2 = some q → w2.heap.size ≤ q ∧ q < wr.heap.size := fun q hq => by
        rcases hq with hq | hq
        · exact HO1.out.lt q hq
        · exact HO2.out.lt q hq
      have hA5 : ∀ q, blkOf A5 = some q → blkOf A1 = some q ∨ q = W4.heap.size := fun q hq => by
        rcases hat5 with e | e
        · exact .inl (by rw [← e]; exact hq)
        · rw [e] at hq; injection hq with hq; exact .inr hq.symm
      have ho26 : Own w5 w2.heap.size 3 1 A2 k c2 (icells (nats (List.range k))) := (HO2.out.below hb4).far hg5 (by
        cases e : blkOf A2 with
        | none => exact .inl rfl
        | some q => exact .inr (fun e2 => HNE.out q e2.symm e))
      have hbl5 := below_farO (Bel.step HBL.out hb4) hg5 (fun q e => by have := (hk4 q (.inl e)).1; have := HW1.out; have := HZ2.out; omega) (Nat.le_trans HBL.out.size hb4.size)
      obtain ⟨W6, hW6⟩ : ∃ W, W = w5.setCell ⟨w1.heap.size + 1, 0, none⟩ (.slice A5 (k + 1) c5) := ⟨_, rfl⟩
      rw [← hW6]
      have hN6 : Blk W6 (w1.heap.size + 1) 26 #[.slice A5 (k + 1) c5, .slice none 0 0, .slice (some ⟨w1.heap.size, 0, none⟩) 1 1] := by rw [hW6]; have := hN5.set_ 0 (.slice A5 (k + 1) c5); simpa using this
      have hT6 : Blk W6 w1.heap.size 61 #[.int .i64 0, .int .i64 0, .slice none 0 0] := by rw [hW6]; exact hT5.far_ (by omega) _
      have ho6 : Own W6 w2.heap.size 64 3 A5 (k + 1) c5 (tcells (prV xs ys (k + 1))) := by rw [hW6, HNX.out, tcells_app]; exact ho5.setB HZ2.out _
      have ho27 : Own W6 w2.heap.size 3 1 A2 k c2 (icells (nats (List.range k))) := by rw [hW6]; exact ho26.setB HZ2.out _
      have hbl6 : Below w.heap.size w W6 := by rw [hW6]; exact Below.setCell hbl5 (p := ⟨w1.heap.size + 1, 0, none⟩) (by have := HW1.out; show w.heap.size ≤ w1.heap.size + 1; omega) _
      have hs6 : W4.heap.size ≤ W6.heap.size := by rw [hW6]; simpa [World.setCell] using hg5.size
      have hA5l : ∀ q, blkOf A5 = some q → q < W6.heap.size := fun q hq => (ho6.lt q hq).2
      have hA25 : ∀ q, blkOf A5 = some q → blkOf A2 ≠ some q := fun q hq e => by
        rcases hA5 q hq with e1 | e1
        · exact HNE.out q e1 e
        · have := (hk4 q (.inr e)).2; have := HB4.out.size; omega
      obtain ⟨W7, hW7⟩ : ∃ W, W = W6.alloc (.cells #[.int .i64 (k : Int)] 3) := ⟨_, rfl⟩
      have hb7 : Below W6.heap.size W6 W7 := by rw [hW7]; exact bELt
      have hrd7 : Rds W7 1 (some ⟨W6.heap.size, 0, none⟩) 1 (icells [(k : Int)]) := by rw [hW7]; exact (Blk.new W6 3 #[.int .i64 (k : Int)]).rds rfl
      have hown7 := ho27.below hb7
      have hsz7 : w2.heap.size ≤ W7.heap.size := Nat.le_trans hsz4 (Nat.le_trans hs6 hb7.size)
      have HN7 := Lib.hid (hN6.below hb7 hN6.lt)
      have HT7 := Lib.hid (hT6.below hb7 hT6.lt)
      have HO7 := Lib.hid (ho6.below hb7)
      have HL7 := Lib.hid (Bel.step hbl6 hb7)
      have HA25 := Lib.hid hA25
      have HA5L := Lib.hid (fun q hq => Nat.lt_of_lt_of_le (hA5l q hq) hb7.size)
      have HK4 := Lib.hid hk4
      have HW7 := Lib.hid hW7
      clear hW7 hb7 hA25 hA5l hA5 hk4 hs6 hbl6 ho27 ho6 hT6 hN6 hW6 hbl5 ho26 x5 y5 p5 pf5 hT5 hN5 hneB hgN ho5 hg5 hat5 hsz4 hown hrd hb4 dx dy d0
      go_wp2_with (at_builtin; rw [← HW7.out]; with_reducible refine wpList_app rfl (.tmp 56) (.tmp 58) 27 rfl 3 _ 1 8 infoInt Tryz.underlying27 rfl (by omega) rfl rfl hown7 hrd7 (icells_one _) (by omega) (by omega) hsz7 ?_)
      intro A8 c8 w8 ho8 hg8 hat8
      have hq2 : ∀ q, blkOf A2 = some q → w2.heap.size ≤ q ∧ q < W7.heap.size := fun q hq => hown7.lt q hq
      have HN8 := Lib.hid (HN7.out.grown hg8 (fun e => by have := (hq2 _ e).1; have := HZ2.out; omega))
      have HT8 := Lib.hid (HT7.out.grown hg8 (fun e => by have := (hq2 _ e).1; have := HZ2.out; omega))
      have HO8 := Lib.hid (HO7.out.far hg8 (by
        cases e : blkOf A5 with
        | none => exact .inl rfl
        | some q => exact .inr (fun e2 => HA25.out q e e2.symm)))
      have HP8 := Lib.hid (show Own w8 w2.heap.size 3 1 A8 (k + 1) c8 (icells (nats (List.range (k + 1)))) by rw [List.range_succ, nats_snoc]; exact ho8)
      have HL8 := Lib.hid (below_farO HL7.out hg8 (fun q e => by have := (hq2 q e).1; have := HW1.out; have := HZ2.out; omega) HL7.out.size)
      have HZ8 := Lib.hid (Nat.le_trans hsz7 hg8.size)
      have HNE8 := Lib.hid (show ∀ q, blkOf A5 = some q → blkOf A8 ≠ some q from fun q hq e => by
        rcases hat8 with e1 | e1
        · exact HA25.out q hq (by rw [← e1]; exact e)
        · rw [e1] at e; injection e with e; have := HA5L.out q hq; omega)
      clear hown7 hrd7 hsz7 ho8 hg8 hat8 hq2
      go_wp2_with fail
      go_roundw
      case rel => exact ⟨HL8.out, k + 1, A5, A8, c5, c8, by have := HLT.out; omega, by go_num, rfl, HT8.out, HN8.out, HO8.out, HP8.out, HNE8.out, HZ8.out⟩
      case measure => have := HLT.out; simp [intOf]; omega
    obtain rfl : k = n := by omega
    obtain ⟨W0, rfl⟩ : ∃ W, W = wr := ⟨_, rfl⟩
    have hR : RdNet W0 A1 none (some ⟨w1.heap.size, 0, none⟩) k 0 1 (prN xs ys k) := by
      refine ⟨Rds.rd3 HO1.out.rds, ⟨rfl, fun i x h => by simp [prN] at h⟩, rfl, fun i t h => ?_⟩
      rcases i with _ | i
      · have h : some (⟨0, 0, []⟩ : TabD) = some t := h
        injection h with h
        subst h
        exact ⟨w1.heap.size, 0, rfl, by rw [HT.out.cell]; rfl, by rw [HT.out.cell]; rfl, none, 0, 0, by rw [HT.out.cell]; rfl, Rds.rdI (l := []) (by simpa [icells] using (Own.nil W0 0 1 3).rds), Nat.le_refl _, by omega⟩
      · simp [prN] at h
    have HM := Lib.hid (made8_ok A1 none (some ⟨w1.heap.size, 0, none⟩) k 0 1 c1 0 1 (prN xs ys k) W0 hR (prN_ok (by omega) hrx hry))
    have n0 : W0.cell? ⟨w1.heap.size + 1, 0, none⟩ = some (.slice A1 k c1) := by rw [HN.out.cell]; rfl
    have n1 : W0.cell? ⟨w1.heap.size + 1, 1, none⟩ = some (.slice none 0 0) := by rw [HN.out.cell]; rfl
    have n2 : W0.cell? ⟨w1.heap.size + 1, 2, none⟩ = some (.slice (some ⟨w1.heap.size, 0, none⟩) 1 1) := by rw [HN.out.cell]; rfl
    clear hR hk hlt
    go_wp2_with fail
    with_reducible refine HM.out.mono ?_
    rintro e w3 ⟨g, rfl, hG, hb3⟩
    have HG3 := Lib.hid hG.rd
    have HB3 := Lib.hid (Bel.step HBL.out hb3)
    have HO3 := Lib.hid (HO2.out.below hb3)
    clear hG hb3 HM n0 n1 n2
    go_wp2_with fail
    (refine calls_named ?_; intro w4 hw4)
    have hb4 : Below w3.heap.size w3 w4 := by rw [hw4]; exact bELt
    have h4 : RdI w4 (some ⟨w3.heap.size, 0, none⟩) 2 (nats [0, 1]) := by rw [hw4]; exact (Blk.new w3 3 (ints (nats [0, 1]))).rdI rfl
    have HP4 := Lib.hid (show Calls Tryz.prog 19 #[.pointer (some ⟨g, 0, none⟩), .slice (some ⟨w3.heap.size, 0, none⟩) 2 2, .int .i64 1] w4 (PcPost (pcs (prN xs ys k) 1 (natsOf (nats [0, 1]))) w4) from nestPieces_ok g 1 2 2 (prN xs ys k) _ (nats [0, 1]) w4 (HG3.out.below hb4) h4 (prN_vok (by omega)) (by omega) (by omega))
    have HG4 := Lib.hid (HG3.out.below hb4)
    have HB4 := Lib.hid (Bel.step HB3.out hb4)
    have HO4 := Lib.hid (HO3.out.below hb4)
    clear hw4 hb4 h4
    with_reducible refine HP4.out.mono ?_
    rintro e w5 ⟨A5, c5, he, hT5, _, _, hb5⟩
    have HPP := Lib.hid (pcs_two_pts w5 (prN_ok (k := k) (by omega) hrx hry) rfl (prN_pok (xs := xs) (ys := ys) (show 2 ≤ k by omega)))
    obtain ⟨bx, ox, x0, eA, hx0, hc0⟩ := HX.out.at_ (i := 0) (by omega)
    subst eA
    obtain ⟨bx', ox', x1, eA, hx1, hc1⟩ := HX.out.at_ (i := 1) (by omega)
    cases eA
    obtain ⟨u, v, hps, huv⟩ : ∃ u v : Nat, pcs (prN xs ys k) 1 (natsOf (nats [0, 1])) = [[u], [v]] ∧ ((u = 0 ∧ v = 1 ∧ x0 ≤ x1) ∨ (u = 1 ∧ v = 0 ∧ ¬ x0 ≤ x1)) := by
      have := HPP.out
      rw [prN_pt (show 0 < k by omega) hx0, prN_pt (show 1 < k by omega) hx1] at this
      rw [natsOf_nats]
      by_cases h : x0 ≤ x1
      · exact ⟨0, 1, by rw [this, if_pos h], .inl ⟨rfl, rfl, h⟩⟩
      · exact ⟨1, 0, by rw [this, if_neg h], .inr ⟨rfl, rfl, h⟩⟩
    rw [hps] at he hT5
    have hT5 : RdT w5 A5 2 [nats [u], nats [v]] := hT5
    obtain ⟨b5, o5, U0, n0, d0, l0, rfl, hl0, q0, hr0, _, _⟩ := hT5.at_ (i := 0) (by omega)
    obtain rfl : nats [u] = l0 := by injection hl0
    obtain rfl : 1 = n0 := hr0.1
    obtain ⟨b5', o5', V0, m0, d1, l1, eA, hl1, q1, hr1, _, _⟩ := hT5.at_ (i := 1) (by omega)
    cases eA
    obtain rfl : nats [v] = l1 := by injection hl1
    obtain rfl : 1 = m0 := hr1.1
    obtain ⟨bu, ou, xu, rfl, hxu, qu⟩ := hr0.at_ (i := 0) (by omega)
    obtain rfl : (u : Int) = xu := by injection hxu
    obtain ⟨bv, ov, xv, rfl, hxv, qv⟩ := hr1.at_ (i := 0) (by omega)
    obtain rfl : (v : Int) = xv := by injection hxv
    have hB5 := Bel.step HB4.out hb5
    have HB5 := Lib.hid hB5
    have HG5 := Lib.hid (HG4.out.below hb5)
    have HO5 := Lib.hid (HO4.out.below hb5)
    have hc0 := Below.cellOf hB5 (Nat.le_refl _) hc0
    have hc1 := Below.cellOf hB5 (Nat.le_refl _) hc1
    have HP6 := Lib.hid (show ∀ V, Below w5.heap.size w5 V → Calls Tryz.prog 19 #[.pointer (some ⟨g, 0, none⟩), .slice A2 k c2, .int .i64 ((k : Int) - 1)] V (PcPost (pcs (prN xs ys k) (k - 1) (List.range k)) V) from fun V hV => by
      have e : (k : Int) - 1 = ((k - 1 : Nat) : Int) := by omega
      have h := nestPieces_ok g (k - 1) k c2 (prN xs ys k) A2 (nats (List.range k)) V (HG5.out.below hV) (HO5.out.below hV).rds.rdI (prN_all xs ys k) (by omega) (by omega)
      rw [natsOf_nats] at h
      rw [e]
      exact h)
    have HEV := Lib.hid (even_pts w5 (prN_ok (k := k) (by omega) hrx hry) rfl (prN_rng xs ys k) (by rw [List.length_range]; omega))
    have HPR := Lib.hid (pcs_pair (N := prN xs ys k) (vl := List.range k) (by rw [List.length_range]; omega))
    rw [List.length_range] at HEV HPR
    simp only [Nat.add_zero] at q0 qu qv hc0
    have ek1 : IntKind.i64.wrap ((k : Int) - 1) = (k : Int) - 1 := IntWalk.i64_in _ (by omega)
    subst he
    clear hps hT5 hl0 hl1 hr0 hr1 hxu hxv hb5 HP4 HPP hx0 hx1 hB5 HG4 HB4 HO4 HX HY hrx hry
    have hF : IntKind.i64.wrap ((u : Int) + (v : Int)) = 1 := by
      rcases huv with ⟨rfl, rfl, _⟩ | ⟨rfl, rfl, _⟩ <;> rfl
    obtain ⟨bb, hf1, hf2⟩ : ∃ bb : Bool, decide (u = 0) = bb ∧ decide (x0 ≤ x1) = bb := by
      rcases huv with ⟨rfl, rfl, h⟩ | ⟨rfl, rfl, h⟩
      · exact ⟨true, rfl, decide_eq_true h⟩
      · exact ⟨false, rfl, decide_eq_false h⟩
    have hf3 : decide ((u : Int) = 0) = bb := by rw [← hf1]; exact decide_eq_decide.2 (by omega)
    have hf4 : ((u : Int) == 0) = bb := hf3
    have hf5 : (u == 0) = bb := hf1
    have hf6 : (bb != bb) = false := by cases bb <;> rfl
    have HSX := Lib.hid (show ∀ V, Below w5.heap.size w5 V → V.cell? ⟨b5, o5, none⟩ = some (.slice (some ⟨bu, ou, none⟩) 1 d0) ∧ V.cell? ⟨b5, o5 + 1, none⟩ = some (.slice (some ⟨bv, ov, none⟩) 1 d1) ∧ V.cell? ⟨bu, ou, none⟩ = some (.int .i64 (u : Int)) ∧ V.cell? ⟨bv, ov, none⟩ = some (.int .i64 (v : Int)) ∧ V.cell? ⟨bx, ox, none⟩ = some (.int .i16 x0) ∧ V.cell? ⟨bx, ox + 1, none⟩ = some (.int .i16 x1) ∧ IntKind.i64.wrap ((u : Int) + (v : Int)) = 1 ∧ decide (u = 0) = bb ∧ decide (x0 ≤ x1) = bb ∧ decide ((u : Int) = 0) = bb ∧ ((u : Int) == 0) = bb ∧ (u == 0) = bb ∧ (bb != bb) = false ∧ 0 < k ∧ 1 < k ∧ (1 : Int) < (k : Int) from
      fun V hV => ⟨Below.cellOf hV (Nat.le_refl _) q0, Below.cellOf hV (Nat.le_refl _) q1, Below.cellOf hV (Nat.le_refl _) qu, Below.cellOf hV (Nat.le_refl _) qv, Below.cellOf hV (Nat.le_refl _) hc0, Below.cellOf hV (Nat.le_refl _) hc1, hF, hf1, hf2, hf3, hf4, hf5, hf6, by omega, by omega, by omega⟩)
    clear q0 q1 qu qv hc0 hc1 hF hf1 hf2 hf3 hf4 hf5 hf6 huv
    go_wp2_with fail
    refine wp_region_held_drew (S := fun V => Below w5.heap.size w5 V) (by kernel_rfl) (Below.refl _ _).drew (fun _ => ?_)
    refine tk 0 70 (h := ⟨_, tv, ?_⟩)
    simp only [pE, List.set]
    refine tk 1 71 (h := ⟨_, tv, ?_⟩)
    simp only [pE, List.set]
    refine tk 2 72 (h := ⟨_, tv, ?_⟩)
    simp only [pE, List.set]
    refine tk 3 73 (h := ⟨_, tv, ?_⟩)
    simp only [pE, List.set]
    refine tk 4 74 (h := ⟨_, tv, ?_⟩)
    simp only [pE, List.set]
    refine tk 5 75 (h := ⟨_, tv, ?_⟩)
    simp only [pE, List.set]
    refine tk 6 76 (h := ⟨_, tv, ?_⟩)
    simp only [pE, List.set]
    refine tk 7 77 (h := ⟨_, tv, ?_⟩)
    simp only [pE, List.set]
    refine tk 8 78 (h := ⟨_, tv, ?_⟩)
    simp only [pE, List.set]
    refine tk 9 79 (h := ⟨_, tv, ?_⟩)
    simp only [pE, List.set]
    refine tk 10 80 (h := ⟨_, tv, ?_⟩)
    simp only [pE, List.set]
    refine tk 11 81 (h := ⟨_, tv, ?_⟩)
    simp only [pE, List.set]
    refine tk 12 82 (h := ⟨_, tv, ?_⟩)
    simp only [pE, List.set]
    refine tk 13 83 (h := ⟨_, tv, ?_⟩)
    simp only [pE, List.set]
    refine tk 14 84 (h := ⟨_, tv, ?_⟩)
    simp only [pE, List.set]
    refine tk 15 85 (h := ⟨_, tv, ?_⟩)
    simp only [pE, List.set]
    refine tk 16 86 (h := ⟨_, tv, ?_⟩)
    simp only [pE, List.set]
    refine tk 17 87 (h := ⟨_, tv, ?_⟩)
    simp only [pE, List.set]
    refine tk 18 88 (h := ⟨_, tv, ?_⟩)
    simp only [pE, List.set]
    refine tk 19 89 (h := ⟨_, tv, ?_⟩)
    simp only [pE, List.set]
    refine tk 20 90 (h := ⟨_, tv, ?_⟩)
    simp only [pE, List.set]
    refine tk 21 91 (h := ⟨_, tv, ?_⟩)
    simp only [pE, List.set]
    refine tk 22 92 (h := ⟨_, tv, ?_⟩)
    simp only [pE, List.set]
    refine tk 23 93 (h := ⟨_, tv, ?_⟩)
    simp only [pE, List.set]
    refine tk 24 94 (h := ⟨_, tv, ?_⟩)
    simp only [pE, List.set]
    refine tk 25 95 (h := ⟨_, tv, ?_⟩)
    simp only [pE, List.set]
    refine tk 26 96 (h := ⟨_, tv, ?_⟩)
    simp only [pE, List.set]
    refine tk 27 97 (h := ⟨_, tv, ?_⟩)
    simp only [pE, List.set]
    refine tk 28 98 (h := ⟨_, tv, ?_⟩)
    simp only [pE, List.set]
    refine tk 29 99 (h := ⟨_, tv, ?_⟩)
    simp only [pE, List.set]
    refine tk 30 100 (h := ⟨_, tv, ?_⟩)
    simp only [pE, List.set]
    refine tk 31 101 (h := ⟨_, tv, ?_⟩)
    simp only [pE, List.set]
    refine tk 32 102 (h := ⟨_, tv, ?_⟩)
    simp only [pE, List.set]
    refine tk 33 103 (h := ⟨_, tv, ?_⟩)
    simp only [pE, List.set]
    refine tk 34 104 (h := ⟨_, tv, ?_⟩)
    simp only [pE, List.set]
    refine tk 35 105 (h := ⟨_, tv, ?_⟩)
    simp only [pE, List.set]
    refine tk 36 106 (h := ⟨_, tv, ?_⟩)
    simp only [pE, List.set]
    refine tk 37 107 (h := ⟨_, tv, ?_⟩)
    simp only [pE, List.set]
    refine tk 38 108 (h := ⟨_, tv, ?_⟩)
    simp only [pE, List.set]
    refine tk 39 109 (h := ⟨_, tv, ?_⟩)
    simp only [pE, List.set]
    refine tk 40 110 (h := ⟨_, tv, ?_⟩)
    simp only [pE, List.set]
    refine tk 41 111 (h := ⟨_, tv, ?_⟩)
    simp only [pE, List.set]
    refine tk 42 112 (h := ⟨_, tv, ?_⟩)
    simp only [pE, List.set]
    refine tk 43 113 (h := ⟨_, tv, ?_⟩)
    simp only [pE, List.set]
    refine tk 44 114 (h := ⟨_, tv, ?_⟩)
    simp only [pE, List.set]
    refine tk 45 115 (h := ⟨_, tv, ?_⟩)
    simp only [pE, List.set]
    refine tk 46 116 (h := ⟨_, tv, ?_⟩)
    simp only [pE, List.set]
    refine tk 47 117 (h := ⟨_, tv, ?_⟩)
    simp only [pE, List.set]
    refine tk 48 118 (h := ⟨_, tv, ?_⟩)
    simp only [pE, List.set]
    refine tk 49 119 (h := ⟨_, tv, ?_⟩)
    simp only [pE, List.set]
    refine tk 50 120 (h := ⟨_, tv, ?_⟩)
    simp only [pE, List.set]
    refine wpAnyH_done (by kernel_rfl) ?_ _
    go_wp2_with fail
    with_reducible refine (HP6.out _ (Below.refl _ _).drew).mono ?_
    rintro e w6 ⟨A6, c6, he, hT6, _, _, hb6⟩
    rw [HPR.out] at he hT6
    have hEV := HEV.out
    generalize hlf (prN xs ys k) true (List.range k) = va at *
    generalize hlf (prN xs ys k) false (List.range k) = vb at *
    have he : e = .returned (.tuple #[.slice A6 2 c6, .nilIface]) := he
    have hT6 : RdT w6 A6 2 [nats va, nats vb] := hT6
    obtain ⟨b6, o6, U1, n1, d1, l1, rfl, hl1, q0, hr0, _, _⟩ := hT6.at_ (i := 0) (by omega)
    obtain rfl : nats va = l1 := by injection hl1
    have hn1 : va.length = n1 := by have := hr0.1; simpa [nats] using this
    obtain ⟨b6', o6', U2, n2, d2, l2, eA, hl2, q1, hr1, _, _⟩ := hT6.at_ (i := 1) (by omega)
    cases eA
    obtain rfl : nats vb = l2 := by injection hl2
    have hn2 : vb.length = n2 := by have := hr1.1; simpa [nats] using this
    rw [hn1, hn2] at hEV
    have HB6 := Lib.hid (Bel.step HB5.out ((Below.refl _ _).drew.trans hb6))
    obtain ⟨ev1, ev2, ev3⟩ := hEV
    simp only [Nat.add_zero] at q0
    subst he
    have HSX := Lib.hid (show ∀ V, Below w6.heap.size w6 V → V.cell? ⟨b6, o6, none⟩ = some (.slice U1 n1 d1) ∧ V.cell? ⟨b6, o6 + 1, none⟩ = some (.slice U2 n2 d2) ∧ IntKind.i64.wrap ((n1 : Int) - (n2 : Int)) = (n1 : Int) - (n2 : Int) ∧ IntKind.i64.wrap ((n1 : Int) + (n2 : Int)) = (k : Int) ∧ (n1 : Int) + (n2 : Int) = (k : Int) ∧ (((n1 : Int) + (n2 : Int)) == (k : Int)) = true ∧ decide ((n1 : Int) + (n2 : Int) = (k : Int)) = true ∧ decide (n1 + n2 = k) = true ∧ (n1 + n2 == k) = true ∧ n1 + n2 = k ∧ IntKind.i64.wrap (k : Int) = (k : Int) ∧ decide ((n1 : Int) - (n2 : Int) ≥ -1) = true ∧ decide (-1 ≤ (n1 : Int) - (n2 : Int)) = true ∧ decide ((n1 : Int) - (n2 : Int) ≤ 1) = true from
      fun V hV => ⟨Below.cellOf hV (Nat.le_refl _) q0, Below.cellOf hV (Nat.le_refl _) q1, IntWalk.i64_in _ (by omega), by rw [show (n1 : Int) + (n2 : Int) = (k : Int) by omega]; exact IntWalk.i64_in _ (by omega), by omega, decide_eq_true (by omega), decide_eq_true (by omega), decide_eq_true (by omega), decide_eq_true (by omega), by omega, IntWalk.i64_in _ (by omega), decide_eq_true (by omega), decide_eq_true (by omega), decide_eq_true (by omega)⟩)
    clear hT6 hl1 hl2 hr0 hr1 q0 q1 hb6 hn1 hn2 HEV HPR HP6
    go_wp2_with fail
    refine wp_region_held_drew (S := fun V => Below w6.heap.size w6 V) (by kernel_rfl) (Below.refl _ _).drew (fun _ => ?_)
    refine tk 0 137 (h := ⟨_, tv, ?_⟩)
    simp only [pE, List.set]
    refine tk 1 138 (h := ⟨_, tv, ?_⟩)
    simp only [pE, List.set]
    refine tk 2 139 (h := ⟨_, tv, ?_⟩)
    simp only [pE, List.set]
    refine tk 3 140 (h := ⟨_, tv, ?_⟩)
    simp only [pE, List.set]
    refine tk 4 141 (h := ⟨_, tv, ?_⟩)
    simp only [pE, List.set]
    refine tk 5 142 (h := ⟨_, tv, ?_⟩)
    simp only [pE, List.set]
    refine tk 6 143 (h := ⟨_, tv, ?_⟩)
    simp only [pE, List.set]
    refine tk 7 144 (h := ⟨_, tv, ?_⟩)
    simp only [pE, List.set]
    refine tk 8 145 (h := ⟨_, tv, ?_⟩)
    simp only [pE, List.set]
    refine tk 9 13 (h := ⟨_, tv, ?_⟩)
    simp only [pE, List.set]
    refine wpAnyH_done (by kernel_rfl) ?_ _
    go_wp2_with fail
    refine wp_region_held_drew (S := fun V => Below w6.heap.size w6 V) (by kernel_rfl) (Below.refl _ _).drew.drew (fun _ => ?_)
    refine tk 0 146 (h := ⟨_, tv, ?_⟩)
    simp only [pE, List.set]
    refine tk 1 147 (h := ⟨_, tv, ?_⟩)
    simp only [pE, List.set]
    refine tk 2 148 (h := ⟨_, tv, ?_⟩)
    simp only [pE, List.set]
    refine tk 3 149 (h := ⟨_, tv, ?_⟩)
    simp only [pE, List.set]
    refine tk 4 150 (h := ⟨_, tv, ?_⟩)
    simp only [pE, List.set]
    refine tk 5 151 (h := ⟨_, tv, ?_⟩)
    simp only [pE, List.set]
    refine tk 6 152 (h := ⟨_, tv, ?_⟩)
    simp only [pE, List.set]
    refine tk 7 153 (h := ⟨_, tv, ?_⟩)
    simp only [pE, List.set]
    refine tk 8 154 (h := ⟨_, tv, ?_⟩)
    simp only [pE, List.set]
    refine tk 9 155 (h := ⟨_, tv, ?_⟩)
    simp only [pE, List.set]
    refine tk 10 156 (h := ⟨_, tv, ?_⟩)
    simp only [pE, List.set]
    refine tk 11 157 (h := ⟨_, tv, ?_⟩)
    simp only [pE, List.set]
    refine tk 12 158 (h := ⟨_, tv, ?_⟩)
    simp only [pE, List.set]
    refine tk 13 159 (h := ⟨_, tv, ?_⟩)
    simp only [pE, List.set]
    refine tk 14 160 (h := ⟨_, tv, ?_⟩)
    simp only [pE, List.set]
    refine tk 15 161 (h := ⟨_, tv, ?_⟩)
    simp only [pE, List.set]
    refine tk 16 162 (h := ⟨_, tv, ?_⟩)
    simp only [pE, List.set]
    refine tk 17 163 (h := ⟨_, tv, ?_⟩)
    simp only [pE, List.set]
    refine tk 18 164 (h := ⟨_, tv, ?_⟩)
    simp only [pE, List.set]
    refine tk 19 165 (h := ⟨_, tv, ?_⟩)
    simp only [pE, List.set]
    refine tk 20 4 (h := ⟨_, tv, ?_⟩)
    simp only [pE, List.set]
    refine wpAnyH_done (by kernel_rfl) ?_ _
    go_wp2_with fail
    go_ret
    exact ⟨rfl, HB6.out.drew.drew⟩
theorem nestPairs_walk (A : Option Addr) (n ca : Nat) (xs : List Int) (B : Option Addr) (m cb : Nat) (ys : List Int) (w : World) (hx : RdK .i16 w A n xs) (_ : n ≤ 4000000000000000000) (hrx : ∀ x ∈ xs, -32768 ≤ x ∧ x ≤ 32767) (hy : RdK .i16 w B m ys) (_ : m ≤ 4000000000000000000) (hry : ∀ x ∈ ys, -32768 ≤ x ∧ x ≤ 32767) (hg : w.cell? ⟨0, 0, none⟩ = some errT) :
    Calls Tryz.prog 5 #[.slice A n ca, .slice B m cb] w fun e w' => e = .returned (.bool true) ∧ Below w.heap.size w w' := pairs_ok A B n m ca cb xs ys w hx hy hrx hry hg
end Go.Proofs.YtpffhoefmcpniaaGreatDoor
