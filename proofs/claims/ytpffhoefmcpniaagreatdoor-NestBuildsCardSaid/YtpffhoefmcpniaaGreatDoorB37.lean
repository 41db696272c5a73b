/- Parts of the proof: Nf5, Nf6. -/
import Derived.Test.YtpffhoefmcpniaaGreatDoorB1
import Derived.Test.YtpffhoefmcpniaaGreatDoorB33
import Derived.Test.YtpffhoefmcpniaaGreatDoorB35
import Derived.Test.YtpffhoefmcpniaaGreatDoorB36
namespace Go.Proofs.YtpffhoefmcpniaaGreatDoor
open Go.RowKit

attribute [local go_sem ↓] Go.wp_at_zero Go.wp_at_succ

def FreshR (B : Nat) (xs : List Value) : Prop := ∀ (j : Nat) A' n' c', xs[j]? = some (.slice A' n' c') → ∀ g, blkOf A' = some g → B ≤ g
theorem FreshR.mono {B B' : Nat} {xs : List Value} (h : FreshR B xs) (hb : B' ≤ B) : FreshR B' xs := fun j A' n' c' e g hg => Nat.le_trans hb (h j A' n' c' e g hg)
theorem FreshR.app {B : Nat} {xs ys : List Value} (h : FreshR B xs) (g : FreshR B ys) : FreshR B (xs ++ ys) := fun j A' n' c' e => by
 rcases Nat.lt_or_ge j xs.length with h1 | h1
 · rw [List.getElem?_append_left h1] at e
   exact h j A' n' c' e
 · rw [List.getElem?_append_right h1] at e
   exact g _ A' n' c' e
theorem RwO.monoB {W : World} {B B' n c : Nat} {t : TypeId} {A : Option Addr} {xs : List Value} {ls : List (List Int)} (h : RwO W B t A n c xs ls) (hb : B' ≤ B) : RwO W B' t A n c xs ls := ⟨h.1.mono hb, h.2.1, h.2.2⟩
theorem Own.xlen {w : World} {B n c : Nat} {e : TypeId} {A : Option Addr} {xs : List Value} (h : Own w B e 1 A n c xs) : xs.length = n := by
 have := h.rds.1
 simpa using this
theorem RwO.join {W w' : World} {B B2 n c n2 c2 c' : Nat} {t : TypeId} {A A2 A' : Option Addr} {xs xs2 : List Value} {ls ls2 : List (List Int)} (h1 : RwO W B t A n c xs ls) (h2 : RwO W B2 t A2 n2 c2 xs2 ls2) (hA : ∀ g, blkOf A = some g → g < B2) (h3 : FreshR B2 xs2)
 (hown : Own w' B t 1 A' (n + n2) c' (xs ++ xs2)) (hg : W.grownBy w' (blkOf A)) (hat : blkOf A' = blkOf A ∨ blkOf A' = some W.heap.size) : RwO w' B t A' (n + n2) c' (xs ++ xs2) (ls ++ ls2) := by
 have hx := h1.1.xlen
 have hl := h1.2.1
 have key : ∀ {R : Option Addr} {m : Nat} {l : List Int}, RdI W R m l → (∀ g, blkOf R = some g → g < W.heap.size ∧ blkOf A ≠ some g) → RdI w' R m l ∧ ∀ g, blkOf R = some g → g < w'.heap.size ∧ blkOf A' ≠ some g := fun hr hk =>
  ⟨hr.grownN hg (fun g e e2 => (hk g e).2 e2), fun g e => ⟨Nat.lt_of_lt_of_le (hk g e).1 hg.size, fun e2 => by
   rcases hat with q | q
   · exact (hk g e).2 (by rw [← q]; exact e2)
   · rw [q] at e2
     injection e2 with e2
     have := (hk g e).1
     omega⟩⟩
 refine ⟨hown, by rw [List.length_append, hl, h2.2.1], fun j l hj => ?_⟩
 rcases Nat.lt_or_ge j ls.length with h | h
 · rw [List.getElem?_append_left h] at hj
   obtain ⟨R, m, d, k1, k2, k3, k4, k5⟩ := h1.2.2 j l hj
   have := key k2 k3
   exact ⟨R, m, d, by rw [List.getElem?_append_left (by omega)]; exact k1, this.1, this.2, k4, k5⟩
 · rw [List.getElem?_append_right h] at hj
   obtain ⟨R, m, d, k1, k2, k3, k4, k5⟩ := h2.2.2 _ l hj
   have := key k2 (fun g e => ⟨(k3 g e).1, fun e2 => by have := h3 _ R m d k1 g e; have := hA g e2; omega⟩)
   exact ⟨R, m, d, by rw [List.getElem?_append_right (by omega), hx, ← hl]; exact k1, this.1, this.2, k4, k5⟩
def PRPost (N : NetD) (bd : Nat) (vl : List Nat) (w : World) (e : Ending) (w' : World) : Prop := ∃ A c xs, e = .returned (.slice A (pcs N bd vl).length c) ∧ RwO w' w.heap.size 27 A (pcs N bd vl).length c xs (rowsP (pcs N bd vl)) ∧ FreshR w.heap.size xs ∧ Below w.heap.size w w'
set_option maxHeartbeats 8000000 in
set_option maxRecDepth 20000 in
theorem refPcs_any (A B C : Option Addr) (n m k c d e bd : Nat) (N : NetD) (hN : NetOk N) (hbd : 1 ≤ bd) (hbd2 : bd ≤ 9223372036854775807) : ∀ (L : Nat) (vl : List Nat) (AV : Option Addr) (kv cv : Nat) (w : World), vl.length ≤ L → RdNet w A B C n m k N → RdI w AV kv (nats vl) → PcOk N.vs.length vl →
 Calls Tryz.prog 36 #[.agg #[.slice A n c, .slice B m d, .slice C k e], .slice AV kv cv, .int .i64 (bd : Int)] w (PRPost N bd vl w) := by
 intro L
 induction L with
 | zero =>
  intro vl AV kv cv w hL h hv hok
  obtain rfl : vl = [] := List.eq_nil_of_length_eq_zero (by omega)
  obtain rfl : kv = 0 := by have := hv.1; simpa [nats] using this.symm
  go_enter Tryz.func36, Tryz.ntmps36
  go_wp2_with fail
  go_ret
  have hq := pcs_nil N bd
  exact ⟨none, 0, [], by rw [hq]; rfl, by rw [hq]; exact RwO.nil _ _ _, fun j A' n' c' e => by simp at e, bELt⟩
 | succ L ih =>
  intro vl AV kv cv w hL h hv hok
  have HH := Lib.hid h
  have HV := Lib.hid hv
  have HOK := Lib.hid hok
  have HNK := Lib.hid hN
  have HIH := Lib.hid ih
  have hkl : vl.length = kv := by have := hv.1; simpa [nats] using this
  have hk4 : kv ≤ 4096 := by have := hok.len; have := hN.lv; omega
  have HKL := Lib.hid hkl
  rw [hkl] at hL
  clear h hv hok hkl ih
  by_cases h0 : kv = 0
  · subst h0
    obtain rfl : vl = [] := List.eq_nil_of_length_eq_zero HKL.out
    go_enter Tryz.func36, Tryz.ntmps36
    go_wp2_with fail
    go_ret
    have hq := pcs_nil N bd
    exact ⟨none, 0, [], by rw [hq]; rfl, by rw [hq]; exact RwO.nil _ _ _, fun j A' n' c' e => by simp at e, bELt⟩
  have e0 : ((kv : Int) == 0) = false := beq_eq_false_iff_ne.2 (by omega)
  by_cases hle : kv ≤ bd
  · have e1 : (kv : Int) ≤ (bd : Int) := by omega
    have HQ := Lib.hid (pcs_one N (bd := bd) (vl := vl) (by rw [HKL.out]; exact h0) (.inl (by rw [HKL.out]; exact hle)))
    obtain ⟨W1, hW1⟩ : ∃ W, W = w.alloc (.cells #[.slice A n c, .slice B m d, .slice C k e] 26) := ⟨_, rfl⟩
    have hs1 : W1.heap.size = w.heap.size + 1 := by rw [hW1]; exact Array.size_push _
    have hb1 : Below w.heap.size w W1 := by rw [hW1]; exact bELt
    obtain ⟨W2, hW2⟩ : ∃ W, W = W1.alloc (.cells #[] 3) := ⟨_, rfl⟩
    have hO : Own W2 w.heap.size 3 1 (some ⟨w.heap.size + 1, 0, none⟩) 0 0 [] := by rw [hW2, ← hs1]; exact lit0 (by omega)
    have hb12 : Below W1.heap.size W1 W2 := by rw [hW2]; exact bELt
    have hb2 : Below w.heap.size w W2 := Bel.step hb1 hb12
    have hrd := (HV.out.below hb2).rdsI
    have hsz := hb2.size
    have HW1 := Lib.hid hW1
    have HW2 := Lib.hid hW2
    clear hW1 hW2 hs1 hb1 hb12
    go_enter Tryz.func36, Tryz.ntmps36
    go_wp2_with (at_builtin; rw [← HW1.out, ← HW2.out]; with_reducible refine wpList_app rfl (.tmp 16) (.tmp 17) 27 rfl 3 _ 1 8 infoInt Tryz.underlying27 rfl (by omega) rfl rfl hO hrd (icells_one _) (by omega) (by omega) hsz ?_)
    intro A5 c5 w5 ho5 hg5 hat5
    have hb5 : Below w.heap.size w w5 := Bel.grownOwn hb2 hg5 hO hsz
    have ho5 : Own w5 w.heap.size 3 1 A5 kv c5 (icells (nats vl)) := ho5
    have HO5 := Lib.hid ho5
    clear hO hrd hg5 hat5 ho5
    go_wp2_with fail
    go_ret
    rw [PRPost, HQ.out]
    have hbl : Below w5.heap.size w5 (w5.alloc (.cells #[.slice A5 kv c5] 27)) := bELt
    refine ⟨_, _, [.slice A5 kv c5], rfl, ⟨Own.lit w5 #[.slice A5 kv c5] 1 hb5.size (by omega) rfl, rfl, fun j l hj => ?_⟩, fun j A' n' c' hj g hg => ?_, Bel.step hb5 hbl⟩
    · rcases j with _ | j
      · obtain rfl : nats vl = l := by injection hj
        exact ⟨A5, kv, c5, rfl, HO5.out.rds.rdI.below hbl, fun g hg => ⟨Nat.lt_of_lt_of_le (HO5.out.lt g hg).2 hbl.size, fun e => by
         have := (HO5.out.lt g hg).2
         injection e with e
         simp only at e
         omega⟩, HO5.out.cap, HO5.out.capMax⟩
      · simp [rowsP] at hj
    · rcases j with _ | j
      · injection hj with hj
        injection hj with h1 h2 h3
        subst h1
        exact (HO5.out.lt g hg).1
      · simp at hj
  · have e1 : ¬ (kv : Int) ≤ (bd : Int) := by omega
    have HQ := Lib.hid (pcs_two N (bd := bd) (vl := vl) (by rw [HKL.out]; omega) (by rw [HKL.out]; omega))
    have hlt1 : (hlf N true vl).length < kv := by have := (hlf_len N true (vl := vl) (by rw [HKL.out]; omega)).1; rw [HKL.out] at this; exact this
    have hlt2 : (hlf N false vl).length < kv := by have := (hlf_len N false (vl := vl) (by rw [HKL.out]; omega)).1; rw [HKL.out] at this; exact this
    have HOK1 := Lib.hid (HOK.out.hlf N true)
    have HOK2 := Lib.hid (HOK.out.hlf N false)
    have hq1 : (pcs N bd (hlf N true vl)).length ≤ 4096 := by have := pcs_len_le N bd HOK1.out; omega
    have hq2 : (pcs N bd (hlf N false vl)).length ≤ 4096 := by have := pcs_len_le N bd HOK2.out; omega
    go_enter Tryz.func36, Tryz.ntmps36
    go_wp2_with fail
    (refine calls_named ?_; intro w1 hw1)
    have hb1 : Below w.heap.size w w1 := by rw [hw1]; exact bELt
    have hX1 : Blk w1 w.heap.size 26 #[.slice A n c, .slice B m d, .slice C k e] := by rw [hw1]; exact bLNt
    clear hw1
    with_reducible refine (refHalves_any A B C AV n m k c d e kv cv N vl w1 (HH.out.below hb1) HNK.out (HV.out.below hb1) HOK.out (by rw [HKL.out]; omega)).mono ?_
    rintro r w2 ⟨A1, c1, A2, c2, rfl, h1, h2, hb2⟩
    have HB2 := Lib.hid (Bel.step hb1 hb2)
    have HR1 := Lib.hid h1
    have HR2 := Lib.hid h2
    have hX2 := hX1.below hb2 hX1.lt
    have x0 : w2.cell? ⟨w.heap.size, 0, none⟩ = some (.slice A n c) := by rw [hX2.cell]; rfl
    have x1 : w2.cell? ⟨w.heap.size, 1, none⟩ = some (.slice B m d) := by rw [hX2.cell]; rfl
    have x2 : w2.cell? ⟨w.heap.size, 2, none⟩ = some (.slice C k e) := by rw [hX2.cell]; rfl
    have HSX := Lib.hid (show ∀ V, Below w2.heap.size w2 V → V.cell? ⟨w.heap.size, 0, none⟩ = some (.slice A n c) ∧ V.cell? ⟨w.heap.size, 1, none⟩ = some (.slice B m d) ∧ V.cell? ⟨w.heap.size, 2, none⟩ = some (.slice C k e) from fun V hV => ⟨Below.cellOf hV (Nat.le_refl _) x0, Below.cellOf hV (Nat.le_refl _) x1, Below.cellOf hV (Nat.le_refl _) x2⟩)
    have HI1 := Lib.hid (show ∀ V, Below w2.heap.size w2 V → Calls Tryz.prog 36 #[.agg #[.slice A n c, .slice B m d, .slice C k e], .slice A1 (hlf N true vl).length c1, .int .i64 (bd : Int)] V (PRPost N bd (hlf N true vl) V) from fun V hV => HIH.out _ A1 _ c1 V (by omega) (HH.out.below (Bel.step HB2.out hV)) (HR1.out.below hV) HOK1.out)
    have HI2 := Lib.hid (show ∀ V, Below w2.heap.size w2 V → Calls Tryz.prog 36 #[.agg #[.slice A n c, .slice B m d, .slice C k e], .slice A2 (hlf N false vl).length c2, .int .i64 (bd : Int)] V (PRPost N bd (hlf N false vl) V) from fun V hV => HIH.out _ A2 _ c2 V (by omega) (HH.out.below (Bel.step HB2.out hV)) (HR2.out.below hV) HOK2.out)
    clear h1 h2 hb1 hb2 hX1 hX2 x0 x1 x2 HIH
    go_wp2_with fail
    refine wp_region_held_drew (S := fun V => Below w2.heap.size w2 V) (by kernel_rfl) (Below.refl _ _).drew (fun _ => ?_)
    refine tk 0 26 (h := ⟨_, tv, ?_⟩)
    simp only [pE, List.set]
    refine tk 1 27 (h := ⟨_, tv, ?_⟩)
    simp only [pE, List.set]
    refine tk 2 28 (h := ⟨_, tv, ?_⟩)
    simp only [pE, List.set]
    refine tk 4 30 (h := ⟨_, tv, ?_⟩)
    simp only [pE, List.set]
    refine tk 5 31 (h := ⟨_, tv, ?_⟩)
    simp only [pE, List.set]
    refine tk 6 32 (h := ⟨_, tv, ?_⟩)
    simp only [pE, List.set]
    refine wpAnyH_ready (rs := [3]) (by kernel_rfl) (by simp) ?_
    refine AllReadyH.cons (o := _) rfl (fun K hK => ?_) AllReadyH.nil
    go_simp
    with_reducible refine (HI1.out _ (Below.refl _ _).drew).mono ?_
    rintro e V1 ⟨A3, c3, xs3, rfl, hw3, hf3, hv1⟩
    have hzd : w2.drew.heap.size = w2.heap.size := rfl
    rw [hzd] at hw3 hf3
    have hv1 : Below w2.heap.size w2 V1 := (Below.refl _ _).drew.trans hv1
    go_simp
    refine hK.out _ _ hv1 (fun _ => ?_)
    clear hK K
    refine wpAnyH_ready (rs := [7]) (by kernel_rfl) (by simp) ?_
    refine AllReadyH.cons (o := _) rfl (fun K hK => ?_) AllReadyH.nil
    go_simp
    with_reducible refine (HI2.out _ hv1).mono ?_
    rintro e V2 ⟨A4, c4, xs4, rfl, hw4, hf4, hv12⟩
    have hv2 : Below w2.heap.size w2 V2 := Bel.step hv1 hv12
    have hw32 := hw3.below hv12
    have hltA : ∀ g, blkOf A3 = some g → g < V1.heap.size := fun g hg => (hw3.1.lt g hg).2
    have hown := hw32.1
    have hrd := hw4.1.rds
    have hone : ∀ u ∈ xs4, u.oneCell' = true := fun u hu => by
     obtain ⟨j, hj⟩ := List.getElem?_of_mem hu
     have hjl : j < (rowsP (pcs N bd (hlf N false vl))).length := by
      have := (List.getElem?_eq_some_iff.1 hj).1
      rw [hw4.1.xlen] at this
      rw [hw4.2.1]; exact this
     obtain ⟨R, m', d', k1, _⟩ := hw4.2.2 j _ (List.getElem?_eq_getElem hjl)
     rw [hj] at k1
     obtain rfl := Option.some.inj k1
     rfl
    have hszv := hv2.size
    have HW3 := Lib.hid hw32
    have HW4 := Lib.hid hw4
    have HF3 := Lib.hid hf3
    have HF4 := Lib.hid hf4
    have HLA := Lib.hid hltA
    have HV2 := Lib.hid hv2
    have HZ1 := Lib.hid hv1.size
    have HZ12 := Lib.hid hv12.size
    clear hw3 hw4 hf3 hf4 hw32 hltA hv1 hv12 HI1 HI2
    go_simp
    refine hK.out _ _ hv2 (fun _ => ?_)
    clear hK K hv2
    refine wpAnyH_ready (rs := [8]) (by kernel_rfl) (by simp) ?_
    refine AllReadyH.cons (o := _) rfl (fun K hK => ?_) AllReadyH.nil
    with_reducible refine step_app' (some 34) rfl rfl (.tmp 29) (.tmp 33) 32 rfl 27 _ 1 24 infoRw Tryz.underlying32 rfl (by omega) rfl rfl hown hrd hone (by omega) (by omega) hszv ?_
    intro A5 c5 V5 own5 hg5 hat5
    have hb5 : Below w2.heap.size w2 V5 := Bel.grownOwn HV2.out hg5 hown hszv
    have HJ := Lib.hid (HW3.out.join HW4.out HLA.out HF4.out own5 hg5 hat5)
    have HB5 := Lib.hid hb5
    refine hK.out _ _ hb5 (fun _ => ?_)
    clear hK K hown hrd hone own5 hg5 hat5 hb5
    simp only [Act.put, List.setIfInBounds_toArray, List.set_cons_zero, List.set_cons_succ]
    refine tk 9 6 (h := ⟨_, tv, ?_⟩)
    simp only [pE, List.set]
    refine wpAnyH_done (by kernel_rfl) ?_ _
    go_wp2_with fail
    go_ret
    rw [PRPost, HQ.out, List.length_append]
    refine ⟨A5, c5, _, rfl, ?_, (HF3.out.mono HB2.out.size).app (HF4.out.mono (Nat.le_trans HB2.out.size HZ1.out)), Bel.step HB2.out HB5.out⟩
    have := HJ.out.monoB HB2.out.size
    rw [show rowsP (pcs N bd (hlf N true vl) ++ pcs N bd (hlf N false vl)) = rowsP (pcs N bd (hlf N true vl)) ++ rowsP (pcs N bd (hlf N false vl)) by simp [rowsP]]
    exact this
end Go.Proofs.YtpffhoefmcpniaaGreatDoor

namespace Go.Proofs.YtpffhoefmcpniaaGreatDoor
open Go.RowKit

attribute [local go_sem ↓] Go.wp_at_zero Go.wp_at_succ

theorem RwO.setFar {W : World} {B n c : Nat} {t : TypeId} {A : Option Addr} {xs : List Value} {ls : List (List Int)} (h : RwO W B t A n c xs ls) (hf : FreshR B xs) {g i : Nat} (hg : g < B) (v : Value) : RwO (W.setCell ⟨g, i, none⟩ v) B t A n c xs ls :=
 ⟨h.1.setB hg v, h.2.1, fun j l hj => by
  obtain ⟨R, m, d, k1, k2, k3, k4, k5⟩ := h.2.2 j l hj
  exact ⟨R, m, d, k1, k2.far v (fun e => by have := hf j R m d k1 g e; omega), fun q e => ⟨by simpa [World.setCell] using (k3 q e).1, (k3 q e).2⟩, k4, k5⟩⟩
def RPPost (q : List (List Nat)) (w : World) (e : Ending) (w' : World) : Prop := ∃ A c, e = .returned (.tuple #[.slice A q.length c, .agg #[.slice none 0 0, .int .i64 0]]) ∧ RdT w' A q.length (rowsP q) ∧ Below w.heap.size w w'
set_option maxHeartbeats 8000000 in
set_option maxRecDepth 20000 in
theorem refPieces_ok (A B C AV : Option Addr) (n m k c d e kv cv bd : Nat) (N : NetD) (vs : List Int) (w : World) (h : RdNet w A B C n m k N) (hN : NetOk N) (hv : RdI w AV kv vs) (hok : VrtOk N.vs.length vs) (hbd : 1 ≤ bd) (hbd2 : bd ≤ 9223372036854775807) :
 Calls Tryz.prog 20 #[.agg #[.slice A n c, .slice B m d, .slice C k e], .slice AV kv cv, .int .i64 (bd : Int)] w (RPPost (pcs N bd (natsOf vs)) w) := by
 have HH := Lib.hid h
 have HV := Lib.hid hv
 have HNK := Lib.hid hN
 have hnl : N.vs.length = n := h.1.1
 have hkl : vs.length = kv := hv.1
 have HOK := Lib.hid (show ∀ j, j < kv → vGood n vs j from fun j hj => by rw [← hnl]; exact hok j (by rw [hkl]; exact hj))
 have HPK := Lib.hid hok.ok
 have HVN := Lib.hid hok.nats
 have hk4 : kv ≤ 4096 := by have h1 := hok.ok.len; rw [natsOf_len, hkl] at h1; have := hN.lv; omega
 have hb0 : ¬ (bd : Int) < 1 := by omega
 clear h hv hok hN hnl hkl
 go_enter Tryz.func20, Tryz.ntmps20
 go_wp2_with fail
 (refine wp_named ?_; intro w1 hw1)
 have hb1 : Below w.heap.size w w1 := by rw [hw1]; exact bELt
 have HX1 := Lib.hid (show Blk w1 w.heap.size 26 #[.slice A n c, .slice B m d, .slice C k e] by rw [hw1]; exact bLNt)
 have HR1 := Lib.hid (show Blk w1 (w.heap.size + 1) 42 #[.slice none 0 0, .int .i64 0] by rw [hw1]; exact bLNt)
 have HB1 := Lib.hid hb1
 clear hw1 hb1
 go_loopw [8] (fun q W => Below w1.heap.size w1 W ∧ ∃ j : Nat, j ≤ kv ∧ q = .int .i64 (j : Int)) (fun q _ => kv - (intOf q).toNat)
 case atStart => exact ⟨Below.refl _ _, 0, Nat.zero_le _, rfl⟩
 case round =>
  obtain ⟨hbl, j, hj, rfl⟩ := hrel
  have HBL := Lib.hid hbl
  have p0 : wr.cell? ⟨w.heap.size, 0, none⟩ = some (.slice A n c) := by rw [(HX1.out.below hbl HX1.out.lt).cell]; rfl
  have p1 : wr.cell? ⟨w.heap.size, 1, none⟩ = some (.slice B m d) := by rw [(HX1.out.below hbl HX1.out.lt).cell]; rfl
  have p2 : wr.cell? ⟨w.heap.size, 2, none⟩ = some (.slice C k e) := by rw [(HX1.out.below hbl HX1.out.lt).cell]; rfl
  clear hbl
  by_cases hjo : j < kv
  · obtain ⟨vb, vo, x, rfl, hx, hc⟩ := (HV.out.below (Bel.step HB1.out HBL.out)).at_ hjo
    have HX := Lib.hid hx
    clear hx p1 p2
    have i1 : (0 : Int) ≤ (j : Int) := by omega
    have i2 : (j : Int) < (kv : Int) := by omega
    obtain ⟨x', hx', x0, x1, xa⟩ := HOK.out j hjo
    rw [HX.out] at hx'
    obtain rfl : x = x' := by injection hx'
    have HXA := Lib.hid xa
    have x2 : decide (x < 0) = false := decide_eq_false (by omega)
    have x3 : decide (x ≥ (n : Int)) = false := decide_eq_false (by omega)
    have x4 : decide ((n : Int) ≤ x) = false := decide_eq_false (by omega)
    have HSX := Lib.hid (show ∀ V, Below wr.heap.size wr V → V.cell? ⟨vb, vo + j, none⟩ = some (.int .i64 x) ∧ V.cell? ⟨w.heap.size, 0, none⟩ = some (.slice A n c) ∧ decide (x < 0) = false ∧ decide (x ≥ (n : Int)) = false ∧ decide ((n : Int) ≤ x) = false ∧ (0 : Int) ≤ (j : Int) ∧ (j : Int) < (kv : Int) from fun V hV => ⟨Below.cellOf hV (Nat.le_refl _) hc, Below.cellOf hV (Nat.le_refl _) p0, x2, x3, x4, i1, i2⟩)
    clear hx' xa x2 x3 x4
    go_wp2_with fail
    refine wp_region_held_drew (S := fun V => Below wr.heap.size wr V) (by kernel_rfl) (Below.refl _ _).drew (fun _ => ?_)
    refine tk 0 18 (h := ⟨_, tv, ?_⟩)
    simp only [pE, List.set]
    refine tk 1 19 (h := ⟨_, tv, ?_⟩)
    simp only [pE, List.set]
    refine tk 2 20 (h := ⟨_, tv, ?_⟩)
    simp only [pE, List.set]
    refine tk 3 21 (h := ⟨_, tv, ?_⟩)
    simp only [pE, List.set]
    refine tk 4 22 (h := ⟨_, tv, ?_⟩)
    simp only [pE, List.set]
    refine tk 5 23 (h := ⟨_, tv, ?_⟩)
    simp only [pE, List.set]
    refine tk 6 24 (h := ⟨_, tv, ?_⟩)
    simp only [pE, List.set]
    refine tk 7 25 (h := ⟨_, tv, ?_⟩)
    simp only [pE, List.set]
    refine tk 8 26 (h := ⟨_, tv, ?_⟩)
    simp only [pE, List.set]
    refine tk 9 27 (h := ⟨_, tv, ?_⟩)
    simp only [pE, List.set]
    refine tk 10 28 (h := ⟨_, tv, ?_⟩)
    simp only [pE, List.set]
    refine tk 11 29 (h := ⟨_, tv, ?_⟩)
    simp only [pE, List.set]
    refine tk 12 30 (h := ⟨_, tv, ?_⟩)
    simp only [pE, List.set]
    refine tk 13 31 (h := ⟨_, tv, ?_⟩)
    simp only [pE, List.set]
    refine tk 14 32 (h := ⟨_, tv, ?_⟩)
    simp only [pE, List.set]
    refine wpAnyH_done (by kernel_rfl) ?_ _
    clear HSX
    by_cases hz : j = 0
    · have e0 : decide ((j : Int) > 0) = false := decide_eq_false (by omega)
      have e00 : decide (0 < j) = false := decide_eq_false (by omega)
      have HSX := Lib.hid (show ∀ V, Below wr.heap.size wr V → decide ((j : Int) > 0) = false ∧ decide (0 < j) = false from fun V hV => ⟨e0, e00⟩)
      clear hz e0 e00
      go_wp2_with fail
      refine wp_region_held_drew (S := fun V => Below wr.heap.size wr V) (by kernel_rfl) (Below.refl _ _).drew.drew (fun _ => ?_)
      refine tk 0 35 (h := ⟨_, tv, ?_⟩)
      simp only [pE, List.set]
      refine tk 1 36 (h := ⟨_, tv, ?_⟩)
      simp only [pE, List.set]
      refine tk 2 37 (h := ⟨_, tv, ?_⟩)
      simp only [pE, List.set]
      refine tu 3 38 (h := ?_)
      simp only [pE, List.set]
      refine tu 4 39 (h := ?_)
      simp only [pE, List.set]
      refine tu 5 40 (h := ?_)
      simp only [pE, List.set]
      refine tu 6 41 (h := ?_)
      simp only [pE, List.set]
      refine tu 7 42 (h := ?_)
      simp only [pE, List.set]
      refine tu 8 43 (h := ?_)
      simp only [pE, List.set]
      refine tu 9 44 (h := ?_)
      simp only [pE, List.set]
      refine tu 10 45 (h := ?_)
      simp only [pE, List.set]
      refine tu 11 46 (h := ?_)
      simp only [pE, List.set]
      refine tu 12 47 (h := ?_)
      simp only [pE, List.set]
      refine tk 13 48 (h := ⟨_, tv, ?_⟩)
      simp only [pE, List.set]
      refine wpAnyH_done (by kernel_rfl) ?_ _
      have hbd := HBL.out.drew.drew
      go_wp2_with fail
      go_roundw
      case rel => exact ⟨hbd, j + 1, by omega, by go_num⟩
      case measure => simp [intOf]; omega
    · obtain ⟨i, rfl⟩ : ∃ i, j = i + 1 := ⟨j - 1, by omega⟩
      obtain ⟨b', o', y, e, hy, hcy⟩ := (HV.out.below (Bel.step HB1.out HBL.out)).at_ (show i < kv by omega)
      cases e
      have y1 := HXA.out y (by omega) hy
      have e3 : (i : Int) < (kv : Int) := by omega
      have HSX := Lib.hid (show ∀ V, Below wr.heap.size wr V → V.cell? ⟨vb, vo + (i + 1), none⟩ = some (.int .i64 x) ∧ V.cell? ⟨vb, vo + i, none⟩ = some (.int .i64 y) ∧ decide (((i + 1 : Nat) : Int) > 0) = true ∧ decide ((i : Int) + 1 > 0) = true ∧ decide (0 < (i : Int) + 1) = true ∧ decide (x ≤ y) = false ∧ (i : Int) + 1 - 1 = (i : Int) ∧ IntKind.i64.wrap (i : Int) = (i : Int) ∧ (0 : Int) ≤ (i : Int) ∧ (i : Int) < (kv : Int) ∧ (0 : Int) ≤ (i : Int) + 1 ∧ (i : Int) + 1 < (kv : Int) from fun V hV => ⟨Below.cellOf hV (Nat.le_refl _) hc, Below.cellOf hV (Nat.le_refl _) hcy, decide_eq_true (by omega), decide_eq_true (by omega), decide_eq_true (by omega), decide_eq_false (by omega), by omega, IntWalk.i64_in _ (by omega), by omega, e3, by omega, by omega⟩)
      clear hz hy y1 hcy
      go_wp2_with fail
      refine wp_region_held_drew (S := fun V => Below wr.heap.size wr V) (by kernel_rfl) (Below.refl _ _).drew.drew (fun _ => ?_)
      refine tk 0 35 (h := ⟨_, tv, ?_⟩)
      simp only [pE, List.set]
      refine tk 1 36 (h := ⟨_, tv, ?_⟩)
      simp only [pE, List.set]
      refine tk 2 37 (h := ⟨_, tv, ?_⟩)
      simp only [pE, List.set]
      refine tk 3 38 (h := ⟨_, tv, ?_⟩)
      simp only [pE, List.set]
      refine tk 4 39 (h := ⟨_, tv, ?_⟩)
      simp only [pE, List.set]
      refine tk 5 40 (h := ⟨_, tv, ?_⟩)
      simp only [pE, List.set]
      refine tk 6 41 (h := ⟨_, tv, ?_⟩)
      simp only [pE, List.set]
      refine tk 7 42 (h := ⟨_, tv, ?_⟩)
      simp only [pE, List.set]
      refine tk 8 43 (h := ⟨_, tv, ?_⟩)
      simp only [pE, List.set]
      refine tk 9 44 (h := ⟨_, tv, ?_⟩)
      simp only [pE, List.set]
      refine tk 10 45 (h := ⟨_, tv, ?_⟩)
      simp only [pE, List.set]
      refine tk 11 46 (h := ⟨_, tv, ?_⟩)
      simp only [pE, List.set]
      refine tk 12 47 (h := ⟨_, tv, ?_⟩)
      simp only [pE, List.set]
      refine tk 13 48 (h := ⟨_, tv, ?_⟩)
      simp only [pE, List.set]
      refine wpAnyH_done (by kernel_rfl) ?_ _
      have hbd := HBL.out.drew.drew
      go_wp2_with fail
      go_roundw
      case rel => exact ⟨hbd, i + 1 + 1, by omega, by go_num⟩
      case measure => simp [intOf]; omega
  obtain rfl : j = kv := by omega
  have hbw := Bel.step HB1.out HBL.out
  have hrv : RdI wr AV j (nats (natsOf vs)) := by rw [← HVN.out]; exact HV.out.below hbw
  have HPC := Lib.hid (refPcs_any A B C n m k c d e bd N HNK.out hbd hbd2 _ (natsOf vs) AV j cv wr (Nat.le_refl _) (HH.out.below hbw) hrv HPK.out)
  have HBW := Lib.hid hbw
  have hzr := HBL.out.size
  have hz1 := HR1.out.lt
  have hR := HR1.out.below HBL.out HR1.out.lt
  clear hjo hj hrv hbw
  go_wp2_with fail
  with_reducible refine HPC.out.mono ?_
  rintro r w2 ⟨A2, c2, xs, rfl, hw, hf, hb2⟩
  have hR2 := hR.below hb2 hR.lt
  obtain ⟨c0, c1⟩ : w2.cell? ⟨w.heap.size + 1, 0, none⟩ = some (.slice none 0 0) ∧ w2.cell? ⟨w.heap.size + 1, 1, none⟩ = some (.int .i64 0) := ⟨by rw [hR2.cell]; rfl, by rw [hR2.cell]; rfl⟩
  have f0 := hR2.frozen 0
  have f1 := hR2.frozen 1
  have HRW := Lib.hid ((hw.setFar hf (g := w.heap.size + 1) (i := 0) (by omega) (.slice none 0 0)).setFar hf (g := w.heap.size + 1) (i := 1) (by omega) (.int .i64 0))
  have hb3 := Bel.step HBW.out hb2
  have HB3 := Lib.hid ((hb3.setCell (p := ⟨w.heap.size + 1, 0, none⟩) (show w.heap.size ≤ w.heap.size + 1 by omega) (.slice none 0 0)).setCell (p := ⟨w.heap.size + 1, 1, none⟩) (show w.heap.size ≤ w.heap.size + 1 by omega) (.int .i64 0))
  have hR9 := (hR2.set_ 0 (.slice none 0 0)).set_ 1 (.int .i64 0)
  have d0 : ((w2.setCell ⟨w.heap.size + 1, 0, none⟩ (.slice none 0 0)).setCell ⟨w.heap.size + 1, 1, none⟩ (.int .i64 0)).cell? ⟨w.heap.size + 1, 0, none⟩ = some (.slice none 0 0) := by rw [hR9.cell]; rfl
  have d1 : ((w2.setCell ⟨w.heap.size + 1, 0, none⟩ (.slice none 0 0)).setCell ⟨w.heap.size + 1, 1, none⟩ (.int .i64 0)).cell? ⟨w.heap.size + 1, 1, none⟩ = some (.int .i64 0) := by rw [hR9.cell]; rfl
  have HD := Lib.hid (And.intro d0 d1)
  clear hw hf hb2 hb3 hR hR2 hR9 d0 d1 p0 p1 p2
  go_wp2_with fail
  obtain ⟨d0, d1⟩ := HD.out
  refine bodyPost_ret (v := .tuple #[.slice A2 (pcs N bd (natsOf vs)).length c2, .agg #[.slice none 0 0, .int .i64 0]]) (by simp [results, Tryz.results20, go_sem, d0, d1]) rfl ?_
  exact ⟨A2, c2, rfl, HRW.out.rdT, HB3.out⟩
end Go.Proofs.YtpffhoefmcpniaaGreatDoor
