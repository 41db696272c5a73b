/- Parts of the proof: Md, Kw, Kn, As. -/
import Derived.Test.YtgkeolddpielpaaGreatDoorM24
/- law17.Made. -/
namespace Go.Proofs.YtgkeolddpielpaaGreatDoor
open Go.RowKit

attribute [local go_sem ↓] Go.wp_at_zero Go.wp_at_succ

set_option maxHeartbeats 1000000 in
theorem made17_ok (A B C Q : Option Addr) (n m k c d e L cq : Nat) (N : NetD) (ls : List (List Int)) (w : World) (h : RdNet w A B C n m k N) (hN : NetOk N) (hq : RdT w Q L ls) (hP : PartOk N.vs.length ls) :
    Calls Tryz.prog 25 #[.agg #[.slice A n c, .slice B m d, .slice C k e], .agg #[.slice Q L cq]] w fun r w' => ∃ o, r = .returned (.pointer (some ⟨o, 0, none⟩)) ∧ RdOv (msk w' (fun b => w.heap.size ≤ b ∧ b < w'.heap.size)) o N.ar ls ∧ Below w.heap.size w w' := by
  have HH := Lib.hid h
  have HN := Lib.hid hN
  have HT := Lib.hid hq
  have HP := Lib.hid hP
  have hn4 := hN.lv
  have l6 : L ≤ 6 := by rw [← hq.1]; exact hP.l6
  have HVL := Lib.hid hn4
  clear h hN hq hP hn4
  go_enter Tryz.func25, Tryz.ntmps25
  go_wp2_with fail
  (refine calls_named ?_; intro w1 hw1)
  have hb1 : Below w.heap.size w w1 := by rw [hw1]; exact (by repeat (first | exact Below.refl _ _ | assumption | apply Below.drew | apply below_drewN | apply Bel.alloc | (refine Bel.setCell_ ?_ ?_; rotate_left; omega) | (refine Bel.step ?_ (by assumption))))
  have hQ : Blk w1 (w.heap.size + 1) 29 #[.slice Q L cq] := by rw [hw1]; exact (by repeat (first | assumption | (refine Blk.new' _ _ _ ?_; first | with_unfolding_all rfl | (simp; done)) | apply Blk.drewN | apply Blk.drew | apply Blk.alloc | (refine Blk.far_ ?_ ?_ _; rotate_left; omega)))
  clear hw1
  with_reducible refine (made8_ok A B C n m k c d e N w1 (HH.out.below hb1) HN.out).mono ?_
  rintro r w2 ⟨g, rfl, hG, hb2⟩
  have hbw2 := Bel.step hb1 hb2
  have HG := Lib.hid hG.rd
  have y0 := (hQ.below hb2 hQ.lt).cell 0
  simp only [List.getElem?_toArray, List.getElem?_cons_zero] at y0
  clear hG hb2 hQ
  go_wp2_with fail
  with_reducible refine (partTo_any Q L cq ls w2 (HT.out.below hbw2) (by omega) (fun l hl => by have := (HP.out.lvl l hl).len; have := HVL.out; omega)).mono ?_
  rintro r w3 ⟨Q3, cq3, rfl, hq3, _, _, hb3⟩
  have hbw3 := Bel.step hbw2 hb3
  have HQ3 := Lib.hid (hq3.le (msk_le _ _))
  have HG3 := Lib.hid (HG.out.below hb3)
  clear hq3 hb3 y0
  go_wp2_with fail
  with_reducible refine (overNew_ok g N Q3 L cq3 _ ls w3 HG3.out HN.out HQ3.out HP.out rfl).mono ?_
  rintro r w4 ⟨o, rfl, hO, hb4⟩
  have hz3 := hbw3.size
  have HO := Lib.hid (hO.le (msk_mono (G' := fun b => w.heap.size ≤ b ∧ b < w4.heap.size) (fun b hb => ⟨by omega, hb.2⟩)))
  have hbw4 := Bel.step hbw3 hb4
  clear hO hb4
  go_wp2_with fail
  go_ret
  exact ⟨o, rfl, HO.out, hbw4⟩
end Go.Proofs.YtgkeolddpielpaaGreatDoor

/- law17.known. -/
namespace Go.Proofs.YtgkeolddpielpaaGreatDoor
open Go.RowKit

attribute [local go_sem ↓] Go.wp_at_zero Go.wp_at_succ

theorem k_gr1 : gateRow ringN.ar [0, 0, 1] = [([2], [1]), ([1], [2])] := by decide
theorem k_gr2 : gateRow ringN.ar [0, 0, 0] = [([], [])] := by decide
theorem k_gates : gatesOf ringN.ar twoL = [[([2], [1]), ([1], [2])], [([], [])]] := by
  unfold gatesOf twoL
  rw [List.map_cons, List.map_cons, List.map_nil, k_gr1, k_gr2]
theorem k_sum : sumA (gatesOf ringN.ar twoL) = 2 := by rw [k_gates]; decide
theorem k_kids : kidsOf [0, 0, 0] [0, 0, 1] 0 3 = [0, 1] := by
  refine rise_ext (kidsOf_lt _ _ _ _) (by decide) (fun x => ?_)
  rw [mem_kidsOf (by rfl) (by rfl)]
  constructor
  · rintro ⟨v, _, h2⟩
    have hv : v < 3 := (List.getElem?_eq_some_iff.1 h2).1
    rcases (by omega : v = 0 ∨ v = 1 ∨ v = 2) with rfl | rfl | rfl <;> (simp at h2; subst h2; simp)
  · intro h
    rcases List.mem_cons.1 h with rfl | h
    · exact ⟨0, rfl, rfl⟩
    · rcases List.mem_cons.1 h with rfl | h
      · exact ⟨2, rfl, rfl⟩
      · cases h
section
variable (o : Nat) (w : World) (h : RdOv w o ringN.ar twoL)
include h
theorem k_size : Calls Tryz.prog 23 #[.pointer (some ⟨o, 0, none⟩)] w fun e w' => e = .returned (.int .i64 2) ∧ w = w' := by
  have := oSize_any o _ _ w h
  rw [k_sum] at this
  exact this
theorem k_levels : Calls Tryz.prog 16 #[.pointer (some ⟨o, 0, none⟩)] w fun e w' => e = .returned (.int .i64 2) ∧ w = w' := oLevels_any o _ _ w h
theorem k_cells1 : Calls Tryz.prog 19 #[.pointer (some ⟨o, 0, none⟩), .int .i64 1] w fun e w' => e = .returned (.int .i64 2) ∧ w = w' := oCells_ok o 0 2 _ _ [0, 0, 1] w h rfl (by decide) (by decide)
theorem k_cells3 : Calls Tryz.prog 19 #[.pointer (some ⟨o, 0, none⟩), .int .i64 3] w fun e w' => e = .returned (.int .i64 0) ∧ w = w' := oCells_no o 2 _ _ w h (by decide) (by decide)
theorem k_at0 : Calls Tryz.prog 22 #[.pointer (some ⟨o, 0, none⟩), .int .i64 1, .int .i64 0, .int .i64 0, .int .i64 0] w fun e w' => e = .returned (.int .i64 0) ∧ Below w.heap.size w w' := by
  have := at_ok o 0 0 0 0 _ _ [0, 0, 1] ([2], [1]) w h rfl (by rw [k_gr1]; rfl) (by decide) (by decide) (by decide) (by rw [k_sum]; decide)
  rw [k_gates, k_gr1] at this
  exact this
theorem k_at1 : Calls Tryz.prog 22 #[.pointer (some ⟨o, 0, none⟩), .int .i64 1, .int .i64 1, .int .i64 0, .int .i64 0] w fun e w' => e = .returned (.int .i64 1) ∧ Below w.heap.size w w' := by
  have := at_ok o 0 1 0 0 _ _ [0, 0, 1] ([1], [2]) w h rfl (by rw [k_gr1]; rfl) (by decide) (by decide) (by decide) (by rw [k_sum]; decide)
  rw [k_gates, k_gr1] at this
  exact this
theorem k_at2 : Calls Tryz.prog 22 #[.pointer (some ⟨o, 0, none⟩), .int .i64 2, .int .i64 0, .int .i64 0, .int .i64 0] w fun e w' => e = .returned (.int .i64 (-1)) ∧ Below w.heap.size w w' :=
  at_no o 1 0 0 0 _ _ [0, 0, 0] ([], []) w h rfl (by rw [k_gr2]; rfl) (by decide) (by decide)
theorem k_where1 : Calls Tryz.prog 21 #[.pointer (some ⟨o, 0, none⟩), .int .i64 1] w fun e w' => e = .returned (.tuple #[.agg #[.int .i64 1, .int .i64 1, .int .i64 0, .int .i64 0], .bool true]) ∧ Below w.heap.size w w' := by
  have := where_ok o 0 1 0 0 _ _ [0, 0, 1] ([1], [2]) w h rfl (by rw [k_gr1]; rfl) (by decide) (by decide) (by decide) (by rw [k_sum]; decide) (by decide)
  rw [k_gates, k_gr1] at this
  exact this
theorem k_where2 : Calls Tryz.prog 21 #[.pointer (some ⟨o, 0, none⟩), .int .i64 2] w fun e w' => e = .returned (.tuple #[.agg #[.int .i64 0, .int .i64 0, .int .i64 0, .int .i64 0], .bool false]) ∧ Below w.heap.size w w' :=
  where_no o 2 _ _ w h (.inr (by rw [k_sum]; decide))
theorem k_down : Calls Tryz.prog 28 #[.pointer (some ⟨o, 0, none⟩), .int .i64 2, .int .i64 0, .int .i64 0] w fun e w' => e = .returned (.tuple #[.int .i64 (-1), .int .i64 (-1)]) ∧ Below w.heap.size w w' :=
  oDownIn_no o 0 0 0 _ _ [0, 0, 0] ([], []) w h rfl (by decide) (by rw [k_gr2]; rfl) (by decide) (by decide)
theorem k_kids2 : Calls Tryz.prog 30 #[.pointer (some ⟨o, 0, none⟩), .int .i64 2, .int .i64 0] w fun e w' => ∃ A c, e = .returned (.slice A 2 c) ∧ RdI w' A 2 [0, 1] ∧ Below w.heap.size w w' := by
  have := oKids_ok o 0 3 0 _ _ [0, 0, 0] [0, 0, 1] w h rfl rfl (by decide) rfl rfl (by decide) (by decide)
  rw [k_kids] at this
  exact this
theorem k_gate : Calls Tryz.prog 20 #[.pointer (some ⟨o, 0, none⟩), .int .i64 1, .int .i64 1] w fun e w' => ∃ A1 n1 c1 A2 n2 c2, e = .returned (.agg #[.slice A1 n1 c1, .slice A2 n2 c2]) ∧ RdI w' A1 n1 [1] ∧ RdI w' A2 n2 [2] ∧ Below w.heap.size w w' :=
  oGate_ok o 0 1 _ _ [0, 0, 1] ([1], [2]) w h rfl (by decide) (by rw [k_gr1]; rfl) (by decide)
end
end Go.Proofs.YtgkeolddpielpaaGreatDoor

/- law17.known: the walk. -/
namespace Go.Proofs.YtgkeolddpielpaaGreatDoor
open Go.RowKit

attribute [local go_sem ↓] Go.wp_at_zero Go.wp_at_succ

set_option maxHeartbeats 2000000 in
theorem known17_ok (w : World) : Calls Tryz.prog 5 #[] w fun e w' => e = .returned (.bool true) ∧ Below w.heap.size w w' := by
  go_enter Tryz.func5, Tryz.ntmps5
  go_wp2_with fail
  with_reducible refine (ring_any w).mono ?_
  rintro e w1 ⟨A, B, C, rfl, hN, hb1⟩
  have HN := Lib.hid hN
  clear hN
  go_wp2_with fail
  with_reducible refine (two_any w1).mono ?_
  rintro e w2 ⟨Q, rfl, hT, hb2⟩
  have HT := Lib.hid hT
  have hb2' := Bel.step hb1 hb2
  clear hT
  have HM := Lib.hid (made17_ok A B C Q 3 4 3 3 4 3 2 2 ringN twoL w2 (HN.out.below hb2) ringN_ok HT.out (show PartOk ringN.vs.length twoL from twoL_ok))
  go_wp2_with fail
  with_reducible refine HM.out.mono ?_
  rintro e w3 ⟨o, rfl, hO, hb3⟩
  have HO3 := Lib.hid (hO.le (msk_le _ _))
  have hb3' := Bel.step hb2' hb3
  clear hO hb1 hb2 hb2' hb3 HN HT HM
  go_wp2_with fail
  with_reducible refine (k_where1 o w3 HO3.out).mono ?_
  rintro e w4 ⟨rfl, hb4⟩
  have HO4 := Lib.hid (HO3.out.below hb4)
  have hb4' := Bel.step hb3' hb4
  clear hb3' hb4 HO3
  go_wp2_with fail
  (refine calls_named ?_; intro w5 hw5)
  have hb5 : Below w4.heap.size w4 w5 := by rw [hw5]; exact Bel.alloc (Below.refl _ _)
  have hE5 : Blk w5 w4.heap.size 63 #[.int .i64 1, .int .i64 1, .int .i64 0, .int .i64 0] := by
    rw [hw5]
    refine Blk.new' _ _ _ ?_
    rfl
  have HO5 := Lib.hid (HO4.out.below hb5)
  have hb5' := Bel.step hb4' hb5
  clear hw5 hb4' hb5 HO4
  with_reducible refine (k_where2 o w5 HO5.out).mono ?_
  rintro e w6 ⟨rfl, hb6⟩
  have hE6 := hE5.below hb6 hE5.lt
  have HO6 := Lib.hid (HO5.out.below hb6)
  have hb6' := Bel.step hb5' hb6
  clear hb5' hb6 HO5 hE5
  go_wp2_with fail
  (refine calls_named ?_; intro w7 hw7)
  have hb7 : Below w6.heap.size w6 w7 := by rw [hw7]; exact Bel.alloc (Below.refl _ _)
  have hE7 := hE6.below hb7 hE6.lt
  have HO7 := Lib.hid (HO6.out.below hb7)
  have hb7' := Bel.step hb6' hb7
  clear hw7 hb6' hb7 HO6 hE6
  with_reducible refine (k_down o w7 HO7.out).mono ?_
  rintro e w8 ⟨rfl, hb8⟩
  have hE8 := hE7.below hb8 hE7.lt
  have HO8 := Lib.hid (HO7.out.below hb8)
  have hb8' := Bel.step hb7' hb8
  clear hb7' hb8 HO7 hE7
  go_wp2_with fail
  with_reducible refine (k_size o w8 HO8.out).mono ?_
  rintro e w' ⟨rfl, rfl⟩
  go_wp2_with fail
  with_reducible refine (k_levels o w8 HO8.out).mono ?_
  rintro e w' ⟨rfl, rfl⟩
  go_wp2_with fail
  with_reducible refine (k_cells1 o w8 HO8.out).mono ?_
  rintro e w' ⟨rfl, rfl⟩
  go_wp2_with fail
  with_reducible refine (k_cells3 o w8 HO8.out).mono ?_
  rintro e w' ⟨rfl, rfl⟩
  go_wp2_with fail
  with_reducible refine (k_at0 o w8 HO8.out).mono ?_
  rintro e w9 ⟨rfl, hb9⟩
  have hE9 := hE8.below hb9 hE8.lt
  have HO9 := Lib.hid (HO8.out.below hb9)
  have hb9' := Bel.step hb8' hb9
  clear hb8' hb9 HO8 hE8
  go_wp2_with fail
  with_reducible refine (k_at1 o w9 HO9.out).mono ?_
  rintro e w10 ⟨rfl, hb10⟩
  have hE10 := hE9.below hb10 hE9.lt
  have HO10 := Lib.hid (HO9.out.below hb10)
  have hb10' := Bel.step hb9' hb10
  clear hb9' hb10 HO9 hE9
  go_wp2_with fail
  with_reducible refine (k_at2 o w10 HO10.out).mono ?_
  rintro e w11 ⟨rfl, hb11⟩
  have hE11 := hE10.below hb11 hE10.lt
  have HO11 := Lib.hid (HO10.out.below hb11)
  have hb11' := Bel.step hb10' hb11
  clear hb10' hb11 HO10 hE10
  have x0 := hE11.cell 0
  have x1 := hE11.cell 1
  have x2 := hE11.cell 2
  have x3 := hE11.cell 3
  simp only [List.getElem?_toArray, List.getElem?_cons_zero, List.getElem?_cons_succ] at x0 x1 x2 x3
  go_wp2_with fail
  with_reducible refine (k_kids2 o w11 HO11.out).mono ?_
  rintro e w12 ⟨K1, c1, rfl, hK, hb12⟩
  have HK := Lib.hid hK
  have HO12 := Lib.hid (HO11.out.below hb12)
  have hb12' := Bel.step hb11' hb12
  clear hb11' hb12 HO11 hK x0 x1 x2 x3 hE11
  go_wp2_with fail
  (refine calls_named ?_; intro w13 hw13)
  have hb13 : Below w12.heap.size w12 w13 := by rw [hw13]; exact Bel.alloc (Below.refl _ _)
  have hL13 : Blk w13 w12.heap.size 3 #[.int .i64 0, .int .i64 1] := by
    rw [hw13]
    refine Blk.new' _ _ _ ?_
    rfl
  have HO13 := Lib.hid (HO12.out.below hb13)
  have HK13 := Lib.hid (HK.out.below hb13)
  have HL13 := Lib.hid (RdI.lit (w := w13) (t := 3) [0, 1] hL13)
  have hb13' := Bel.step hb12' hb13
  clear hw13 hb12' hb13 HO12 HK hL13
  have HS := Lib.hid (sameInts_any K1 (some ⟨w12.heap.size, 0, none⟩) 2 2 c1 2 [0, 1] [0, 1] w13 HK13.out HL13.out (by omega) (by omega))
  with_reducible refine HS.out.mono ?_
  rintro e w14 ⟨rfl, kk, hw14⟩
  have hb14 : Below w13.heap.size w13 w14 := by rw [hw14]; exact below_drewN (Below.refl _ _) kk
  have HO14 := Lib.hid (HO13.out.below hb14)
  have hb14' := Bel.step hb13' hb14
  clear hw14 hb13' hb14 HO13 HK13 HL13 HS
  go_wp2_with fail
  with_reducible refine (k_gate o w14 HO14.out).mono ?_
  rintro e w15 ⟨A1, n1, c1', A2, n2, c2, rfl, hr1, hr2, hb15⟩
  have l1 : 1 = n1 := hr1.1
  have l2 : 1 = n2 := hr2.1
  subst l1 l2
  have HR1 := Lib.hid hr1
  have HR2 := Lib.hid hr2
  have hb15' := Bel.step hb14' hb15
  clear hb14' hb15 HO14 hr1 hr2
  go_wp2_with fail
  (refine calls_named ?_; intro w16 hw16)
  have hb16 : Below w15.heap.size w15 w16 := by rw [hw16]; exact Bel.alloc (Bel.alloc (Below.refl _ _))
  have hm16 : Blk w16 w15.heap.size 3 #[.int .i64 1] := by
    rw [hw16]
    refine Blk.alloc ?_ _
    refine Blk.new' _ _ _ ?_
    rfl
  have hn16 : Blk w16 (w15.heap.size + 1) 3 #[.int .i64 2] := by
    rw [hw16]
    refine Blk.new' _ _ _ ?_
    simp
  clear hw16
  have HI := Lib.hid (is_ok A1 A2 (some ⟨w15.heap.size, 0, none⟩) (some ⟨w15.heap.size + 1, 0, none⟩) 1 c1' 1 c2 1 1 1 1 [1] [2] [1] [2] w16 (HR1.out.below hb16) (HR2.out.below hb16) (RdI.lit [1] hm16) (RdI.lit [2] hn16) (by omega) (by omega) (by omega) (by omega) rfl rfl)
  with_reducible refine HI.out.mono ?_
  rintro e w17 ⟨rfl, hb17⟩
  go_wp2_with fail
  go_ret
  exact ⟨rfl, Bel.step (Bel.step hb15' hb16) hb17⟩
end Go.Proofs.YtgkeolddpielpaaGreatDoor

/- errors.As at a **api.Fault and at a *api.Errno, by contracts. After the worked text ToyasAs. -/
namespace Go.Proofs.YtgkeolddpielpaaGreatDoor
open Go.RowKit Go.Extern.Stop Go.Stop Go.Extern

theorem as_rlm (z : Sem Value) (f : TypeId → Addr → Nat → Nat → Sem Value) (v : Value) :
    ReflectliteValue.method z f #[v] = (do match ← ReflectliteValue.parts v with | none => z | some (t, a, fl) => f t a fl (fl % 32)) := rfl
theorem as_rls (v x : Value) : ReflectliteValue.set #[v, x] = (do
    let (some (dst, a, fl), some (src, b, _)) := (← ReflectliteValue.parts v, ← ReflectliteValue.parts x)
      | unsupported (.noEntry "extern/(internal/reflectlite.Value).Set.zeroValue")
    if fl / ReflectliteValue.flagAddr % 2 == 0 then unsupported (.noEntry "extern/(internal/reflectlite.Value).Set.unaddressable")
    let val ← loadVar src b
    if ← Rtype.directlyAssignable dst src then storeVar dst a val
    else if ← Rtype.implements dst src then
      if (← Rtype.kind src) == 20 then
        match val with
        | .nilIface => unsupported (.noEntry "extern/reflectlite: a nil value of one interface type handed on as a value of another")
        | _ => storeVar dst a val
      else storeVar dst a (.iface src val)
    else panicString ("reflectlite.Set: value of type " ++ (← Rtype.spelt src) ++ " is not assignable to type " ++ (← Rtype.spelt dst))
    pure (.tuple #[])) := rfl
theorem as_mKind (h : Value) (w : World) : (Go.method 350 184 (.agg #[h]) "Kind").run Tryz.prog w = .ok (144, h) w := by kernel_rfl
theorem as_mElem (h : Value) (w : World) : (Go.method 350 184 (.agg #[h]) "Elem").run Tryz.prog w = .ok (156, .agg #[h]) w := by kernel_rfl
theorem as_mImplements (h : Value) (w : World) : (Go.method 350 184 (.agg #[h]) "Implements").run Tryz.prog w = .ok (157, .agg #[h]) w := by kernel_rfl
theorem as_mAssignableTo (h : Value) (w : World) : (Go.method 350 184 (.agg #[h]) "AssignableTo").run Tryz.prog w = .ok (154, .agg #[h]) w := by kernel_rfl
/-- what package errors' variable of the type 'error' holds -/
def errT : Value := .iface 184 (.agg #[.pointer (some ⟨1, 39, none⟩)])
abbrev rty (t : Nat) : Value := .agg #[.pointer (some ⟨1, t, none⟩)]
abbrev rtv (t : Nat) : Value := .iface 184 (rty t)
abbrev rvl (t : Nat) (a : Addr) (f : Int) : Value := .agg #[.pointer (some ⟨1, t, none⟩), .pointer (some a), .int .u64 f]
/-- what a target leaves behind -/
abbrev asW (t : Addr) (p : Nat) (w : World) : World := ((w.alloc (.cells #[.pointer (some t)] p)).alloc (.cells #[.pointer (some ⟨1, p, none⟩), .pointer (some ⟨w.heap.size, 0, none⟩), .int .u64 150] 149))
abbrev asX (t : Addr) (p : Nat) (w : World) : World := (asW t p w).alloc (.cells #[.pointer (some ⟨1, p, none⟩), .pointer (some ⟨w.heap.size, 0, none⟩), .int .u64 150] 149)

/-! ### at **api.Fault -/
theorem as_valueOfPF (t : Addr) (w : World) : (ReflectliteValue.unpack (.iface 98 (.pointer (some t)))).run Tryz.prog w = .ok (rvl 98 ⟨w.heap.size, 0, none⟩ 150) (w.alloc (.cells #[.pointer (some t)] 98)) := by kernel_rfl
theorem as_typePF (a : Addr) (w : World) : (ReflectliteValue.methodAny (ReflectliteValue.valueError "reflectlite.Value.Type" 0) (fun t _ _ _ => ReflectliteType.toType t) #[rvl 98 a 150]).run Tryz.prog w = .ok (rtv 98) w := by kernel_rfl
theorem as_kindPF (w : World) : ((ReflectliteType.abiMethod fun t => (fun a : Nat => Value.int IntKind.u8 (a : Int)) <$> Rtype.kind t) #[.pointer (some ⟨1, 98, none⟩)]).run Tryz.prog w = .ok (.int .u8 22) w := by kernel_rfl
theorem as_kindF (w : World) : ((ReflectliteType.abiMethod fun t => (fun a : Nat => Value.int IntKind.u8 (a : Int)) <$> Rtype.kind t) #[.pointer (some ⟨1, 96, none⟩)]).run Tryz.prog w = .ok (.int .u8 22) w := by kernel_rfl
theorem as_partsPF (a : Addr) (w : World) : (ReflectliteValue.parts (rvl 98 a 150)).run Tryz.prog w = .ok (some (98, a, 150)) w := by kernel_rfl
theorem as_isNilF (a p : Addr) (W : World) (ha : W.cell? a = some (.pointer (some p))) :
    (ReflectliteValue.method (ReflectliteValue.valueError "reflectlite.Value.IsNil" 0) ReflectliteValue.isNil #[rvl 98 a 150]).run Tryz.prog W = .ok (.bool false) W := by
  rw [as_rlm]
  simp only [Sem.run_bind, as_partsPF, Result.andThen]
  simp [ReflectliteValue.isNil, loadVar, isAgg, underlying, Tryz.underlying98, ha, Result.andThen]
theorem as_elemF (w : World) : (ReflectliteType.method ReflectliteType.elem #[rty 98]).run Tryz.prog w = .ok (rtv 96) w := by kernel_rfl
theorem as_implementsF (w : World) : (ReflectliteType.relation "Implements" ReflectliteType.implements_ #[rty 96, errT]).run Tryz.prog w = .ok (.bool true) w := by kernel_rfl
theorem as_elemOfF (w : World) : (Rtype.elem? 98).run Tryz.prog w = .ok (some 96) w := by kernel_rfl
theorem as_mkF (p : Addr) (w : World) : (ReflectliteValue.mk 96 p ReflectliteValue.flagAddr).run Tryz.prog w = .ok (rvl 96 p 406) w := by kernel_rfl
theorem as_elemVF (a p : Addr) (W : World) (ha : W.cell? a = some (.pointer (some p))) :
    (ReflectliteValue.method (ReflectliteValue.valueError "reflectlite.Value.Elem" 0) ReflectliteValue.elem #[rvl 98 a 150]).run Tryz.prog W = .ok (rvl 96 p 406) W := by
  rw [as_rlm]
  simp only [Sem.run_bind, as_partsPF, Result.andThen]
  simp [ReflectliteValue.elem, loadVar, isAgg, underlying, Tryz.underlying98, ha, Result.andThen, as_elemOfF, as_mkF]
theorem as_typeOfF (v : Value) (w : World) : (ReflectliteType.typeOf #[.iface 96 v]).run Tryz.prog w = .ok (rtv 96) w := by kernel_rfl
theorem as_assignableF (w : World) : (ReflectliteType.relation "AssignableTo" ReflectliteType.assignableTo #[rty 96, rtv 96]).run Tryz.prog w = .ok (.bool true) w := by kernel_rfl
theorem as_valueOfF (e : Addr) (w : World) : (ReflectliteValue.unpack (.iface 96 (.pointer (some e)))).run Tryz.prog w = .ok (rvl 96 ⟨w.heap.size, 0, none⟩ 150) (w.alloc (.cells #[.pointer (some e)] 96)) := by kernel_rfl
theorem as_partsAF (a : Addr) (w : World) : (ReflectliteValue.parts (rvl 96 a 406)).run Tryz.prog w = .ok (some (96, a, 406)) w := by kernel_rfl
theorem as_partsF (a : Addr) (w : World) : (ReflectliteValue.parts (rvl 96 a 150)).run Tryz.prog w = .ok (some (96, a, 150)) w := by kernel_rfl
theorem as_directF (w : World) : (Rtype.directlyAssignable 96 96).run Tryz.prog w = .ok true w := by kernel_rfl
theorem as_sizeF (w : World) : (sizeOf 96).run Tryz.prog w = .ok 1 w := by kernel_rfl
theorem as_setF (ta b : Addr) (e : Addr) (old : Value) (W : World) (hb : W.cell? b = some (.pointer (some e))) (ht : W.cell? ta = some old) (hf : W.frozen? ta = false) :
    (ReflectliteValue.set #[rvl 96 ta 406, rvl 96 b 150]).run Tryz.prog W = .ok (.tuple #[]) (W.setCell ta (.pointer (some e))) := by
  rw [as_rls]
  simp only [Sem.run_bind, as_partsAF, as_partsF, Result.andThen]
  simp [ReflectliteValue.flagAddr, loadVar, isAgg, underlying, Tryz.underlying96, hb, Result.andThen, as_directF, storeVar, Value.cells, storeCells, Addr.add]
  rw [run_store Tryz.prog W ta _ _ (by rfl)]
  simp [ht, hf]

/-! ### at *api.Errno -/
theorem as_valueOfPE (t : Addr) (w : World) : (ReflectliteValue.unpack (.iface 103 (.pointer (some t)))).run Tryz.prog w = .ok (rvl 103 ⟨w.heap.size, 0, none⟩ 150) (w.alloc (.cells #[.pointer (some t)] 103)) := by kernel_rfl
theorem as_typePE (a : Addr) (w : World) : (ReflectliteValue.methodAny (ReflectliteValue.valueError "reflectlite.Value.Type" 0) (fun t _ _ _ => ReflectliteType.toType t) #[rvl 103 a 150]).run Tryz.prog w = .ok (rtv 103) w := by kernel_rfl
theorem as_kindPE (w : World) : ((ReflectliteType.abiMethod fun t => (fun a : Nat => Value.int IntKind.u8 (a : Int)) <$> Rtype.kind t) #[.pointer (some ⟨1, 103, none⟩)]).run Tryz.prog w = .ok (.int .u8 22) w := by kernel_rfl
theorem as_kindE (w : World) : ((ReflectliteType.abiMethod fun t => (fun a : Nat => Value.int IntKind.u8 (a : Int)) <$> Rtype.kind t) #[.pointer (some ⟨1, 95, none⟩)]).run Tryz.prog w = .ok (.int .u8 2) w := by kernel_rfl
theorem as_partsPE (a : Addr) (w : World) : (ReflectliteValue.parts (rvl 103 a 150)).run Tryz.prog w = .ok (some (103, a, 150)) w := by kernel_rfl
theorem as_isNilE (a p : Addr) (W : World) (ha : W.cell? a = some (.pointer (some p))) :
    (ReflectliteValue.method (ReflectliteValue.valueError "reflectlite.Value.IsNil" 0) ReflectliteValue.isNil #[rvl 103 a 150]).run Tryz.prog W = .ok (.bool false) W := by
  rw [as_rlm]
  simp only [Sem.run_bind, as_partsPE, Result.andThen]
  simp [ReflectliteValue.isNil, loadVar, isAgg, underlying, Tryz.underlying103, ha, Result.andThen]
theorem as_elemE (w : World) : (ReflectliteType.method ReflectliteType.elem #[rty 103]).run Tryz.prog w = .ok (rtv 95) w := by kernel_rfl
theorem as_implementsE (w : World) : (ReflectliteType.relation "Implements" ReflectliteType.implements_ #[rty 95, errT]).run Tryz.prog w = .ok (.bool true) w := by kernel_rfl
theorem as_elemOfE (w : World) : (Rtype.elem? 103).run Tryz.prog w = .ok (some 95) w := by kernel_rfl
theorem as_mkE (p : Addr) (w : World) : (ReflectliteValue.mk 95 p ReflectliteValue.flagAddr).run Tryz.prog w = .ok (rvl 95 p 386) w := by kernel_rfl
theorem as_elemVE (a p : Addr) (W : World) (ha : W.cell? a = some (.pointer (some p))) :
    (ReflectliteValue.method (ReflectliteValue.valueError "reflectlite.Value.Elem" 0) ReflectliteValue.elem #[rvl 103 a 150]).run Tryz.prog W = .ok (rvl 95 p 386) W := by
  rw [as_rlm]
  simp only [Sem.run_bind, as_partsPE, Result.andThen]
  simp [ReflectliteValue.elem, loadVar, isAgg, underlying, Tryz.underlying103, ha, Result.andThen, as_elemOfE, as_mkE]
theorem as_typeOfE (v : Value) (w : World) : (ReflectliteType.typeOf #[.iface 95 v]).run Tryz.prog w = .ok (rtv 95) w := by kernel_rfl
theorem as_assignableE (w : World) : (ReflectliteType.relation "AssignableTo" ReflectliteType.assignableTo #[rty 95, rtv 95]).run Tryz.prog w = .ok (.bool true) w := by kernel_rfl
theorem as_valueOfE (c : Int) (w : World) : (ReflectliteValue.unpack (.iface 95 (.int .i64 c))).run Tryz.prog w = .ok (rvl 95 ⟨w.heap.size, 0, none⟩ 130) (w.alloc (.cells #[.int .i64 c] 95)) := by kernel_rfl
theorem as_partsAE (a : Addr) (w : World) : (ReflectliteValue.parts (rvl 95 a 386)).run Tryz.prog w = .ok (some (95, a, 386)) w := by kernel_rfl
theorem as_partsE (a : Addr) (w : World) : (ReflectliteValue.parts (rvl 95 a 130)).run Tryz.prog w = .ok (some (95, a, 130)) w := by kernel_rfl
theorem as_directE (w : World) : (Rtype.directlyAssignable 95 95).run Tryz.prog w = .ok true w := by kernel_rfl
theorem as_sizeE (w : World) : (sizeOf 95).run Tryz.prog w = .ok 1 w := by kernel_rfl
theorem as_setE (ta b : Addr) (c : Int) (old : Value) (W : World) (hb : W.cell? b = some (.int .i64 c)) (ht : W.cell? ta = some old) (hf : W.frozen? ta = false) :
    (ReflectliteValue.set #[rvl 95 ta 386, rvl 95 b 130]).run Tryz.prog W = .ok (.tuple #[]) (W.setCell ta (.int .i64 c)) := by
  rw [as_rls]
  simp only [Sem.run_bind, as_partsAE, as_partsE, Result.andThen]
  simp [ReflectliteValue.flagAddr, loadVar, isAgg, underlying, Tryz.underlying95, hb, Result.andThen, as_directE, storeVar, Value.cells, storeCells, Addr.add]
  rw [run_store Tryz.prog W ta _ _ (by rfl)]
  simp [ht, hf]

set_option maxHeartbeats 4000000 in
/-- errors.As: the error's own type is the target's. -/
theorem as_hitF (e : Addr) (t : Addr) (old : Value) (w : World) (hg : w.cell? ⟨0, 0, none⟩ = some errT) (ht0 : w.cell? t = some old) (hf0 : w.frozen? t = false) :
    Calls Tryz.prog 44 #[.iface 96 (.pointer (some e)), .iface 98 (.pointer (some t))] w fun ev w' => ev = .returned (.bool true) ∧ w' = ((asX t 98 w).alloc (.cells #[.pointer (some e)] 96)).setCell t (.pointer (some e)) := by
  have h6 := @run_callFunc_extern Tryz.prog 73 _ (fun args => ReflectliteValue.unpack (args.getD 0 (.tuple #[]))) Tryz.func73 (by kernel_rfl) (by kernel_rfl) (by kernel_rfl) (by kernel_rfl)
  have h7 := @run_callFunc_extern Tryz.prog 74 _ (ReflectliteValue.methodAny (ReflectliteValue.valueError "reflectlite.Value.Type" 0) (fun t _ _ _ => ReflectliteType.toType t)) Tryz.func74 (by kernel_rfl) (by kernel_rfl) (by kernel_rfl) (by kernel_rfl)
  have h8 := @run_callFunc_extern Tryz.prog 75 _ (ReflectliteValue.method (ReflectliteValue.valueError "reflectlite.Value.IsNil" 0) ReflectliteValue.isNil) Tryz.func75 (by kernel_rfl) (by kernel_rfl) (by kernel_rfl) (by kernel_rfl)
  have h27 := @run_callFunc_extern Tryz.prog 144 _ (ReflectliteType.abiMethod fun t => do pure (.int .u8 (← Rtype.kind t))) Tryz.func144 (by kernel_rfl) (by kernel_rfl) (by kernel_rfl) (by kernel_rfl)
  have h37 := @run_callFunc_extern Tryz.prog 156 _ (ReflectliteType.method ReflectliteType.elem) Tryz.func156 (by kernel_rfl) (by kernel_rfl) (by kernel_rfl) (by kernel_rfl)
  have h38 := @run_callFunc_extern Tryz.prog 157 _ (ReflectliteType.relation "Implements" ReflectliteType.implements_) Tryz.func157 (by kernel_rfl) (by kernel_rfl) (by kernel_rfl) (by kernel_rfl)
  have h10 := @run_callFunc_extern Tryz.prog 71 _ ReflectliteType.typeOf Tryz.func71 (by kernel_rfl) (by kernel_rfl) (by kernel_rfl) (by kernel_rfl)
  have h35 := @run_callFunc_extern Tryz.prog 154 _ (ReflectliteType.relation "AssignableTo" ReflectliteType.assignableTo) Tryz.func154 (by kernel_rfl) (by kernel_rfl) (by kernel_rfl) (by kernel_rfl)
  have h11 := @run_callFunc_extern Tryz.prog 104 _ (ReflectliteValue.method (ReflectliteValue.valueError "reflectlite.Value.Elem" 0) ReflectliteValue.elem) Tryz.func104 (by kernel_rfl) (by kernel_rfl) (by kernel_rfl) (by kernel_rfl)
  have h12 := @run_callFunc_extern Tryz.prog 105 _ ReflectliteValue.set Tryz.func105 (by kernel_rfl) (by kernel_rfl) (by kernel_rfl) (by kernel_rfl)
  have mA := as_mAssignableTo
  have mK := as_mKind
  have mE := as_mElem
  have mI := as_mImplements
  have tO := as_typeOfF
  have aS := as_assignableF
  have vO := as_valueOfF
  have f6 := as_valueOfPF
  have f7 := as_typePF
  have kP := as_kindPF
  have kE := as_kindF
  have eL := as_elemF
  have iM := as_implementsF
  have n8 := as_isNilF ⟨w.heap.size, 0, none⟩ t (asW t 98 w) (by simp)
  have hlt : 0 < w.heap.size := lt_of_cell hg
  have htl : t.block < w.heap.size := lt_of_cell ht0
  have hg2 : (asW t 98 w).cell? ⟨0, 0, none⟩ = some errT := by
    rw [World.cell?_alloc_lt _ _ ⟨0, 0, none⟩ (by simp), World.cell?_alloc_lt _ _ ⟨0, 0, none⟩ hlt]; exact hg
  have el := as_elemVF ⟨w.heap.size, 0, none⟩ t (asX t 98 w) (by rw [World.cell?_alloc_lt _ _ ⟨w.heap.size, 0, none⟩ (by simp; omega)]; simp)
  have st := as_setF t ⟨w.heap.size + 1 + 1 + 1, 0, none⟩ e old ((asX t 98 w).alloc (.cells #[.pointer (some e)] 96))
    (by rw [World.cell?_alloc_at _ _ _ _ (by simp)]; rfl)
    (by rw [World.cell?_alloc_lt _ _ t (by simp; omega), World.cell?_alloc_lt _ _ t (by simp; omega), World.cell?_alloc_lt _ _ t (by simp; omega), World.cell?_alloc_lt _ _ t htl]; exact ht0)
    (by rw [World.frozen?_alloc_old _ _ t (by simp; omega), World.frozen?_alloc_old _ _ t (by simp; omega), World.frozen?_alloc_old _ _ t (by simp; omega), World.frozen?_alloc_old _ _ t (Nat.ne_of_lt htl)]; exact hf0)
  go_enter Tryz.func44, Tryz.ntmps44
  go_wp2
  refine wp_loop_rounds 1 ?_
  rw [rounds_succ]
  go_wp2
  go_ret
  exact ⟨rfl, rfl⟩

set_option maxHeartbeats 4000000 in
/-- errors.As: the error's own type is the target's. -/
theorem as_hitE (c : Int) (t : Addr) (old : Value) (w : World) (hg : w.cell? ⟨0, 0, none⟩ = some errT) (ht0 : w.cell? t = some old) (hf0 : w.frozen? t = false) :
    Calls Tryz.prog 44 #[.iface 95 (.int .i64 c), .iface 103 (.pointer (some t))] w fun ev w' => ev = .returned (.bool true) ∧ w' = ((asX t 103 w).alloc (.cells #[.int .i64 c] 95)).setCell t (.int .i64 c) := by
  have h6 := @run_callFunc_extern Tryz.prog 73 _ (fun args => ReflectliteValue.unpack (args.getD 0 (.tuple #[]))) Tryz.func73 (by kernel_rfl) (by kernel_rfl) (by kernel_rfl) (by kernel_rfl)
  have h7 := @run_callFunc_extern Tryz.prog 74 _ (ReflectliteValue.methodAny (ReflectliteValue.valueError "reflectlite.Value.Type" 0) (fun t _ _ _ => ReflectliteType.toType t)) Tryz.func74 (by kernel_rfl) (by kernel_rfl) (by kernel_rfl) (by kernel_rfl)
  have h8 := @run_callFunc_extern Tryz.prog 75 _ (ReflectliteValue.method (ReflectliteValue.valueError "reflectlite.Value.IsNil" 0) ReflectliteValue.isNil) Tryz.func75 (by kernel_rfl) (by kernel_rfl) (by kernel_rfl) (by kernel_rfl)
  have h27 := @run_callFunc_extern Tryz.prog 144 _ (ReflectliteType.abiMethod fun t => do pure (.int .u8 (← Rtype.kind t))) Tryz.func144 (by kernel_rfl) (by kernel_rfl) (by kernel_rfl) (by kernel_rfl)
  have h37 := @run_callFunc_extern Tryz.prog 156 _ (ReflectliteType.method ReflectliteType.elem) Tryz.func156 (by kernel_rfl) (by kernel_rfl) (by kernel_rfl) (by kernel_rfl)
  have h38 := @run_callFunc_extern Tryz.prog 157 _ (ReflectliteType.relation "Implements" ReflectliteType.implements_) Tryz.func157 (by kernel_rfl) (by kernel_rfl) (by kernel_rfl) (by kernel_rfl)
  have h10 := @run_callFunc_extern Tryz.prog 71 _ ReflectliteType.typeOf Tryz.func71 (by kernel_rfl) (by kernel_rfl) (by kernel_rfl) (by kernel_rfl)
  have h35 := @run_callFunc_extern Tryz.prog 154 _ (ReflectliteType.relation "AssignableTo" ReflectliteType.assignableTo) Tryz.func154 (by kernel_rfl) (by kernel_rfl) (by kernel_rfl) (by kernel_rfl)
  have h11 := @run_callFunc_extern Tryz.prog 104 _ (ReflectliteValue.method (ReflectliteValue.valueError "reflectlite.Value.Elem" 0) ReflectliteValue.elem) Tryz.func104 (by kernel_rfl) (by kernel_rfl) (by kernel_rfl) (by kernel_rfl)
  have h12 := @run_callFunc_extern Tryz.prog 105 _ ReflectliteValue.set Tryz.func105 (by kernel_rfl) (by kernel_rfl) (by kernel_rfl) (by kernel_rfl)
  have mA := as_mAssignableTo
  have mK := as_mKind
  have mE := as_mElem
  have mI := as_mImplements
  have tO := as_typeOfE
  have aS := as_assignableE
  have vO := as_valueOfE
  have f6 := as_valueOfPE
  have f7 := as_typePE
  have kP := as_kindPE
  have kE := as_kindE
  have eL := as_elemE
  have iM := as_implementsE
  have n8 := as_isNilE ⟨w.heap.size, 0, none⟩ t (asW t 103 w) (by simp)
  have hlt : 0 < w.heap.size := lt_of_cell hg
  have htl : t.block < w.heap.size := lt_of_cell ht0
  have hg2 : (asW t 103 w).cell? ⟨0, 0, none⟩ = some errT := by
    rw [World.cell?_alloc_lt _ _ ⟨0, 0, none⟩ (by simp), World.cell?_alloc_lt _ _ ⟨0, 0, none⟩ hlt]; exact hg
  have el := as_elemVE ⟨w.heap.size, 0, none⟩ t (asX t 103 w) (by rw [World.cell?_alloc_lt _ _ ⟨w.heap.size, 0, none⟩ (by simp; omega)]; simp)
  have st := as_setE t ⟨w.heap.size + 1 + 1 + 1, 0, none⟩ c old ((asX t 103 w).alloc (.cells #[.int .i64 c] 95))
    (by rw [World.cell?_alloc_at _ _ _ _ (by simp)]; rfl)
    (by rw [World.cell?_alloc_lt _ _ t (by simp; omega), World.cell?_alloc_lt _ _ t (by simp; omega), World.cell?_alloc_lt _ _ t (by simp; omega), World.cell?_alloc_lt _ _ t htl]; exact ht0)
    (by rw [World.frozen?_alloc_old _ _ t (by simp; omega), World.frozen?_alloc_old _ _ t (by simp; omega), World.frozen?_alloc_old _ _ t (by simp; omega), World.frozen?_alloc_old _ _ t (Nat.ne_of_lt htl)]; exact hf0)
  go_enter Tryz.func44, Tryz.ntmps44
  go_wp2
  refine wp_loop_rounds 1 ?_
  rw [rounds_succ]
  go_wp2
  go_ret
  exact ⟨rfl, rfl⟩

theorem as_assignableN (w : World) : (ReflectliteType.relation "AssignableTo" ReflectliteType.assignableTo #[rty 95, rtv 96]).run Tryz.prog w = .ok (.bool false) w := by kernel_rfl
set_option maxHeartbeats 4000000 in
/-- errors.As(an Errno, a **Fault): false. -/
theorem as_miss (c : Int) (t : Addr) (w : World) (hg : w.cell? ⟨0, 0, none⟩ = some errT) :
    Calls Tryz.prog 44 #[errV c, .iface 98 (.pointer (some t))] w fun ev w' => ev = .returned (.bool false) ∧ w' = asX t 98 w := by
  have h6 := @run_callFunc_extern Tryz.prog 73 _ (fun args => ReflectliteValue.unpack (args.getD 0 (.tuple #[]))) Tryz.func73 (by kernel_rfl) (by kernel_rfl) (by kernel_rfl) (by kernel_rfl)
  have h7 := @run_callFunc_extern Tryz.prog 74 _ (ReflectliteValue.methodAny (ReflectliteValue.valueError "reflectlite.Value.Type" 0) (fun t _ _ _ => ReflectliteType.toType t)) Tryz.func74 (by kernel_rfl) (by kernel_rfl) (by kernel_rfl) (by kernel_rfl)
  have h8 := @run_callFunc_extern Tryz.prog 75 _ (ReflectliteValue.method (ReflectliteValue.valueError "reflectlite.Value.IsNil" 0) ReflectliteValue.isNil) Tryz.func75 (by kernel_rfl) (by kernel_rfl) (by kernel_rfl) (by kernel_rfl)
  have h27 := @run_callFunc_extern Tryz.prog 144 _ (ReflectliteType.abiMethod fun t => do pure (.int .u8 (← Rtype.kind t))) Tryz.func144 (by kernel_rfl) (by kernel_rfl) (by kernel_rfl) (by kernel_rfl)
  have h37 := @run_callFunc_extern Tryz.prog 156 _ (ReflectliteType.method ReflectliteType.elem) Tryz.func156 (by kernel_rfl) (by kernel_rfl) (by kernel_rfl) (by kernel_rfl)
  have h38 := @run_callFunc_extern Tryz.prog 157 _ (ReflectliteType.relation "Implements" ReflectliteType.implements_) Tryz.func157 (by kernel_rfl) (by kernel_rfl) (by kernel_rfl) (by kernel_rfl)
  have h10 := @run_callFunc_extern Tryz.prog 71 _ ReflectliteType.typeOf Tryz.func71 (by kernel_rfl) (by kernel_rfl) (by kernel_rfl) (by kernel_rfl)
  have h35 := @run_callFunc_extern Tryz.prog 154 _ (ReflectliteType.relation "AssignableTo" ReflectliteType.assignableTo) Tryz.func154 (by kernel_rfl) (by kernel_rfl) (by kernel_rfl) (by kernel_rfl)
  have h11 := @run_callFunc_extern Tryz.prog 104 _ (ReflectliteValue.method (ReflectliteValue.valueError "reflectlite.Value.Elem" 0) ReflectliteValue.elem) Tryz.func104 (by kernel_rfl) (by kernel_rfl) (by kernel_rfl) (by kernel_rfl)
  have h12 := @run_callFunc_extern Tryz.prog 105 _ ReflectliteValue.set Tryz.func105 (by kernel_rfl) (by kernel_rfl) (by kernel_rfl) (by kernel_rfl)
  have mA := as_mAssignableTo
  have mK := as_mKind
  have mE := as_mElem
  have mI := as_mImplements
  have tO := as_typeOfE
  have aS := as_assignableN
  have f6 := as_valueOfPF
  have f7 := as_typePF
  have kP := as_kindPF
  have kE := as_kindF
  have eL := as_elemF
  have iM := as_implementsF
  have nA := er_noAs
  have nU := er_noUnwrap
  have nV := er_noUnwraps
  have n8 := as_isNilF ⟨w.heap.size, 0, none⟩ t (asW t 98 w) (by simp)
  have hlt : 0 < w.heap.size := lt_of_cell hg
  have hg2 : (asW t 98 w).cell? ⟨0, 0, none⟩ = some errT := by
    rw [World.cell?_alloc_lt _ _ ⟨0, 0, none⟩ (by simp), World.cell?_alloc_lt _ _ ⟨0, 0, none⟩ hlt]; exact hg
  go_enter Tryz.func44, Tryz.ntmps44
  go_wp2
  refine wp_loop_rounds 1 ?_
  rw [rounds_succ]
  go_wp2
  go_ret
  exact ⟨rfl, rfl⟩

end Go.Proofs.YtgkeolddpielpaaGreatDoor
