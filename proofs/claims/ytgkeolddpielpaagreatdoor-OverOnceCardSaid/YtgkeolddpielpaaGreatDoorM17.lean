/- Parts of the proof: Ch8, As. -/
import Derived.Test.YtgkeolddpielpaaGreatDoorM16
/- The document's Bend: done. -/
namespace Go.Proofs.YtgkeolddpielpaaGreatDoor
open Go.RowKit

attribute [local go_sem ↓] Go.wp_at_zero Go.wp_at_succ

/-- A copy, of which a table is set. -/
theorem bend_copy {w4 W : World} {z B tb n m k c' d' e' K p j n2 c2 : Nat} {A' B' A2 : Option Addr} {xs : List Value} {N : NetD} {t : TabD} {u : Int} (hz : z + 3 ≤ B) (hK : B ≤ K)
    (hV : Own w4 B 119 3 A' n c' (tcells N.vs)) (hA : Own w4 B 121 3 B' m d' (tcells N.ar)) (hY : YwR w4 K (some ⟨tb, 0, none⟩) k e' xs N.ts)
    (hVK : ∀ g, blkOf A' = some g → g < K) (hAK : ∀ g, blkOf B' = some g → g < K) (ht : N.ts[p]? = some t)
    (hown : Own w4 (z + 3) 2 1 A2 n2 c2 (icells (t.turn j u).costs)) (hne : ∀ g, blkOf A2 = some g → g < K)
    (hS : KeptZ (fun b => z + 3 ≤ b) (set3 w4 tb (p * 3) (.int .i64 t.ins) (.int .i64 t.outs) (.slice A2 n2 c2)) W) :
    RdNet (msk W (fun b => z ≤ b)) A' B' (some ⟨tb, 0, none⟩) n m k (N.bend p (t.turn j u)) := by
  have htb : K ≤ tb := (hY.1.lt tb rfl).1
  have htl : tb < w4.heap.size := (hY.1.lt tb rfl).2
  have hk1 : Kept (fun b => b ≠ tb) w4 (set3 w4 tb (p * 3) (.int .i64 t.ins) (.int .i64 t.outs) (.slice A2 n2 c2)) := (Kept.refl _ _).set3 (Nat.le_refl _) (fun h => h rfl) _ _ _ _
  have hsz := set3_size w4 tb (p * 3) (.int .i64 t.ins) (.int .i64 t.outs) (.slice A2 n2 c2)
  have hk2 : ∀ b, z + 3 ≤ b → b ≠ tb → b < w4.heap.size → W.heap[b]? = w4.heap[b]? := fun b h1 h2 h3 => (hS.1 b h1 (by rw [hsz]; exact h3)).trans (hk1 b h2 h3)
  have hV1 : Rd3 W A' n N.vs := (Rds.rd3 hV.rds).keep (fun b e => hk2 b (by have := (hV.lt b e).1; omega) (by have := hVK b e; omega) (hV.lt b e).2)
  have hA1 : Rd3 W B' m N.ar := (Rds.rd3 hA.rds).keep (fun b e => hk2 b (by have := (hA.lt b e).1; omega) (by have := hAK b e; omega) (hA.lt b e).2)
  have hR1 : RdI W A2 n2 (t.turn j u).costs := (hown.rds.rdI).keepB (fun b e => hk2 b (hown.lt b e).1 (by have := hne b e; omega) (hown.lt b e).2)
  have hm : Le (msk w4 (fun b => z + 3 ≤ b ∧ b ≠ tb)) (msk W (fun b => z ≤ b)) := fun a v hc => by
    obtain ⟨⟨h1, h2⟩, h3⟩ := msk_cell.1 hc
    refine msk_cell.2 ⟨by omega, ?_⟩
    rw [World.cell?_of_block (hk2 _ h1 h2 (lt_of_cell h3))]
    exact h3
  have hY1 := hY.rdY2 (G := fun b => z + 3 ≤ b ∧ b ≠ tb) (fun b hb hne' => ⟨by omega, fun e => hne' (by rw [e]; rfl)⟩)
  have hY2 := hY1.setT (t' := t.turn j u) ht hm (hR1.msk (fun b e => by have := (hown.lt b e).1; omega)) ⟨hown.cap, hown.capMax⟩
  rw [Nat.zero_add] at hY2
  refine ⟨hV1.msk (fun b e => by have := (hV.lt b e).1; omega), hA1.msk (fun b e => by have := (hA.lt b e).1; omega), RdY2.mskd (hY2.le (fun b o x hb hc => ?_) (Le.refl _)) (fun b e => ?_)⟩
  · cases hb
    exact cell_keep (hS.1 tb (by omega) (by rw [hsz]; exact htl)) hc
  · cases e
    show z ≤ tb
    omega
set_option maxHeartbeats 2000000 in
theorem refBend_ok (A B C : Option Addr) (n m k c d e p i o ti to_ : Nat) (cs : List Int) (u : Int) (N : NetD) (w : World) (h : RdNet w A B C n m k N) (hn : n ≤ 1000000) (hm : m ≤ 1000000) (hk : k ≤ 1000000) (hc : ∀ t ∈ N.ts, t.costs.length ≤ 1000000) (ht : N.ts[p]? = some ⟨ti, to_, cs⟩) (hT : TabOk ⟨ti, to_, cs⟩) (hi : i < ti) (ho : o < to_) (hu : wOk u = true) :
    Calls Tryz.prog 48 #[.agg #[.slice A n c, .slice B m d, .slice C k e], .int .i64 p, .int .i64 i, .int .i64 o, .int .i64 u] w fun r w' => ∃ A' B' C' c' d' e', r = .returned (.tuple #[.agg #[.slice A' n c', .slice B' m d', .slice C' k e'], .agg #[.slice none 0 0, .int .i64 0]]) ∧ RdNet (msk w' (fun b => w.heap.size ≤ b)) A' B' C' n m k (N.bend p ((⟨ti, to_, cs⟩ : TabD).turn (i * to_ + o) u)) ∧ Below w.heap.size w w' := by
  have hpk : p < k := by have := (List.getElem?_eq_some_iff.1 ht).1; rw [h.2.2.1] at this; exact this
  obtain ⟨cb, co_, eC, c0', c1, A1, n1, cc1, c2, hr1, _, _⟩ := h.2.2.2 p _ ht
  subst eC
  simp only at c0' c1 c2 hr1
  have HCN := Lib.hid (fun (V : World) (hV : Below w.heap.size w V) => copyNet_any A B _ n m k c d e N V (h.below hV) hn hm hk hc)
  have HWT := Lib.hid (fun (V : World) (hV : Below w.heap.size w V) => refWith_ok A1 n1 cc1 ti to_ i o cs u V (hr1.below hV) hT hi ho hu)
  have HTT := Lib.hid ht
  have i3 : (0 : Int) ≤ (p : Int) := by omega
  have i4 : (p : Int) < (k : Int) := by omega
  have i5 : ¬ ((p : Int) < 0) := by omega
  have i6 : ¬ ((k : Int) ≤ (p : Int)) := by omega
  have al0 := fun a b c => Below.cellOf (w' := ((w.alloc a).alloc b).alloc c) (Bel.alloc (Bel.alloc (Bel.alloc (Below.refl _ _)))) (Nat.le_refl _) c0'
  have al1 := fun a b c => Below.cellOf (w' := ((w.alloc a).alloc b).alloc c) (Bel.alloc (Bel.alloc (Bel.alloc (Below.refl _ _)))) (Nat.le_refl _) c1
  have al2 := fun a b c => Below.cellOf (w' := ((w.alloc a).alloc b).alloc c) (Bel.alloc (Bel.alloc (Bel.alloc (Below.refl _ _)))) (Nat.le_refl _) c2
  clear h hn hm hk hc ht hT hi ho hu c0' c1 c2 hr1
  go_enter Tryz.func48, Tryz.ntmps48
  go_wp2_with fail
  (refine calls_named ?_; intro w1 hw1)
  have hb1 : Below w.heap.size w w1 := by rw [hw1]; exact (by repeat (first | exact Below.refl _ _ | assumption | apply Below.drew | apply below_drewN | apply Bel.alloc | (refine Bel.setCell_ ?_ ?_; rotate_left; omega) | (refine Bel.step ?_ (by assumption))))
  have hJ1 : Blk w1 w.heap.size 26 #[.slice A n c, .slice B m d, .slice (some ⟨cb, co_, none⟩) k e] := by rw [hw1]; exact (by repeat (first | assumption | (refine Blk.new' _ _ _ ?_; first | with_unfolding_all rfl | (simp; done)) | apply Blk.drewN | apply Blk.drew | apply Blk.alloc | (refine Blk.far_ ?_ ?_ _; rotate_left; omega)))
  have hR1 : Blk w1 (w.heap.size + 1) 26 #[.slice none 0 0, .slice none 0 0, .slice none 0 0] := by rw [hw1]; exact (by repeat (first | assumption | (refine Blk.new' _ _ _ ?_; first | with_unfolding_all rfl | (simp; done)) | apply Blk.drewN | apply Blk.drew | apply Blk.alloc | (refine Blk.far_ ?_ ?_ _; rotate_left; omega)))
  have hX1 : Blk w1 (w.heap.size + 1 + 1) 44 #[.slice none 0 0, .int .i64 0] := by rw [hw1]; exact (by repeat (first | assumption | (refine Blk.new' _ _ _ ?_; first | with_unfolding_all rfl | (simp; done)) | apply Blk.drewN | apply Blk.drew | apply Blk.alloc | (refine Blk.far_ ?_ ?_ _; rotate_left; omega)))
  have hz1 : w.heap.size + 3 ≤ w1.heap.size := by rw [hw1]; simp
  clear hw1 al0 al1 al2
  with_reducible refine (HWT.out w1 hb1).mono ?_
  rintro r w3 ⟨A2, c2, rfl, hown, hb3⟩
  have hb3' := Bel.step hb1 hb3
  have hJ3 := hJ1.below hb3 hJ1.lt
  have hR3 := hR1.below hb3 hR1.lt
  have hX3 := hX1.below hb3 hX1.lt
  have hz3 := Nat.le_trans hz1 hb3.size
  have HO := Lib.hid (hown.mono hz1)
  clear hb1 hb3 hJ1 hR1 hX1 hz1 hown HWT
  obtain ⟨j0, j1, j2⟩ := hJ3.three
  have zJ := hJ3.lt
  go_wp2_with fail
  (refine calls_named ?_; intro w2 hw2)
  have hb2 : Below w3.heap.size w3 w2 := by rw [hw2]; exact (by repeat (first | exact Below.refl _ _ | assumption | apply Below.drew | apply below_drewN | apply Bel.alloc | (refine Bel.setCell_ ?_ ?_; rotate_left; omega) | (refine Bel.step ?_ (by assumption))))
  have hT2 : Blk w2 w3.heap.size 117 #[.int .i64 ti, .int .i64 to_, .slice A2 n1 c2] := by rw [hw2]; exact (by repeat (first | assumption | (refine Blk.new' _ _ _ ?_; first | with_unfolding_all rfl | (simp; done)) | apply Blk.drewN | apply Blk.drew | apply Blk.alloc | (refine Blk.far_ ?_ ?_ _; rotate_left; omega)))
  have hb2' := Bel.step hb3' hb2
  have hR2 := hR3.below hb2 hR3.lt
  have hX2 := hX3.below hb2 hX3.lt
  have hz2 := Nat.le_trans hz3 hb2.size
  have HO2 := Lib.hid (HO.out.below hb2)
  obtain ⟨gt, hgt⟩ : ∃ x, x = w3.heap.size := ⟨_, rfl⟩
  rw [← hgt] at hT2 ⊢
  have hgz : w.heap.size + 3 ≤ gt := by omega
  clear hw2 hb2 hJ3 hR3 hX3 hb3' HO hgt hz3 j0 j1 j2 zJ
  with_reducible refine (HCN.out w2 hb2').mono ?_
  rintro r w4 ⟨A', B', C', c', d', e', K, xs, rfl, hK, hV, hA, hY, hdj, hVK, hAK, hb4⟩
  have hb4' := Bel.step hb2' hb4
  have hR4 := hR2.below hb4 hR2.lt
  have hX4 := hX2.below hb4 hX2.lt
  have hT4 := hT2.below hb4 hT2.lt
  have hgl := hT2.lt
  have hz4 := Nat.le_trans hz2 hb4.size
  have HO4 := Lib.hid (HO2.out.below hb4)
  have HNE := Lib.hid (show ∀ g, blkOf A2 = some g → g < K from fun g hg => Nat.lt_of_lt_of_le (HO2.out.lt g hg).2 hK)
  clear hR2 hX2 hT2 hb4 HCN HO2 hb2'
  obtain ⟨tb, cur, rfl, hg0, htb, _, hcz, hcu⟩ := hY.1.block (by omega)
  obtain ⟨v0, hv0⟩ : ∃ v0, cur[p * 3]? = some v0 := ⟨_, Array.getElem?_eq_getElem (by omega)⟩
  obtain ⟨v1, hv1⟩ : ∃ v1, cur[p * 3 + 1]? = some v1 := ⟨_, Array.getElem?_eq_getElem (by omega)⟩
  obtain ⟨v2, hv2⟩ : ∃ v2, cur[p * 3 + 2]? = some v2 := ⟨_, Array.getElem?_eq_getElem (by omega)⟩
  have ck0 : w4.cell? ⟨tb, p * 3, none⟩ = some v0 := by rw [htb.cell]; exact hv0
  have ck1 : w4.cell? ⟨tb, p * 3 + 1, none⟩ = some v1 := by rw [htb.cell]; exact hv1
  have ck2 : w4.cell? ⟨tb, p * 3 + 2, none⟩ = some v2 := by rw [htb.cell]; exact hv2
  have fk0 := htb.frozen (p * 3)
  have fk1 := htb.frozen (p * 3 + 1)
  have fk2 := htb.frozen (p * 3 + 2)
  have htl := htb.lt
  have zR := hR4.lt
  have zX := hX4.lt
  have zT := hT4.lt
  obtain ⟨t0, t1, t2⟩ := hT4.three
  obtain ⟨r0, r1, r2⟩ := hR4.three
  have fr0 := hR4.frozen 0
  have fr1 := hR4.frozen 1
  have fr2 := hR4.frozen 2
  obtain ⟨x0, x1, fx0, fx1⟩ := hX4.two
  have ne1 : ¬ tb = w.heap.size + 1 := by omega
  have ne2 : ¬ tb = w.heap.size + 1 + 1 := by omega
  have ne3 : ¬ w.heap.size + 1 = tb := by omega
  have ne4 : ¬ w.heap.size + 1 + 1 = tb := by omega
  have ne5 : ¬ tb = w4.heap.size := by omega
  have ne6 : ¬ gt = w4.heap.size := by omega
  have HV := Lib.hid hV
  have HA := Lib.hid hA
  have HY := Lib.hid hY
  have HVK := Lib.hid hVK
  have HAK := Lib.hid hAK
  have HR4 := Lib.hid hR4
  have HX4 := Lib.hid hX4
  clear hV hA hY hdj hVK hAK htb hcz hcu hv0 hv1 hv2 hR4 hX4 hT4
  go_wp2_with fail
  refine bodyPost_named ?_
  intro W hW
  have hRW : Blk W (w.heap.size + 1) 26 #[.slice A' n c', .slice B' m d', .slice (some ⟨tb, 0, none⟩) k e'] := by
    rw [hW]; exact ((((((((HR4.out.far (by simp only; omega) _).far (by simp only; omega) _).far (by simp only; omega) _).set_ 0 _).set_ 1 _).set_ 2 _).far (by simp) _).far (by simp) _).alloc _
  have hXW : Blk W (w.heap.size + 1 + 1) 44 #[.slice none 0 0, .int .i64 0] := by
    rw [hW]; exact ((((((((HX4.out.far (by simp only; omega) _).far (by simp only; omega) _).far (by simp only; omega) _).far (by simp) _).far (by simp) _).far (by simp) _).set_ 0 _).set_ 1 _).alloc _
  have hS : KeptZ (fun b => w.heap.size + 3 ≤ b) (set3 w4 tb (p * 3) (.int .i64 ti) (.int .i64 to_) (.slice A2 n1 c2)) W := by
    rw [hW]
    exact ((((((KeptZ.refl _ _).set (by omega) _ _).set (by omega) _ _).set (by omega) _ _).set (by omega) _ _).set (by omega) _ _).step ((Below.refl _ _).alloc (Nat.le_refl _) _)
  have hbW : Below w.heap.size w W := by
    rw [hW]
    exact Bel.alloc ((((((set3_below hb4' (by omega) _ _ _ _).setCell (by simp only; omega) _).setCell (by simp only; omega) _).setCell (by simp only; omega) _).setCell (by simp only; omega) _).setCell (by simp only; omega) _)
  have hNW := bend_copy (t := ⟨ti, to_, cs⟩) (j := i * to_ + o) (u := u) hz2 hK HV.out HA.out HY.out HVK.out HAK.out HTT.out HO4.out HNE.out hS
  clear hW hS r0 r1 r2 x0 x1
  obtain ⟨r0, r1, r2⟩ := hRW.three
  obtain ⟨x0, x1, _, _⟩ := hXW.two
  refine bodyPost_ret (v := .tuple #[.agg #[.slice A' n c', .slice B' m d', .slice (some ⟨tb, 0, none⟩) k e'], .agg #[.slice none 0 0, .int .i64 0]]) (by simp [results, Tryz.results48, go_sem, r0, r1, r2, x0, x1]) rfl ?_
  exact ⟨A', _, _, c', d', e', rfl, hNW, hbW⟩
end Go.Proofs.YtgkeolddpielpaaGreatDoor

/- errors.As at a **api.Fault and at a *api.Errno, by contracts. After the worked text ToyasAs. -/
namespace Go.Proofs.YtgkeolddpielpaaGreatDoor
open Go.RowKit Go.Extern.Stop Go.Stop Go.Extern

theorem as_rlm (z : Sem Value) (f : TypeId → Addr → Nat → Nat → Sem Value) (v : Value) :
    ReflectliteValue.method z f #[v] = (do match ← ReflectliteValue.parts v with | none => z | some (t, a, fl) => f t a fl (fl % 32)) := rfl
theorem as_rls (v x : Value) : ReflectliteValue.set #[v, x] = (do
    let (some (dst, a, fl), some (src, b, _)) := (← ReflectliteValue.parts v, ← ReflectliteValue.parts x)
      | unsupported (.noEntry "extern/(internal/reflectlite.Value).Set.zeroValue")
    if fl / ReflectliteValue.flagAddr % 2 == 0 then unsupported (.noEntry "extern/(internal/reflectlite.Value).Set.unaddressable")
    let val ← loadVar src b
    if ← Rtype.directlyAssignable dst src then storeVar dst a val
    else if ← Rtype.implements dst src then
      if (← Rtype.kind src) == 20 then
        match val with
        | .nilIface => unsupported (.noEntry "extern/reflectlite: a nil value of one interface type handed on as a value of another")
        | _ => storeVar dst a val
      else storeVar dst a (.iface src val)
    else panicString ("reflectlite.Set: value of type " ++ (← Rtype.spelt src) ++ " is not assignable to type " ++ (← Rtype.spelt dst))
    pure (.tuple #[])) := rfl
theorem as_mKind (h : Value) (w : World) : (Go.method 350 184 (.agg #[h]) "Kind").run Tryz.prog w = .ok (144, h) w := by kernel_rfl
theorem as_mElem (h : Value) (w : World) : (Go.method 350 184 (.agg #[h]) "Elem").run Tryz.prog w = .ok (156, .agg #[h]) w := by kernel_rfl
theorem as_mImplements (h : Value) (w : World) : (Go.method 350 184 (.agg #[h]) "Implements").run Tryz.prog w = .ok (157, .agg #[h]) w := by kernel_rfl
theorem as_mAssignableTo (h : Value) (w : World) : (Go.method 350 184 (.agg #[h]) "AssignableTo").run Tryz.prog w = .ok (154, .agg #[h]) w := by kernel_rfl
/-- what package errors' variable of the type 'error' holds -/
def errT : Value := .iface 184 (.agg #[.pointer (some ⟨1, 39, none⟩)])
abbrev rty (t : Nat) : Value := .agg #[.pointer (some ⟨1, t, none⟩)]
abbrev rtv (t : Nat) : Value := .iface 184 (rty t)
abbrev rvl (t : Nat) (a : Addr) (f : Int) : Value := .agg #[.pointer (some ⟨1, t, none⟩), .pointer (some a), .int .u64 f]
/-- what a target leaves behind -/
abbrev asW (t : Addr) (p : Nat) (w : World) : World := ((w.alloc (.cells #[.pointer (some t)] p)).alloc (.cells #[.pointer (some ⟨1, p, none⟩), .pointer (some ⟨w.heap.size, 0, none⟩), .int .u64 150] 149))
abbrev asX (t : Addr) (p : Nat) (w : World) : World := (asW t p w).alloc (.cells #[.pointer (some ⟨1, p, none⟩), .pointer (some ⟨w.heap.size, 0, none⟩), .int .u64 150] 149)

/-! ### at **api.Fault -/
theorem as_valueOfPF (t : Addr) (w : World) : (ReflectliteValue.unpack (.iface 98 (.pointer (some t)))).run Tryz.prog w = .ok (rvl 98 ⟨w.heap.size, 0, none⟩ 150) (w.alloc (.cells #[.pointer (some t)] 98)) := by kernel_rfl
theorem as_typePF (a : Addr) (w : World) : (ReflectliteValue.methodAny (ReflectliteValue.valueError "reflectlite.Value.Type" 0) (fun t _ _ _ => ReflectliteType.toType t) #[rvl 98 a 150]).run Tryz.prog w = .ok (rtv 98) w := by kernel_rfl
theorem as_kindPF (w : World) : ((ReflectliteType.abiMethod fun t => (fun a : Nat => Value.int IntKind.u8 (a : Int)) <$> Rtype.kind t) #[.pointer (some ⟨1, 98, none⟩)]).run Tryz.prog w = .ok (.int .u8 22) w := by kernel_rfl
theorem as_kindF (w : World) : ((ReflectliteType.abiMethod fun t => (fun a : Nat => Value.int IntKind.u8 (a : Int)) <$> Rtype.kind t) #[.pointer (some ⟨1, 96, none⟩)]).run Tryz.prog w = .ok (.int .u8 22) w := by kernel_rfl
theorem as_partsPF (a : Addr) (w : World) : (ReflectliteValue.parts (rvl 98 a 150)).run Tryz.prog w = .ok (some (98, a, 150)) w := by kernel_rfl
theorem as_isNilF (a p : Addr) (W : World) (ha : W.cell? a = some (.pointer (some p))) :
    (ReflectliteValue.method (ReflectliteValue.valueError "reflectlite.Value.IsNil" 0) ReflectliteValue.isNil #[rvl 98 a 150]).run Tryz.prog W = .ok (.bool false) W := by
  rw [as_rlm]
  simp only [Sem.run_bind, as_partsPF, Result.andThen]
  simp [ReflectliteValue.isNil, loadVar, isAgg, underlying, Tryz.underlying98, ha, Result.andThen]
theorem as_elemF (w : World) : (ReflectliteType.method ReflectliteType.elem #[rty 98]).run Tryz.prog w = .ok (rtv 96) w := by kernel_rfl
theorem as_implementsF (w : World) : (ReflectliteType.relation "Implements" ReflectliteType.implements_ #[rty 96, errT]).run Tryz.prog w = .ok (.bool true) w := by kernel_rfl
theorem as_elemOfF (w : World) : (Rtype.elem? 98).run Tryz.prog w = .ok (some 96) w := by kernel_rfl
theorem as_mkF (p : Addr) (w : World) : (ReflectliteValue.mk 96 p ReflectliteValue.flagAddr).run Tryz.prog w = .ok (rvl 96 p 406) w := by kernel_rfl
theorem as_elemVF (a p : Addr) (W : World) (ha : W.cell? a = some (.pointer (some p))) :
    (ReflectliteValue.method (ReflectliteValue.valueError "reflectlite.Value.Elem" 0) ReflectliteValue.elem #[rvl 98 a 150]).run Tryz.prog W = .ok (rvl 96 p 406) W := by
  rw [as_rlm]
  simp only [Sem.run_bind, as_partsPF, Result.andThen]
  simp [ReflectliteValue.elem, loadVar, isAgg, underlying, Tryz.underlying98, ha, Result.andThen, as_elemOfF, as_mkF]
theorem as_typeOfF (v : Value) (w : World) : (ReflectliteType.typeOf #[.iface 96 v]).run Tryz.prog w = .ok (rtv 96) w := by kernel_rfl
theorem as_assignableF (w : World) : (ReflectliteType.relation "AssignableTo" ReflectliteType.assignableTo #[rty 96, rtv 96]).run Tryz.prog w = .ok (.bool true) w := by kernel_rfl
theorem as_valueOfF (e : Addr) (w : World) : (ReflectliteValue.unpack (.iface 96 (.pointer (some e)))).run Tryz.prog w = .ok (rvl 96 ⟨w.heap.size, 0, none⟩ 150) (w.alloc (.cells #[.pointer (some e)] 96)) := by kernel_rfl
theorem as_partsAF (a : Addr) (w : World) : (ReflectliteValue.parts (rvl 96 a 406)).run Tryz.prog w = .ok (some (96, a, 406)) w := by kernel_rfl
theorem as_partsF (a : Addr) (w : World) : (ReflectliteValue.parts (rvl 96 a 150)).run Tryz.prog w = .ok (some (96, a, 150)) w := by kernel_rfl
theorem as_directF (w : World) : (Rtype.directlyAssignable 96 96).run Tryz.prog w = .ok true w := by kernel_rfl
theorem as_sizeF (w : World) : (sizeOf 96).run Tryz.prog w = .ok 1 w := by kernel_rfl
theorem as_setF (ta b : Addr) (e : Addr) (old : Value) (W : World) (hb : W.cell? b = some (.pointer (some e))) (ht : W.cell? ta = some old) (hf : W.frozen? ta = false) :
    (ReflectliteValue.set #[rvl 96 ta 406, rvl 96 b 150]).run Tryz.prog W = .ok (.tuple #[]) (W.setCell ta (.pointer (some e))) := by
  rw [as_rls]
  simp only [Sem.run_bind, as_partsAF, as_partsF, Result.andThen]
  simp [ReflectliteValue.flagAddr, loadVar, isAgg, underlying, Tryz.underlying96, hb, Result.andThen, as_directF, storeVar, Value.cells, storeCells, Addr.add]
  rw [run_store Tryz.prog W ta _ _ (by rfl)]
  simp [ht, hf]

/-! ### at *api.Errno -/
theorem as_valueOfPE (t : Addr) (w : World) : (ReflectliteValue.unpack (.iface 103 (.pointer (some t)))).run Tryz.prog w = .ok (rvl 103 ⟨w.heap.size, 0, none⟩ 150) (w.alloc (.cells #[.pointer (some t)] 103)) := by kernel_rfl
theorem as_typePE (a : Addr) (w : World) : (ReflectliteValue.methodAny (ReflectliteValue.valueError "reflectlite.Value.Type" 0) (fun t _ _ _ => ReflectliteType.toType t) #[rvl 103 a 150]).run Tryz.prog w = .ok (rtv 103) w := by kernel_rfl
theorem as_kindPE (w : World) : ((ReflectliteType.abiMethod fun t => (fun a : Nat => Value.int IntKind.u8 (a : Int)) <$> Rtype.kind t) #[.pointer (some ⟨1, 103, none⟩)]).run Tryz.prog w = .ok (.int .u8 22) w := by kernel_rfl
theorem as_kindE (w : World) : ((ReflectliteType.abiMethod fun t => (fun a : Nat => Value.int IntKind.u8 (a : Int)) <$> Rtype.kind t) #[.pointer (some ⟨1, 95, none⟩)]).run Tryz.prog w = .ok (.int .u8 2) w := by kernel_rfl
theorem as_partsPE (a : Addr) (w : World) : (ReflectliteValue.parts (rvl 103 a 150)).run Tryz.prog w = .ok (some (103, a, 150)) w := by kernel_rfl
theorem as_isNilE (a p : Addr) (W : World) (ha : W.cell? a = some (.pointer (some p))) :
    (ReflectliteValue.method (ReflectliteValue.valueError "reflectlite.Value.IsNil" 0) ReflectliteValue.isNil #[rvl 103 a 150]).run Tryz.prog W = .ok (.bool false) W := by
  rw [as_rlm]
  simp only [Sem.run_bind, as_partsPE, Result.andThen]
  simp [ReflectliteValue.isNil, loadVar, isAgg, underlying, Tryz.underlying103, ha, Result.andThen]
theorem as_elemE (w : World) : (ReflectliteType.method ReflectliteType.elem #[rty 103]).run Tryz.prog w = .ok (rtv 95) w := by kernel_rfl
theorem as_implementsE (w : World) : (ReflectliteType.relation "Implements" ReflectliteType.implements_ #[rty 95, errT]).run Tryz.prog w = .ok (.bool true) w := by kernel_rfl
theorem as_elemOfE (w : World) : (Rtype.elem? 103).run Tryz.prog w = .ok (some 95) w := by kernel_rfl
theorem as_mkE (p : Addr) (w : World) : (ReflectliteValue.mk 95 p ReflectliteValue.flagAddr).run Tryz.prog w = .ok (rvl 95 p 386) w := by kernel_rfl
theorem as_elemVE (a p : Addr) (W : World) (ha : W.cell? a = some (.pointer (some p))) :
    (ReflectliteValue.method (ReflectliteValue.valueError "reflectlite.Value.Elem" 0) ReflectliteValue.elem #[rvl 103 a 150]).run Tryz.prog W = .ok (rvl 95 p 386) W := by
  rw [as_rlm]
  simp only [Sem.run_bind, as_partsPE, Result.andThen]
  simp [ReflectliteValue.elem, loadVar, isAgg, underlying, Tryz.underlying103, ha, Result.andThen, as_elemOfE, as_mkE]
theorem as_typeOfE (v : Value) (w : World) : (ReflectliteType.typeOf #[.iface 95 v]).run Tryz.prog w = .ok (rtv 95) w := by kernel_rfl
theorem as_assignableE (w : World) : (ReflectliteType.relation "AssignableTo" ReflectliteType.assignableTo #[rty 95, rtv 95]).run Tryz.prog w = .ok (.bool true) w := by kernel_rfl
theorem as_valueOfE (c : Int) (w : World) : (ReflectliteValue.unpack (.iface 95 (.int .i64 c))).run Tryz.prog w = .ok (rvl 95 ⟨w.heap.size, 0, none⟩ 130) (w.alloc (.cells #[.int .i64 c] 95)) := by kernel_rfl
theorem as_partsAE (a : Addr) (w : World) : (ReflectliteValue.parts (rvl 95 a 386)).run Tryz.prog w = .ok (some (95, a, 386)) w := by kernel_rfl
theorem as_partsE (a : Addr) (w : World) : (ReflectliteValue.parts (rvl 95 a 130)).run Tryz.prog w = .ok (some (95, a, 130)) w := by kernel_rfl
theorem as_directE (w : World) : (Rtype.directlyAssignable 95 95).run Tryz.prog w = .ok true w := by kernel_rfl
theorem as_sizeE (w : World) : (sizeOf 95).run Tryz.prog w = .ok 1 w := by kernel_rfl
theorem as_setE (ta b : Addr) (c : Int) (old : Value) (W : World) (hb : W.cell? b = some (.int .i64 c)) (ht : W.cell? ta = some old) (hf : W.frozen? ta = false) :
    (ReflectliteValue.set #[rvl 95 ta 386, rvl 95 b 130]).run Tryz.prog W = .ok (.tuple #[]) (W.setCell ta (.int .i64 c)) := by
  rw [as_rls]
  simp only [Sem.run_bind, as_partsAE, as_partsE, Result.andThen]
  simp [ReflectliteValue.flagAddr, loadVar, isAgg, underlying, Tryz.underlying95, hb, Result.andThen, as_directE, storeVar, Value.cells, storeCells, Addr.add]
  rw [run_store Tryz.prog W ta _ _ (by rfl)]
  simp [ht, hf]

set_option maxHeartbeats 4000000 in
/-- errors.As: the error's own type is the target's. -/
theorem as_hitF (e : Addr) (t : Addr) (old : Value) (w : World) (hg : w.cell? ⟨0, 0, none⟩ = some errT) (ht0 : w.cell? t = some old) (hf0 : w.frozen? t = false) :
    Calls Tryz.prog 44 #[.iface 96 (.pointer (some e)), .iface 98 (.pointer (some t))] w fun ev w' => ev = .returned (.bool true) ∧ w' = ((asX t 98 w).alloc (.cells #[.pointer (some e)] 96)).setCell t (.pointer (some e)) := by
  have h6 := @run_callFunc_extern Tryz.prog 73 _ (fun args => ReflectliteValue.unpack (args.getD 0 (.tuple #[]))) Tryz.func73 (by kernel_rfl) (by kernel_rfl) (by kernel_rfl) (by kernel_rfl)
  have h7 := @run_callFunc_extern Tryz.prog 74 _ (ReflectliteValue.methodAny (ReflectliteValue.valueError "reflectlite.Value.Type" 0) (fun t _ _ _ => ReflectliteType.toType t)) Tryz.func74 (by kernel_rfl) (by kernel_rfl) (by kernel_rfl) (by kernel_rfl)
  have h8 := @run_callFunc_extern Tryz.prog 75 _ (ReflectliteValue.method (ReflectliteValue.valueError "reflectlite.Value.IsNil" 0) ReflectliteValue.isNil) Tryz.func75 (by kernel_rfl) (by kernel_rfl) (by kernel_rfl) (by kernel_rfl)
  have h27 := @run_callFunc_extern Tryz.prog 144 _ (ReflectliteType.abiMethod fun t => do pure (.int .u8 (← Rtype.kind t))) Tryz.func144 (by kernel_rfl) (by kernel_rfl) (by kernel_rfl) (by kernel_rfl)
  have h37 := @run_callFunc_extern Tryz.prog 156 _ (ReflectliteType.method ReflectliteType.elem) Tryz.func156 (by kernel_rfl) (by kernel_rfl) (by kernel_rfl) (by kernel_rfl)
  have h38 := @run_callFunc_extern Tryz.prog 157 _ (ReflectliteType.relation "Implements" ReflectliteType.implements_) Tryz.func157 (by kernel_rfl) (by kernel_rfl) (by kernel_rfl) (by kernel_rfl)
  have h10 := @run_callFunc_extern Tryz.prog 71 _ ReflectliteType.typeOf Tryz.func71 (by kernel_rfl) (by kernel_rfl) (by kernel_rfl) (by kernel_rfl)
  have h35 := @run_callFunc_extern Tryz.prog 154 _ (ReflectliteType.relation "AssignableTo" ReflectliteType.assignableTo) Tryz.func154 (by kernel_rfl) (by kernel_rfl) (by kernel_rfl) (by kernel_rfl)
  have h11 := @run_callFunc_extern Tryz.prog 104 _ (ReflectliteValue.method (ReflectliteValue.valueError "reflectlite.Value.Elem" 0) ReflectliteValue.elem) Tryz.func104 (by kernel_rfl) (by kernel_rfl) (by kernel_rfl) (by kernel_rfl)
  have h12 := @run_callFunc_extern Tryz.prog 105 _ ReflectliteValue.set Tryz.func105 (by kernel_rfl) (by kernel_rfl) (by kernel_rfl) (by kernel_rfl)
  have mA := as_mAssignableTo
  have mK := as_mKind
  have mE := as_mElem
  have mI := as_mImplements
  have tO := as_typeOfF
  have aS := as_assignableF
  have vO := as_valueOfF
  have f6 := as_valueOfPF
  have f7 := as_typePF
  have kP := as_kindPF
  have kE := as_kindF
  have eL := as_elemF
  have iM := as_implementsF
  have n8 := as_isNilF ⟨w.heap.size, 0, none⟩ t (asW t 98 w) (by simp)
  have hlt : 0 < w.heap.size := lt_of_cell hg
  have htl : t.block < w.heap.size := lt_of_cell ht0
  have hg2 : (asW t 98 w).cell? ⟨0, 0, none⟩ = some errT := by
    rw [World.cell?_alloc_lt _ _ ⟨0, 0, none⟩ (by simp), World.cell?_alloc_lt _ _ ⟨0, 0, none⟩ hlt]; exact hg
  have el := as_elemVF ⟨w.heap.size, 0, none⟩ t (asX t 98 w) (by rw [World.cell?_alloc_lt _ _ ⟨w.heap.size, 0, none⟩ (by simp; omega)]; simp)
  have st := as_setF t ⟨w.heap.size + 1 + 1 + 1, 0, none⟩ e old ((asX t 98 w).alloc (.cells #[.pointer (some e)] 96))
    (by rw [World.cell?_alloc_at _ _ _ _ (by simp)]; rfl)
    (by rw [World.cell?_alloc_lt _ _ t (by simp; omega), World.cell?_alloc_lt _ _ t (by simp; omega), World.cell?_alloc_lt _ _ t (by simp; omega), World.cell?_alloc_lt _ _ t htl]; exact ht0)
    (by rw [World.frozen?_alloc_old _ _ t (by simp; omega), World.frozen?_alloc_old _ _ t (by simp; omega), World.frozen?_alloc_old _ _ t (by simp; omega), World.frozen?_alloc_old _ _ t (Nat.ne_of_lt htl)]; exact hf0)
  go_enter Tryz.func44, Tryz.ntmps44
  go_wp2
  refine wp_loop_rounds 1 ?_
  rw [rounds_succ]
  go_wp2
  go_ret
  exact ⟨rfl, rfl⟩

set_option maxHeartbeats 4000000 in
/-- errors.As: the error's own type is the target's. -/
theorem as_hitE (c : Int) (t : Addr) (old : Value) (w : World) (hg : w.cell? ⟨0, 0, none⟩ = some errT) (ht0 : w.cell? t = some old) (hf0 : w.frozen? t = false) :
    Calls Tryz.prog 44 #[.iface 95 (.int .i64 c), .iface 103 (.pointer (some t))] w fun ev w' => ev = .returned (.bool true) ∧ w' = ((asX t 103 w).alloc (.cells #[.int .i64 c] 95)).setCell t (.int .i64 c) := by
  have h6 := @run_callFunc_extern Tryz.prog 73 _ (fun args => ReflectliteValue.unpack (args.getD 0 (.tuple #[]))) Tryz.func73 (by kernel_rfl) (by kernel_rfl) (by kernel_rfl) (by kernel_rfl)
  have h7 := @run_callFunc_extern Tryz.prog 74 _ (ReflectliteValue.methodAny (ReflectliteValue.valueError "reflectlite.Value.Type" 0) (fun t _ _ _ => ReflectliteType.toType t)) Tryz.func74 (by kernel_rfl) (by kernel_rfl) (by kernel_rfl) (by kernel_rfl)
  have h8 := @run_callFunc_extern Tryz.prog 75 _ (ReflectliteValue.method (ReflectliteValue.valueError "reflectlite.Value.IsNil" 0) ReflectliteValue.isNil) Tryz.func75 (by kernel_rfl) (by kernel_rfl) (by kernel_rfl) (by kernel_rfl)
  have h27 := @run_callFunc_extern Tryz.prog 144 _ (ReflectliteType.abiMethod fun t => do pure (.int .u8 (← Rtype.kind t))) Tryz.func144 (by kernel_rfl) (by kernel_rfl) (by kernel_rfl) (by kernel_rfl)
  have h37 := @run_callFunc_extern Tryz.prog 156 _ (ReflectliteType.method ReflectliteType.elem) Tryz.func156 (by kernel_rfl) (by kernel_rfl) (by kernel_rfl) (by kernel_rfl)
  have h38 := @run_callFunc_extern Tryz.prog 157 _ (ReflectliteType.relation "Implements" ReflectliteType.implements_) Tryz.func157 (by kernel_rfl) (by kernel_rfl) (by kernel_rfl) (by kernel_rfl)
  have h10 := @run_callFunc_extern Tryz.prog 71 _ ReflectliteType.typeOf Tryz.func71 (by kernel_rfl) (by kernel_rfl) (by kernel_rfl) (by kernel_rfl)
  have h35 := @run_callFunc_extern Tryz.prog 154 _ (ReflectliteType.relation "AssignableTo" ReflectliteType.assignableTo) Tryz.func154 (by kernel_rfl) (by kernel_rfl) (by kernel_rfl) (by kernel_rfl)
  have h11 := @run_callFunc_extern Tryz.prog 104 _ (ReflectliteValue.method (ReflectliteValue.valueError "reflectlite.Value.Elem" 0) ReflectliteValue.elem) Tryz.func104 (by kernel_rfl) (by kernel_rfl) (by kernel_rfl) (by kernel_rfl)
  have h12 := @run_callFunc_extern Tryz.prog 105 _ ReflectliteValue.set Tryz.func105 (by kernel_rfl) (by kernel_rfl) (by kernel_rfl) (by kernel_rfl)
  have mA := as_mAssignableTo
  have mK := as_mKind
  have mE := as_mElem
  have mI := as_mImplements
  have tO := as_typeOfE
  have aS := as_assignableE
  have vO := as_valueOfE
  have f6 := as_valueOfPE
  have f7 := as_typePE
  have kP := as_kindPE
  have kE := as_kindE
  have eL := as_elemE
  have iM := as_implementsE
  have n8 := as_isNilE ⟨w.heap.size, 0, none⟩ t (asW t 103 w) (by simp)
  have hlt : 0 < w.heap.size := lt_of_cell hg
  have htl : t.block < w.heap.size := lt_of_cell ht0
  have hg2 : (asW t 103 w).cell? ⟨0, 0, none⟩ = some errT := by
    rw [World.cell?_alloc_lt _ _ ⟨0, 0, none⟩ (by simp), World.cell?_alloc_lt _ _ ⟨0, 0, none⟩ hlt]; exact hg
  have el := as_elemVE ⟨w.heap.size, 0, none⟩ t (asX t 103 w) (by rw [World.cell?_alloc_lt _ _ ⟨w.heap.size, 0, none⟩ (by simp; omega)]; simp)
  have st := as_setE t ⟨w.heap.size + 1 + 1 + 1, 0, none⟩ c old ((asX t 103 w).alloc (.cells #[.int .i64 c] 95))
    (by rw [World.cell?_alloc_at _ _ _ _ (by simp)]; rfl)
    (by rw [World.cell?_alloc_lt _ _ t (by simp; omega), World.cell?_alloc_lt _ _ t (by simp; omega), World.cell?_alloc_lt _ _ t (by simp; omega), World.cell?_alloc_lt _ _ t htl]; exact ht0)
    (by rw [World.frozen?_alloc_old _ _ t (by simp; omega), World.frozen?_alloc_old _ _ t (by simp; omega), World.frozen?_alloc_old _ _ t (by simp; omega), World.frozen?_alloc_old _ _ t (Nat.ne_of_lt htl)]; exact hf0)
  go_enter Tryz.func44, Tryz.ntmps44
  go_wp2
  refine wp_loop_rounds 1 ?_
  rw [rounds_succ]
  go_wp2
  go_ret
  exact ⟨rfl, rfl⟩

theorem as_assignableN (w : World) : (ReflectliteType.relation "AssignableTo" ReflectliteType.assignableTo #[rty 95, rtv 96]).run Tryz.prog w = .ok (.bool false) w := by kernel_rfl
set_option maxHeartbeats 4000000 in
/-- errors.As(an Errno, a **Fault): false. -/
theorem as_miss (c : Int) (t : Addr) (w : World) (hg : w.cell? ⟨0, 0, none⟩ = some errT) :
    Calls Tryz.prog 44 #[errV c, .iface 98 (.pointer (some t))] w fun ev w' => ev = .returned (.bool false) ∧ w' = asX t 98 w := by
  have h6 := @run_callFunc_extern Tryz.prog 73 _ (fun args => ReflectliteValue.unpack (args.getD 0 (.tuple #[]))) Tryz.func73 (by kernel_rfl) (by kernel_rfl) (by kernel_rfl) (by kernel_rfl)
  have h7 := @run_callFunc_extern Tryz.prog 74 _ (ReflectliteValue.methodAny (ReflectliteValue.valueError "reflectlite.Value.Type" 0) (fun t _ _ _ => ReflectliteType.toType t)) Tryz.func74 (by kernel_rfl) (by kernel_rfl) (by kernel_rfl) (by kernel_rfl)
  have h8 := @run_callFunc_extern Tryz.prog 75 _ (ReflectliteValue.method (ReflectliteValue.valueError "reflectlite.Value.IsNil" 0) ReflectliteValue.isNil) Tryz.func75 (by kernel_rfl) (by kernel_rfl) (by kernel_rfl) (by kernel_rfl)
  have h27 := @run_callFunc_extern Tryz.prog 144 _ (ReflectliteType.abiMethod fun t => do pure (.int .u8 (← Rtype.kind t))) Tryz.func144 (by kernel_rfl) (by kernel_rfl) (by kernel_rfl) (by kernel_rfl)
  have h37 := @run_callFunc_extern Tryz.prog 156 _ (ReflectliteType.method ReflectliteType.elem) Tryz.func156 (by kernel_rfl) (by kernel_rfl) (by kernel_rfl) (by kernel_rfl)
  have h38 := @run_callFunc_extern Tryz.prog 157 _ (ReflectliteType.relation "Implements" ReflectliteType.implements_) Tryz.func157 (by kernel_rfl) (by kernel_rfl) (by kernel_rfl) (by kernel_rfl)
  have h10 := @run_callFunc_extern Tryz.prog 71 _ ReflectliteType.typeOf Tryz.func71 (by kernel_rfl) (by kernel_rfl) (by kernel_rfl) (by kernel_rfl)
  have h35 := @run_callFunc_extern Tryz.prog 154 _ (ReflectliteType.relation "AssignableTo" ReflectliteType.assignableTo) Tryz.func154 (by kernel_rfl) (by kernel_rfl) (by kernel_rfl) (by kernel_rfl)
  have h11 := @run_callFunc_extern Tryz.prog 104 _ (ReflectliteValue.method (ReflectliteValue.valueError "reflectlite.Value.Elem" 0) ReflectliteValue.elem) Tryz.func104 (by kernel_rfl) (by kernel_rfl) (by kernel_rfl) (by kernel_rfl)
  have h12 := @run_callFunc_extern Tryz.prog 105 _ ReflectliteValue.set Tryz.func105 (by kernel_rfl) (by kernel_rfl) (by kernel_rfl) (by kernel_rfl)
  have mA := as_mAssignableTo
  have mK := as_mKind
  have mE := as_mElem
  have mI := as_mImplements
  have tO := as_typeOfE
  have aS := as_assignableN
  have f6 := as_valueOfPF
  have f7 := as_typePF
  have kP := as_kindPF
  have kE := as_kindF
  have eL := as_elemF
  have iM := as_implementsF
  have nA := er_noAs
  have nU := er_noUnwrap
  have nV := er_noUnwraps
  have n8 := as_isNilF ⟨w.heap.size, 0, none⟩ t (asW t 98 w) (by simp)
  have hlt : 0 < w.heap.size := lt_of_cell hg
  have hg2 : (asW t 98 w).cell? ⟨0, 0, none⟩ = some errT := by
    rw [World.cell?_alloc_lt _ _ ⟨0, 0, none⟩ (by simp), World.cell?_alloc_lt _ _ ⟨0, 0, none⟩ hlt]; exact hg
  go_enter Tryz.func44, Tryz.ntmps44
  go_wp2
  refine wp_loop_rounds 1 ?_
  rw [rounds_succ]
  go_wp2
  go_ret
  exact ⟨rfl, rfl⟩

end Go.Proofs.YtgkeolddpielpaaGreatDoor
