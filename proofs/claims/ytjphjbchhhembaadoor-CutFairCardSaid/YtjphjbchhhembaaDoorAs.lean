/- errors.As at a **api.Fault and at a *api.Errno, by contracts. After the worked text ToyasAs. -/
import Derived.Test.YtjphjbchhhembaaDoorErr
namespace Go.Proofs.YtjphjbchhhembaaDoor
open Go.RowKit Go.Extern.Stop Go.Stop Go.Extern

theorem as_rlm (z : Sem Value) (f : TypeId → Addr → Nat → Nat → Sem Value) (v : Value) :
    ReflectliteValue.method z f #[v] = (do match ← ReflectliteValue.parts v with | none => z | some (t, a, fl) => f t a fl (fl % 32)) := rfl
theorem as_rls (v x : Value) : ReflectliteValue.set #[v, x] = (do
    let (some (dst, a, fl), some (src, b, _)) := (← ReflectliteValue.parts v, ← ReflectliteValue.parts x)
      | unsupported (.noEntry "extern/(internal/reflectlite.Value).Set.zeroValue")
    if fl / ReflectliteValue.flagAddr % 2 == 0 then unsupported (.noEntry "extern/(internal/reflectlite.Value).Set.unaddressable")
    let val ← loadVar src b
    if ← Rtype.directlyAssignable dst src then storeVar dst a val
    else if ← Rtype.implements dst src then
      if (← Rtype.kind src) == 20 then
        match val with
        | .nilIface => unsupported (.noEntry "extern/reflectlite: a nil value of one interface type handed on as a value of another")
        | _ => storeVar dst a val
      else storeVar dst a (.iface src val)
    else panicString ("reflectlite.Set: value of type " ++ (← Rtype.spelt src) ++ " is not assignable to type " ++ (← Rtype.spelt dst))
    pure (.tuple #[])) := rfl
theorem as_mKind (h : Value) (w : World) : (Go.method 345 175 (.agg #[h]) "Kind").run Tryd.prog w = .ok (156, h) w := by kernel_rfl
theorem as_mElem (h : Value) (w : World) : (Go.method 345 175 (.agg #[h]) "Elem").run Tryd.prog w = .ok (168, .agg #[h]) w := by kernel_rfl
theorem as_mImplements (h : Value) (w : World) : (Go.method 345 175 (.agg #[h]) "Implements").run Tryd.prog w = .ok (169, .agg #[h]) w := by kernel_rfl
theorem as_mAssignableTo (h : Value) (w : World) : (Go.method 345 175 (.agg #[h]) "AssignableTo").run Tryd.prog w = .ok (166, .agg #[h]) w := by kernel_rfl
/-- what package errors' variable of the type 'error' holds -/
def errT : Value := .iface 175 (.agg #[.pointer (some ⟨1, 34, none⟩)])
abbrev rty (t : Nat) : Value := .agg #[.pointer (some ⟨1, t, none⟩)]
abbrev rtv (t : Nat) : Value := .iface 175 (rty t)
abbrev rvl (t : Nat) (a : Addr) (f : Int) : Value := .agg #[.pointer (some ⟨1, t, none⟩), .pointer (some a), .int .u64 f]
/-- what a target leaves behind -/
abbrev asW (t : Addr) (p : Nat) (w : World) : World := ((w.alloc (.cells #[.pointer (some t)] p)).alloc (.cells #[.pointer (some ⟨1, p, none⟩), .pointer (some ⟨w.heap.size, 0, none⟩), .int .u64 150] 139))
abbrev asX (t : Addr) (p : Nat) (w : World) : World := (asW t p w).alloc (.cells #[.pointer (some ⟨1, p, none⟩), .pointer (some ⟨w.heap.size, 0, none⟩), .int .u64 150] 139)

/-! ### at **api.Fault -/
theorem as_valueOfPF (t : Addr) (w : World) : (ReflectliteValue.unpack (.iface 109 (.pointer (some t)))).run Tryd.prog w = .ok (rvl 109 ⟨w.heap.size, 0, none⟩ 150) (w.alloc (.cells #[.pointer (some t)] 109)) := by kernel_rfl
theorem as_typePF (a : Addr) (w : World) : (ReflectliteValue.methodAny (ReflectliteValue.valueError "reflectlite.Value.Type" 0) (fun t _ _ _ => ReflectliteType.toType t) #[rvl 109 a 150]).run Tryd.prog w = .ok (rtv 109) w := by kernel_rfl
theorem as_kindPF (w : World) : ((ReflectliteType.abiMethod fun t => (fun a : Nat => Value.int IntKind.u8 (a : Int)) <$> Rtype.kind t) #[.pointer (some ⟨1, 109, none⟩)]).run Tryd.prog w = .ok (.int .u8 22) w := by kernel_rfl
theorem as_kindF (w : World) : ((ReflectliteType.abiMethod fun t => (fun a : Nat => Value.int IntKind.u8 (a : Int)) <$> Rtype.kind t) #[.pointer (some ⟨1, 107, none⟩)]).run Tryd.prog w = .ok (.int .u8 22) w := by kernel_rfl
theorem as_partsPF (a : Addr) (w : World) : (ReflectliteValue.parts (rvl 109 a 150)).run Tryd.prog w = .ok (some (109, a, 150)) w := by kernel_rfl
theorem as_isNilF (a p : Addr) (W : World) (ha : W.cell? a = some (.pointer (some p))) :
    (ReflectliteValue.method (ReflectliteValue.valueError "reflectlite.Value.IsNil" 0) ReflectliteValue.isNil #[rvl 109 a 150]).run Tryd.prog W = .ok (.bool false) W := by
  rw [as_rlm]
  simp only [Sem.run_bind, as_partsPF, Result.andThen]
  simp [ReflectliteValue.isNil, loadVar, isAgg, underlying, Tryd.underlying109, ha, Result.andThen]
theorem as_elemF (w : World) : (ReflectliteType.method ReflectliteType.elem #[rty 109]).run Tryd.prog w = .ok (rtv 107) w := by kernel_rfl
theorem as_implementsF (w : World) : (ReflectliteType.relation "Implements" ReflectliteType.implements_ #[rty 107, errT]).run Tryd.prog w = .ok (.bool true) w := by kernel_rfl
theorem as_elemOfF (w : World) : (Rtype.elem? 109).run Tryd.prog w = .ok (some 107) w := by kernel_rfl
theorem as_mkF (p : Addr) (w : World) : (ReflectliteValue.mk 107 p ReflectliteValue.flagAddr).run Tryd.prog w = .ok (rvl 107 p 406) w := by kernel_rfl
theorem as_elemVF (a p : Addr) (W : World) (ha : W.cell? a = some (.pointer (some p))) :
    (ReflectliteValue.method (ReflectliteValue.valueError "reflectlite.Value.Elem" 0) ReflectliteValue.elem #[rvl 109 a 150]).run Tryd.prog W = .ok (rvl 107 p 406) W := by
  rw [as_rlm]
  simp only [Sem.run_bind, as_partsPF, Result.andThen]
  simp [ReflectliteValue.elem, loadVar, isAgg, underlying, Tryd.underlying109, ha, Result.andThen, as_elemOfF, as_mkF]
theorem as_typeOfF (v : Value) (w : World) : (ReflectliteType.typeOf #[.iface 107 v]).run Tryd.prog w = .ok (rtv 107) w := by kernel_rfl
theorem as_assignableF (w : World) : (ReflectliteType.relation "AssignableTo" ReflectliteType.assignableTo #[rty 107, rtv 107]).run Tryd.prog w = .ok (.bool true) w := by kernel_rfl
theorem as_valueOfF (e : Addr) (w : World) : (ReflectliteValue.unpack (.iface 107 (.pointer (some e)))).run Tryd.prog w = .ok (rvl 107 ⟨w.heap.size, 0, none⟩ 150) (w.alloc (.cells #[.pointer (some e)] 107)) := by kernel_rfl
theorem as_partsAF (a : Addr) (w : World) : (ReflectliteValue.parts (rvl 107 a 406)).run Tryd.prog w = .ok (some (107, a, 406)) w := by kernel_rfl
theorem as_partsF (a : Addr) (w : World) : (ReflectliteValue.parts (rvl 107 a 150)).run Tryd.prog w = .ok (some (107, a, 150)) w := by kernel_rfl
theorem as_directF (w : World) : (Rtype.directlyAssignable 107 107).run Tryd.prog w = .ok true w := by kernel_rfl
theorem as_sizeF (w : World) : (sizeOf 107).run Tryd.prog w = .ok 1 w := by kernel_rfl
theorem as_setF (ta b : Addr) (e : Addr) (old : Value) (W : World) (hb : W.cell? b = some (.pointer (some e))) (ht : W.cell? ta = some old) (hf : W.frozen? ta = false) :
    (ReflectliteValue.set #[rvl 107 ta 406, rvl 107 b 150]).run Tryd.prog W = .ok (.tuple #[]) (W.setCell ta (.pointer (some e))) := by
  rw [as_rls]
  simp only [Sem.run_bind, as_partsAF, as_partsF, Result.andThen]
  simp [ReflectliteValue.flagAddr, loadVar, isAgg, underlying, Tryd.underlying107, hb, Result.andThen, as_directF, storeVar, Value.cells, storeCells, Addr.add]
  rw [run_store Tryd.prog W ta _ _ (by rfl)]
  simp [ht, hf]

/-! ### at *api.Errno -/
theorem as_valueOfPE (t : Addr) (w : World) : (ReflectliteValue.unpack (.iface 114 (.pointer (some t)))).run Tryd.prog w = .ok (rvl 114 ⟨w.heap.size, 0, none⟩ 150) (w.alloc (.cells #[.pointer (some t)] 114)) := by kernel_rfl
theorem as_typePE (a : Addr) (w : World) : (ReflectliteValue.methodAny (ReflectliteValue.valueError "reflectlite.Value.Type" 0) (fun t _ _ _ => ReflectliteType.toType t) #[rvl 114 a 150]).run Tryd.prog w = .ok (rtv 114) w := by kernel_rfl
theorem as_kindPE (w : World) : ((ReflectliteType.abiMethod fun t => (fun a : Nat => Value.int IntKind.u8 (a : Int)) <$> Rtype.kind t) #[.pointer (some ⟨1, 114, none⟩)]).run Tryd.prog w = .ok (.int .u8 22) w := by kernel_rfl
theorem as_kindE (w : World) : ((ReflectliteType.abiMethod fun t => (fun a : Nat => Value.int IntKind.u8 (a : Int)) <$> Rtype.kind t) #[.pointer (some ⟨1, 106, none⟩)]).run Tryd.prog w = .ok (.int .u8 2) w := by kernel_rfl
theorem as_partsPE (a : Addr) (w : World) : (ReflectliteValue.parts (rvl 114 a 150)).run Tryd.prog w = .ok (some (114, a, 150)) w := by kernel_rfl
theorem as_isNilE (a p : Addr) (W : World) (ha : W.cell? a = some (.pointer (some p))) :
    (ReflectliteValue.method (ReflectliteValue.valueError "reflectlite.Value.IsNil" 0) ReflectliteValue.isNil #[rvl 114 a 150]).run Tryd.prog W = .ok (.bool false) W := by
  rw [as_rlm]
  simp only [Sem.run_bind, as_partsPE, Result.andThen]
  simp [ReflectliteValue.isNil, loadVar, isAgg, underlying, Tryd.underlying114, ha, Result.andThen]
theorem as_elemE (w : World) : (ReflectliteType.method ReflectliteType.elem #[rty 114]).run Tryd.prog w = .ok (rtv 106) w := by kernel_rfl
theorem as_implementsE (w : World) : (ReflectliteType.relation "Implements" ReflectliteType.implements_ #[rty 106, errT]).run Tryd.prog w = .ok (.bool true) w := by kernel_rfl
theorem as_elemOfE (w : World) : (Rtype.elem? 114).run Tryd.prog w = .ok (some 106) w := by kernel_rfl
theorem as_mkE (p : Addr) (w : World) : (ReflectliteValue.mk 106 p ReflectliteValue.flagAddr).run Tryd.prog w = .ok (rvl 106 p 386) w := by kernel_rfl
theorem as_elemVE (a p : Addr) (W : World) (ha : W.cell? a = some (.pointer (some p))) :
    (ReflectliteValue.method (ReflectliteValue.valueError "reflectlite.Value.Elem" 0) ReflectliteValue.elem #[rvl 114 a 150]).run Tryd.prog W = .ok (rvl 106 p 386) W := by
  rw [as_rlm]
  simp only [Sem.run_bind, as_partsPE, Result.andThen]
  simp [ReflectliteValue.elem, loadVar, isAgg, underlying, Tryd.underlying114, ha, Result.andThen, as_elemOfE, as_mkE]
theorem as_typeOfE (v : Value) (w : World) : (ReflectliteType.typeOf #[.iface 106 v]).run Tryd.prog w = .ok (rtv 106) w := by kernel_rfl
theorem as_assignableE (w : World) : (ReflectliteType.relation "AssignableTo" ReflectliteType.assignableTo #[rty 106, rtv 106]).run Tryd.prog w = .ok (.bool true) w := by kernel_rfl
theorem as_valueOfE (c : Int) (w : World) : (ReflectliteValue.unpack (.iface 106 (.int .i64 c))).run Tryd.prog w = .ok (rvl 106 ⟨w.heap.size, 0, none⟩ 130) (w.alloc (.cells #[.int .i64 c] 106)) := by kernel_rfl
theorem as_partsAE (a : Addr) (w : World) : (ReflectliteValue.parts (rvl 106 a 386)).run Tryd.prog w = .ok (some (106, a, 386)) w := by kernel_rfl
theorem as_partsE (a : Addr) (w : World) : (ReflectliteValue.parts (rvl 106 a 130)).run Tryd.prog w = .ok (some (106, a, 130)) w := by kernel_rfl
theorem as_directE (w : World) : (Rtype.directlyAssignable 106 106).run Tryd.prog w = .ok true w := by kernel_rfl
theorem as_sizeE (w : World) : (sizeOf 106).run Tryd.prog w = .ok 1 w := by kernel_rfl
theorem as_setE (ta b : Addr) (c : Int) (old : Value) (W : World) (hb : W.cell? b = some (.int .i64 c)) (ht : W.cell? ta = some old) (hf : W.frozen? ta = false) :
    (ReflectliteValue.set #[rvl 106 ta 386, rvl 106 b 130]).run Tryd.prog W = .ok (.tuple #[]) (W.setCell ta (.int .i64 c)) := by
  rw [as_rls]
  simp only [Sem.run_bind, as_partsAE, as_partsE, Result.andThen]
  simp [ReflectliteValue.flagAddr, loadVar, isAgg, underlying, Tryd.underlying106, hb, Result.andThen, as_directE, storeVar, Value.cells, storeCells, Addr.add]
  rw [run_store Tryd.prog W ta _ _ (by rfl)]
  simp [ht, hf]

set_option maxHeartbeats 4000000 in
/-- errors.As: the error's own type is the target's. -/
theorem as_hitF (e : Addr) (t : Addr) (old : Value) (w : World) (hg : w.cell? ⟨0, 0, none⟩ = some errT) (ht0 : w.cell? t = some old) (hf0 : w.frozen? t = false) :
    Calls Tryd.prog 60 #[.iface 107 (.pointer (some e)), .iface 109 (.pointer (some t))] w fun ev w' => ev = .returned (.bool true) ∧ w' = ((asX t 109 w).alloc (.cells #[.pointer (some e)] 107)).setCell t (.pointer (some e)) := by
  have h6 := @run_callFunc_extern Tryd.prog 80 _ (fun args => ReflectliteValue.unpack (args.getD 0 (.tuple #[]))) Tryd.func80 (by kernel_rfl) (by kernel_rfl) (by kernel_rfl) (by kernel_rfl)
  have h7 := @run_callFunc_extern Tryd.prog 81 _ (ReflectliteValue.methodAny (ReflectliteValue.valueError "reflectlite.Value.Type" 0) (fun t _ _ _ => ReflectliteType.toType t)) Tryd.func81 (by kernel_rfl) (by kernel_rfl) (by kernel_rfl) (by kernel_rfl)
  have h8 := @run_callFunc_extern Tryd.prog 82 _ (ReflectliteValue.method (ReflectliteValue.valueError "reflectlite.Value.IsNil" 0) ReflectliteValue.isNil) Tryd.func82 (by kernel_rfl) (by kernel_rfl) (by kernel_rfl) (by kernel_rfl)
  have h27 := @run_callFunc_extern Tryd.prog 156 _ (ReflectliteType.abiMethod fun t => do pure (.int .u8 (← Rtype.kind t))) Tryd.func156 (by kernel_rfl) (by kernel_rfl) (by kernel_rfl) (by kernel_rfl)
  have h37 := @run_callFunc_extern Tryd.prog 168 _ (ReflectliteType.method ReflectliteType.elem) Tryd.func168 (by kernel_rfl) (by kernel_rfl) (by kernel_rfl) (by kernel_rfl)
  have h38 := @run_callFunc_extern Tryd.prog 169 _ (ReflectliteType.relation "Implements" ReflectliteType.implements_) Tryd.func169 (by kernel_rfl) (by kernel_rfl) (by kernel_rfl) (by kernel_rfl)
  have h10 := @run_callFunc_extern Tryd.prog 78 _ ReflectliteType.typeOf Tryd.func78 (by kernel_rfl) (by kernel_rfl) (by kernel_rfl) (by kernel_rfl)
  have h35 := @run_callFunc_extern Tryd.prog 166 _ (ReflectliteType.relation "AssignableTo" ReflectliteType.assignableTo) Tryd.func166 (by kernel_rfl) (by kernel_rfl) (by kernel_rfl) (by kernel_rfl)
  have h11 := @run_callFunc_extern Tryd.prog 112 _ (ReflectliteValue.method (ReflectliteValue.valueError "reflectlite.Value.Elem" 0) ReflectliteValue.elem) Tryd.func112 (by kernel_rfl) (by kernel_rfl) (by kernel_rfl) (by kernel_rfl)
  have h12 := @run_callFunc_extern Tryd.prog 113 _ ReflectliteValue.set Tryd.func113 (by kernel_rfl) (by kernel_rfl) (by kernel_rfl) (by kernel_rfl)
  have mA := as_mAssignableTo
  have mK := as_mKind
  have mE := as_mElem
  have mI := as_mImplements
  have tO := as_typeOfF
  have aS := as_assignableF
  have vO := as_valueOfF
  have f6 := as_valueOfPF
  have f7 := as_typePF
  have kP := as_kindPF
  have kE := as_kindF
  have eL := as_elemF
  have iM := as_implementsF
  have n8 := as_isNilF ⟨w.heap.size, 0, none⟩ t (asW t 109 w) (by simp)
  have hlt : 0 < w.heap.size := lt_of_cell hg
  have htl : t.block < w.heap.size := lt_of_cell ht0
  have hg2 : (asW t 109 w).cell? ⟨0, 0, none⟩ = some errT := by
    rw [World.cell?_alloc_lt _ _ ⟨0, 0, none⟩ (by simp), World.cell?_alloc_lt _ _ ⟨0, 0, none⟩ hlt]; exact hg
  have el := as_elemVF ⟨w.heap.size, 0, none⟩ t (asX t 109 w) (by rw [World.cell?_alloc_lt _ _ ⟨w.heap.size, 0, none⟩ (by simp; omega)]; simp)
  have st := as_setF t ⟨w.heap.size + 1 + 1 + 1, 0, none⟩ e old ((asX t 109 w).alloc (.cells #[.pointer (some e)] 107))
    (by rw [World.cell?_alloc_at _ _ _ _ (by simp)]; rfl)
    (by rw [World.cell?_alloc_lt _ _ t (by simp; omega), World.cell?_alloc_lt _ _ t (by simp; omega), World.cell?_alloc_lt _ _ t (by simp; omega), World.cell?_alloc_lt _ _ t htl]; exact ht0)
    (by rw [World.frozen?_alloc_old _ _ t (by simp; omega), World.frozen?_alloc_old _ _ t (by simp; omega), World.frozen?_alloc_old _ _ t (by simp; omega), World.frozen?_alloc_old _ _ t (Nat.ne_of_lt htl)]; exact hf0)
  go_enter Tryd.func60, Tryd.ntmps60
  go_wp2
  refine wp_loop_rounds 1 ?_
  rw [rounds_succ]
  go_wp2
  go_ret
  exact ⟨rfl, rfl⟩

set_option maxHeartbeats 4000000 in
/-- errors.As: the error's own type is the target's. -/
theorem as_hitE (c : Int) (t : Addr) (old : Value) (w : World) (hg : w.cell? ⟨0, 0, none⟩ = some errT) (ht0 : w.cell? t = some old) (hf0 : w.frozen? t = false) :
    Calls Tryd.prog 60 #[.iface 106 (.int .i64 c), .iface 114 (.pointer (some t))] w fun ev w' => ev = .returned (.bool true) ∧ w' = ((asX t 114 w).alloc (.cells #[.int .i64 c] 106)).setCell t (.int .i64 c) := by
  have h6 := @run_callFunc_extern Tryd.prog 80 _ (fun args => ReflectliteValue.unpack (args.getD 0 (.tuple #[]))) Tryd.func80 (by kernel_rfl) (by kernel_rfl) (by kernel_rfl) (by kernel_rfl)
  have h7 := @run_callFunc_extern Tryd.prog 81 _ (ReflectliteValue.methodAny (ReflectliteValue.valueError "reflectlite.Value.Type" 0) (fun t _ _ _ => ReflectliteType.toType t)) Tryd.func81 (by kernel_rfl) (by kernel_rfl) (by kernel_rfl) (by kernel_rfl)
  have h8 := @run_callFunc_extern Tryd.prog 82 _ (ReflectliteValue.method (ReflectliteValue.valueError "reflectlite.Value.IsNil" 0) ReflectliteValue.isNil) Tryd.func82 (by kernel_rfl) (by kernel_rfl) (by kernel_rfl) (by kernel_rfl)
  have h27 := @run_callFunc_extern Tryd.prog 156 _ (ReflectliteType.abiMethod fun t => do pure (.int .u8 (← Rtype.kind t))) Tryd.func156 (by kernel_rfl) (by kernel_rfl) (by kernel_rfl) (by kernel_rfl)
  have h37 := @run_callFunc_extern Tryd.prog 168 _ (ReflectliteType.method ReflectliteType.elem) Tryd.func168 (by kernel_rfl) (by kernel_rfl) (by kernel_rfl) (by kernel_rfl)
  have h38 := @run_callFunc_extern Tryd.prog 169 _ (ReflectliteType.relation "Implements" ReflectliteType.implements_) Tryd.func169 (by kernel_rfl) (by kernel_rfl) (by kernel_rfl) (by kernel_rfl)
  have h10 := @run_callFunc_extern Tryd.prog 78 _ ReflectliteType.typeOf Tryd.func78 (by kernel_rfl) (by kernel_rfl) (by kernel_rfl) (by kernel_rfl)
  have h35 := @run_callFunc_extern Tryd.prog 166 _ (ReflectliteType.relation "AssignableTo" ReflectliteType.assignableTo) Tryd.func166 (by kernel_rfl) (by kernel_rfl) (by kernel_rfl) (by kernel_rfl)
  have h11 := @run_callFunc_extern Tryd.prog 112 _ (ReflectliteValue.method (ReflectliteValue.valueError "reflectlite.Value.Elem" 0) ReflectliteValue.elem) Tryd.func112 (by kernel_rfl) (by kernel_rfl) (by kernel_rfl) (by kernel_rfl)
  have h12 := @run_callFunc_extern Tryd.prog 113 _ ReflectliteValue.set Tryd.func113 (by kernel_rfl) (by kernel_rfl) (by kernel_rfl) (by kernel_rfl)
  have mA := as_mAssignableTo
  have mK := as_mKind
  have mE := as_mElem
  have mI := as_mImplements
  have tO := as_typeOfE
  have aS := as_assignableE
  have vO := as_valueOfE
  have f6 := as_valueOfPE
  have f7 := as_typePE
  have kP := as_kindPE
  have kE := as_kindE
  have eL := as_elemE
  have iM := as_implementsE
  have n8 := as_isNilE ⟨w.heap.size, 0, none⟩ t (asW t 114 w) (by simp)
  have hlt : 0 < w.heap.size := lt_of_cell hg
  have htl : t.block < w.heap.size := lt_of_cell ht0
  have hg2 : (asW t 114 w).cell? ⟨0, 0, none⟩ = some errT := by
    rw [World.cell?_alloc_lt _ _ ⟨0, 0, none⟩ (by simp), World.cell?_alloc_lt _ _ ⟨0, 0, none⟩ hlt]; exact hg
  have el := as_elemVE ⟨w.heap.size, 0, none⟩ t (asX t 114 w) (by rw [World.cell?_alloc_lt _ _ ⟨w.heap.size, 0, none⟩ (by simp; omega)]; simp)
  have st := as_setE t ⟨w.heap.size + 1 + 1 + 1, 0, none⟩ c old ((asX t 114 w).alloc (.cells #[.int .i64 c] 106))
    (by rw [World.cell?_alloc_at _ _ _ _ (by simp)]; rfl)
    (by rw [World.cell?_alloc_lt _ _ t (by simp; omega), World.cell?_alloc_lt _ _ t (by simp; omega), World.cell?_alloc_lt _ _ t (by simp; omega), World.cell?_alloc_lt _ _ t htl]; exact ht0)
    (by rw [World.frozen?_alloc_old _ _ t (by simp; omega), World.frozen?_alloc_old _ _ t (by simp; omega), World.frozen?_alloc_old _ _ t (by simp; omega), World.frozen?_alloc_old _ _ t (Nat.ne_of_lt htl)]; exact hf0)
  go_enter Tryd.func60, Tryd.ntmps60
  go_wp2
  refine wp_loop_rounds 1 ?_
  rw [rounds_succ]
  go_wp2
  go_ret
  exact ⟨rfl, rfl⟩

theorem as_assignableN (w : World) : (ReflectliteType.relation "AssignableTo" ReflectliteType.assignableTo #[rty 106, rtv 107]).run Tryd.prog w = .ok (.bool false) w := by kernel_rfl
set_option maxHeartbeats 4000000 in
/-- errors.As(an Errno, a **Fault): false. -/
theorem as_miss (c : Int) (t : Addr) (w : World) (hg : w.cell? ⟨0, 0, none⟩ = some errT) :
    Calls Tryd.prog 60 #[errV c, .iface 109 (.pointer (some t))] w fun ev w' => ev = .returned (.bool false) ∧ w' = asX t 109 w := by
  have h6 := @run_callFunc_extern Tryd.prog 80 _ (fun args => ReflectliteValue.unpack (args.getD 0 (.tuple #[]))) Tryd.func80 (by kernel_rfl) (by kernel_rfl) (by kernel_rfl) (by kernel_rfl)
  have h7 := @run_callFunc_extern Tryd.prog 81 _ (ReflectliteValue.methodAny (ReflectliteValue.valueError "reflectlite.Value.Type" 0) (fun t _ _ _ => ReflectliteType.toType t)) Tryd.func81 (by kernel_rfl) (by kernel_rfl) (by kernel_rfl) (by kernel_rfl)
  have h8 := @run_callFunc_extern Tryd.prog 82 _ (ReflectliteValue.method (ReflectliteValue.valueError "reflectlite.Value.IsNil" 0) ReflectliteValue.isNil) Tryd.func82 (by kernel_rfl) (by kernel_rfl) (by kernel_rfl) (by kernel_rfl)
  have h27 := @run_callFunc_extern Tryd.prog 156 _ (ReflectliteType.abiMethod fun t => do pure (.int .u8 (← Rtype.kind t))) Tryd.func156 (by kernel_rfl) (by kernel_rfl) (by kernel_rfl) (by kernel_rfl)
  have h37 := @run_callFunc_extern Tryd.prog 168 _ (ReflectliteType.method ReflectliteType.elem) Tryd.func168 (by kernel_rfl) (by kernel_rfl) (by kernel_rfl) (by kernel_rfl)
  have h38 := @run_callFunc_extern Tryd.prog 169 _ (ReflectliteType.relation "Implements" ReflectliteType.implements_) Tryd.func169 (by kernel_rfl) (by kernel_rfl) (by kernel_rfl) (by kernel_rfl)
  have h10 := @run_callFunc_extern Tryd.prog 78 _ ReflectliteType.typeOf Tryd.func78 (by kernel_rfl) (by kernel_rfl) (by kernel_rfl) (by kernel_rfl)
  have h35 := @run_callFunc_extern Tryd.prog 166 _ (ReflectliteType.relation "AssignableTo" ReflectliteType.assignableTo) Tryd.func166 (by kernel_rfl) (by kernel_rfl) (by kernel_rfl) (by kernel_rfl)
  have h11 := @run_callFunc_extern Tryd.prog 112 _ (ReflectliteValue.method (ReflectliteValue.valueError "reflectlite.Value.Elem" 0) ReflectliteValue.elem) Tryd.func112 (by kernel_rfl) (by kernel_rfl) (by kernel_rfl) (by kernel_rfl)
  have h12 := @run_callFunc_extern Tryd.prog 113 _ ReflectliteValue.set Tryd.func113 (by kernel_rfl) (by kernel_rfl) (by kernel_rfl) (by kernel_rfl)
  have mA := as_mAssignableTo
  have mK := as_mKind
  have mE := as_mElem
  have mI := as_mImplements
  have tO := as_typeOfE
  have aS := as_assignableN
  have f6 := as_valueOfPF
  have f7 := as_typePF
  have kP := as_kindPF
  have kE := as_kindF
  have eL := as_elemF
  have iM := as_implementsF
  have nA := er_noAs
  have nU := er_noUnwrap
  have nV := er_noUnwraps
  have n8 := as_isNilF ⟨w.heap.size, 0, none⟩ t (asW t 109 w) (by simp)
  have hlt : 0 < w.heap.size := lt_of_cell hg
  have hg2 : (asW t 109 w).cell? ⟨0, 0, none⟩ = some errT := by
    rw [World.cell?_alloc_lt _ _ ⟨0, 0, none⟩ (by simp), World.cell?_alloc_lt _ _ ⟨0, 0, none⟩ hlt]; exact hg
  go_enter Tryd.func60, Tryd.ntmps60
  go_wp2
  refine wp_loop_rounds 1 ?_
  rw [rounds_succ]
  go_wp2
  go_ret
  exact ⟨rfl, rfl⟩

end Go.Proofs.YtjphjbchhhembaaDoor
