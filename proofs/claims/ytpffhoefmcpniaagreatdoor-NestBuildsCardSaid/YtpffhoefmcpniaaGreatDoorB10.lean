/- Parts of the proof: Err, As, Ft. -/
import Derived.Test.YtpffhoefmcpniaaGreatDoorB1
import Derived.Test.YtpffhoefmcpniaaGreatDoorB2
import Derived.LaidEql
import Derived.Stop.Asserts
import Derived.RowKitTokens
import Derived.Lib.IfaceEq
import Derived.Stop.IfaceNil
namespace Go.Proofs.YtpffhoefmcpniaaGreatDoor
open Go.RowKit Go.Extern.Stop Go.Stop Go.Extern

abbrev errV (c : Int) : Value := .iface 94 (.int .i64 c)
abbrev fltV (b o : Nat) : Value := .iface 95 (.pointer (some ⟨b, o, none⟩))

def Chain (w : World) : Value → List (ByteArray × Int) → Int → Prop
 | v, [], c => v = errV c
 | v, p :: ps, c => ∃ b o u, v = fltV b o ∧ w.cell? ⟨b, o, none⟩ = some (.string p.1) ∧ w.cell? ⟨b, o + 1, none⟩ = some (.int .i64 p.2) ∧ w.cell? ⟨b, o + 2, none⟩ = some u ∧ Chain w u ps c
theorem Chain.below {w w' : World} (hb : Below w.heap.size w w') : ∀ {ps : List (ByteArray × Int)} {v : Value} {c : Int}, Chain w v ps c → Chain w' v ps c
 | [], _, _, h => h
 | _ :: _, _, _, h => by
  obtain ⟨b, o, u, h1, h2, h3, h4, h5⟩ := h
  exact ⟨b, o, u, h1, Below.cellOf hb (Nat.le_refl _) h2, Below.cellOf hb (Nat.le_refl _) h3, Below.cellOf hb (Nat.le_refl _) h4, Chain.below hb h5⟩

/-! closed facts -/
theorem er_typeOf (v : Value) (w : World) : (ReflectliteType.typeOf #[.iface 94 v]).run Tryz.prog w = .ok (.iface 169 (.agg #[.pointer (some ⟨1, 94, none⟩)])) w := by kernel_rfl
def erComp : Array Value → Sem Value := ReflectliteType.method fun t => do Rtype.noPackHeld "Comparable" t; pure (.bool (← typeInfo t).comparable)
theorem er_comparable (w : World) : (erComp #[.agg #[.pointer (some ⟨1, 94, none⟩)]]).run Tryz.prog w = .ok (.bool true) w := by kernel_rfl
theorem er_mComparable (v : Value) (w : World) : (Go.method 382 169 v "Comparable").run Tryz.prog w = .ok (175, v) w := by kernel_rfl
theorem er_noIs (v : Value) (xT : TypeId) (w : World) : (Instr.typeAssert (.iface 94 v) xT 171 true).run Tryz.prog w = .ok (.tuple #[.nilIface, .bool false]) w := run_typeAssert_lacksB Tryz.underlying171 (by kernel_rfl) (by kernel_rfl) v xT w
theorem er_noIsF (v : Value) (xT : TypeId) (w : World) : (Instr.typeAssert (.iface 95 v) xT 171 true).run Tryz.prog w = .ok (.tuple #[.nilIface, .bool false]) w := run_typeAssert_lacksB Tryz.underlying171 (by kernel_rfl) (by kernel_rfl) v xT w
theorem er_noUnwrap (v : Value) (xT : TypeId) (w : World) : (Instr.typeAssert (.iface 94 v) xT 174 true).run Tryz.prog w = .ok (.tuple #[.nilIface, .bool false]) w := run_typeAssert_lacksB Tryz.underlying174 (by kernel_rfl) (by kernel_rfl) v xT w
theorem er_noUnwraps (v : Value) (xT : TypeId) (w : World) : (Instr.typeAssert (.iface 94 v) xT 176 true).run Tryz.prog w = .ok (.tuple #[.nilIface, .bool false]) w := run_typeAssert_lacksB Tryz.underlying176 (by kernel_rfl) (by kernel_rfl) v xT w
theorem er_noAs (v : Value) (xT : TypeId) (w : World) : (Instr.typeAssert (.iface 94 v) xT 181 true).run Tryz.prog w = .ok (.tuple #[.nilIface, .bool false]) w := run_typeAssert_lacksB Tryz.underlying181 (by kernel_rfl) (by kernel_rfl) v xT w
theorem er_hasUnwrapF (v : Value) (xT : TypeId) (w : World) : (Instr.typeAssert (.iface 95 v) xT 174 true).run Tryz.prog w = .ok (.tuple #[.iface 95 v, .bool true]) w := run_typeAssert_hasB Tryz.underlying174 (by kernel_rfl) v xT w
theorem er_mUnwrap (v : Value) (w : World) : (Go.method 382 95 v "Unwrap").run Tryz.prog w = .ok (169, v) w := by kernel_rfl
theorem er_comp : (Tryz.prog.info? 94).map (·.comparable) = some true := by kernel_rfl
theorem er_eq (a b : Int) (w : World) : (binOp .eql 36 (errV a) (errV b)).run Tryz.prog w = .ok (.bool (a == b)) w := Lib.run_eql_iface_int w a b Tryz.underlying36 er_comp Tryz.underlying94
theorem er_ne (p : Value) (b : Int) (w : World) : (binOp .eql 36 (.iface 95 p) (errV b)).run Tryz.prog w = .ok (.bool false) w := run_eql_iface_types (P := Tryz.prog) 95 94 p (.int .i64 b) Tryz.underlying36 (by decide) w

theorem chain_cases {w : World} {v : Value} {ps : List (ByteArray × Int)} {c : Int} (h : Chain w v ps c) : v = errV c ∧ ps = [] ∨ ∃ b o u p t, v = fltV b o ∧ ps = p :: t ∧ w.cell? ⟨b, o, none⟩ = some (.string p.1) ∧ w.cell? ⟨b, o + 1, none⟩ = some (.int .i64 p.2) ∧ w.cell? ⟨b, o + 2, none⟩ = some u ∧ Chain w u t c := by
 cases ps with
 | nil => exact .inl ⟨h, rfl⟩
 | cons p t => obtain ⟨b, o, u, h1, h2, h3, h4, h5⟩ := h; exact .inr ⟨b, o, u, p, t, h1, rfl, h2, h3, h4, h5⟩
theorem chain_not_nil {w : World} {v : Value} {ps : List (ByteArray × Int)} {c : Int} (h : Chain w v ps c) : ∃ t x, v = .iface t x := by
 rcases chain_cases h with ⟨h, _⟩ | ⟨b, o, u, p, t, h, _⟩ <;> exact ⟨_, _, h⟩

theorem chain_len {w : World} : ∀ {ps qs : List (ByteArray × Int)} {v : Value} {c d : Int}, Chain w v ps c → Chain w v qs d → ps.length = qs.length
 | [], [], _, _, _, _, _ => rfl
 | [], _ :: _, _, _, _, h, g => by obtain ⟨b, o, u, h1, _⟩ := g; unfold Chain at h; rw [h] at h1; cases h1
 | _ :: _, [], _, _, _, g, h => by obtain ⟨b, o, u, h1, _⟩ := g; unfold Chain at h; rw [h] at h1; cases h1
 | _ :: _, _ :: _, _, _, _, h, g => by
  obtain ⟨b, o, u, h1, _, _, h2, h3⟩ := h
  obtain ⟨b', o', u', g1, _, _, g2, g3⟩ := g
  rw [h1] at g1
  cases g1
  rw [h2] at g2
  cases g2
  simp [chain_len h3 g3]
noncomputable def chainLen (w : World) (v : Value) : Nat := by
 classical exact if h : ∃ n c, ∃ ps, Chain w v ps c ∧ ps.length = n then h.choose else 0
theorem chainLen_eq {w : World} {ps : List (ByteArray × Int)} {v : Value} {c : Int} (h : Chain w v ps c) : chainLen w v = ps.length := by
 have hex : ∃ n c, ∃ ps, Chain w v ps c ∧ ps.length = n := ⟨_, c, ps, h, rfl⟩
 unfold chainLen
 rw [dif_pos hex]
 obtain ⟨d, qs, g, hl⟩ := hex.choose_spec
 rw [← hl]
 exact chain_len g h

theorem unwrap_any (b o : Nat) (u : Value) (w : World) (h : w.cell? ⟨b, o + 2, none⟩ = some u) :
 Calls Tryz.prog 169 #[.pointer (some ⟨b, o, none⟩)] w fun e w' => e = .returned u ∧ w' = w := by
 go_enter Tryz.func169, Tryz.ntmps169
 go_wp2
 go_ret
 exact ⟨rfl, rfl⟩

set_option maxHeartbeats 1000000 in
theorem is_loop (v : Value) (ps : List (ByteArray × Int)) (c : Int) (w : World) (h : Chain w v ps c) :
 Calls Tryz.prog 63 #[v, errV c, .bool true] w fun e w' => e = .returned (.bool true) ∧ w' = w := by
 have nE := er_noIs
 have nF := er_noIsF
 have uF := er_hasUnwrapF
 have mU := er_mUnwrap
 have heq := er_eq
 have hne := er_ne
 have hCL : ∀ (ps : List (ByteArray × Int)) (v : Value) (c : Int), Chain w v ps c → chainLen w v = ps.length := fun _ _ _ h => chainLen_eq h
 have HCL := Lib.hid hCL; clear hCL
 have HU : ∀ (b o : Nat) (u : Value), w.cell? ⟨b, o + 2, none⟩ = some u → Calls Tryz.prog 169 #[.pointer (some ⟨b, o, none⟩)] w fun e w' => e = .returned u ∧ w' = w := fun b o u h => unwrap_any b o u w h
 have HU' := Lib.hid HU; clear HU
 go_enter Tryz.func63, Tryz.ntmps63
 go_wp2
 go_loop [0] (fun i => ∃ qs, Chain w i qs c) (fun i => chainLen w i)
 case atStart => exact ⟨ps, h⟩
 case round =>
  obtain ⟨qs, hq⟩ := hrel
  rcases chain_cases hq with ⟨rfl, rfl⟩ | ⟨b, o, u, p, t, rfl, rfl, h1, h2, h3, h4⟩
  · clear hq h
    go_wp2
    go_ret
    exact ⟨rfl, rfl⟩
  · obtain ⟨tu, xu, rfl⟩ := chain_not_nil h4
    have e1 := HCL.out _ _ _ hq
    have e2 := HCL.out _ _ _ h4
    have E1 := Lib.hid e1; clear e1
    have E2 := Lib.hid e2; clear e2
    have H4 := Lib.hid h4; clear h4
    have h3' := h3
    clear hq h
    go_wp2_with (go_at_call 169; refine (HU'.out b o _ h3).mono ?_; rintro e w' ⟨rfl, rfl⟩)
    go_round
    case rel => exact ⟨t, H4.out⟩
    case measure => rw [E1.out, E2.out]; simp

set_option maxHeartbeats 1000000 in
theorem errorsIs (v : Value) (ps : List (ByteArray × Int)) (c : Int) (w : World) (h : Chain w v ps c) :
 Calls Tryz.prog 37 #[v, errV c] w fun e w' => e = .returned (.bool true) ∧ w' = w := by
 have h10 := @run_callFunc_extern Tryz.prog 62 _ ReflectliteType.typeOf Tryz.func62 (by kernel_rfl) (by kernel_rfl) (by kernel_rfl) (by kernel_rfl)
 have h32 := @run_callFunc_extern Tryz.prog 175 _ erComp Tryz.func175 (by kernel_rfl) (by kernel_rfl) (by kernel_rfl) (by kernel_rfl)
 have tT := er_typeOf
 have cT := er_comparable
 have mR := er_mComparable
 have HL := Lib.hid (is_loop v ps c w h)
 obtain ⟨tv, xv, rfl⟩ := chain_not_nil h
 clear h
 go_enter Tryz.func37, Tryz.ntmps37
 go_wp2_with (go_at_call 63; refine (HL.out).mono ?_; rintro e w' ⟨rfl, rfl⟩)
 go_ret
 exact ⟨rfl, rfl⟩
end Go.Proofs.YtpffhoefmcpniaaGreatDoor

namespace Go.Proofs.YtpffhoefmcpniaaGreatDoor
open Go.RowKit Go.Extern.Stop Go.Stop Go.Extern

theorem as_rlm (z : Sem Value) (f : TypeId → Addr → Nat → Nat → Sem Value) (v : Value) :
 ReflectliteValue.method z f #[v] = (do match ← ReflectliteValue.parts v with | none => z | some (t, a, fl) => f t a fl (fl % 32)) := rfl
theorem as_rls (v x : Value) : ReflectliteValue.set #[v, x] = (do
 let (some (dst, a, fl), some (src, b, _)) := (← ReflectliteValue.parts v, ← ReflectliteValue.parts x)
  | unsupported (.noEntry "extern/(internal/reflectlite.Value).Set.zeroValue")
 if fl / ReflectliteValue.flagAddr % 2 == 0 then unsupported (.noEntry "extern/(internal/reflectlite.Value).Set.unaddressable")
 let val ← loadVar src b
 if ← Rtype.directlyAssignable dst src then storeVar dst a val
 else if ← Rtype.implements dst src then
  if (← Rtype.kind src) == 20 then
   match val with
   | .nilIface => unsupported (.noEntry "extern/reflectlite: a nil value of one interface type handed on as a value of another")
   | _ => storeVar dst a val
  else storeVar dst a (.iface src val)
 else panicString ("reflectlite.Set: value of type " ++ (← Rtype.spelt src) ++ " is not assignable to type " ++ (← Rtype.spelt dst))
 pure (.tuple #[])) := rfl
theorem as_mKind (h : Value) (w : World) : (Go.method 382 169 (.agg #[h]) "Kind").run Tryz.prog w = .ok (164, h) w := by kernel_rfl
theorem as_mElem (h : Value) (w : World) : (Go.method 382 169 (.agg #[h]) "Elem").run Tryz.prog w = .ok (176, .agg #[h]) w := by kernel_rfl
theorem as_mImplements (h : Value) (w : World) : (Go.method 382 169 (.agg #[h]) "Implements").run Tryz.prog w = .ok (177, .agg #[h]) w := by kernel_rfl
theorem as_mAssignableTo (h : Value) (w : World) : (Go.method 382 169 (.agg #[h]) "AssignableTo").run Tryz.prog w = .ok (174, .agg #[h]) w := by kernel_rfl
def errT : Value := .iface 169 (.agg #[.pointer (some ⟨1, 36, none⟩)])
abbrev rty (t : Nat) : Value := .agg #[.pointer (some ⟨1, t, none⟩)]
abbrev rtv (t : Nat) : Value := .iface 169 (rty t)
abbrev rvl (t : Nat) (a : Addr) (f : Int) : Value := .agg #[.pointer (some ⟨1, t, none⟩), .pointer (some a), .int .u64 f]
abbrev asW (t : Addr) (p : Nat) (w : World) : World := ((w.alloc (.cells #[.pointer (some t)] p)).alloc (.cells #[.pointer (some ⟨1, p, none⟩), .pointer (some ⟨w.heap.size, 0, none⟩), .int .u64 150] 141))
abbrev asX (t : Addr) (p : Nat) (w : World) : World := (asW t p w).alloc (.cells #[.pointer (some ⟨1, p, none⟩), .pointer (some ⟨w.heap.size, 0, none⟩), .int .u64 150] 141)

/-! ### at **api.Fault -/
theorem as_valueOfPF (t : Addr) (w : World) : (ReflectliteValue.unpack (.iface 97 (.pointer (some t)))).run Tryz.prog w = .ok (rvl 97 ⟨w.heap.size, 0, none⟩ 150) (w.alloc (.cells #[.pointer (some t)] 97)) := by kernel_rfl
theorem as_typePF (a : Addr) (w : World) : (ReflectliteValue.methodAny (ReflectliteValue.valueError "reflectlite.Value.Type" 0) (fun t _ _ _ => ReflectliteType.toType t) #[rvl 97 a 150]).run Tryz.prog w = .ok (rtv 97) w := by kernel_rfl
theorem as_kindPF (w : World) : ((ReflectliteType.abiMethod fun t => (fun a : Nat => Value.int IntKind.u8 (a : Int)) <$> Rtype.kind t) #[.pointer (some ⟨1, 97, none⟩)]).run Tryz.prog w = .ok (.int .u8 22) w := by kernel_rfl
theorem as_kindF (w : World) : ((ReflectliteType.abiMethod fun t => (fun a : Nat => Value.int IntKind.u8 (a : Int)) <$> Rtype.kind t) #[.pointer (some ⟨1, 95, none⟩)]).run Tryz.prog w = .ok (.int .u8 22) w := by kernel_rfl
theorem as_partsPF (a : Addr) (w : World) : (ReflectliteValue.parts (rvl 97 a 150)).run Tryz.prog w = .ok (some (97, a, 150)) w := by kernel_rfl
theorem as_isNilF (a p : Addr) (W : World) (ha : W.cell? a = some (.pointer (some p))) :
 (ReflectliteValue.method (ReflectliteValue.valueError "reflectlite.Value.IsNil" 0) ReflectliteValue.isNil #[rvl 97 a 150]).run Tryz.prog W = .ok (.bool false) W := by
 rw [as_rlm]
 simp only [Sem.run_bind, as_partsPF, Result.andThen]
 simp [ReflectliteValue.isNil, loadVar, isAgg, underlying, Tryz.underlying97, ha, Result.andThen]
theorem as_elemF (w : World) : (ReflectliteType.method ReflectliteType.elem #[rty 97]).run Tryz.prog w = .ok (rtv 95) w := by kernel_rfl
theorem as_implementsF (w : World) : (ReflectliteType.relation "Implements" ReflectliteType.implements_ #[rty 95, errT]).run Tryz.prog w = .ok (.bool true) w := by kernel_rfl
theorem as_elemOfF (w : World) : (Rtype.elem? 97).run Tryz.prog w = .ok (some 95) w := by kernel_rfl
theorem as_mkF (p : Addr) (w : World) : (ReflectliteValue.mk 95 p ReflectliteValue.flagAddr).run Tryz.prog w = .ok (rvl 95 p 406) w := by kernel_rfl
theorem as_elemVF (a p : Addr) (W : World) (ha : W.cell? a = some (.pointer (some p))) :
 (ReflectliteValue.method (ReflectliteValue.valueError "reflectlite.Value.Elem" 0) ReflectliteValue.elem #[rvl 97 a 150]).run Tryz.prog W = .ok (rvl 95 p 406) W := by
 rw [as_rlm]
 simp only [Sem.run_bind, as_partsPF, Result.andThen]
 simp [ReflectliteValue.elem, loadVar, isAgg, underlying, Tryz.underlying97, ha, Result.andThen, as_elemOfF, as_mkF]
theorem as_typeOfF (v : Value) (w : World) : (ReflectliteType.typeOf #[.iface 95 v]).run Tryz.prog w = .ok (rtv 95) w := by kernel_rfl
theorem as_assignableF (w : World) : (ReflectliteType.relation "AssignableTo" ReflectliteType.assignableTo #[rty 95, rtv 95]).run Tryz.prog w = .ok (.bool true) w := by kernel_rfl
theorem as_valueOfF (e : Addr) (w : World) : (ReflectliteValue.unpack (.iface 95 (.pointer (some e)))).run Tryz.prog w = .ok (rvl 95 ⟨w.heap.size, 0, none⟩ 150) (w.alloc (.cells #[.pointer (some e)] 95)) := by kernel_rfl
theorem as_partsAF (a : Addr) (w : World) : (ReflectliteValue.parts (rvl 95 a 406)).run Tryz.prog w = .ok (some (95, a, 406)) w := by kernel_rfl
theorem as_partsF (a : Addr) (w : World) : (ReflectliteValue.parts (rvl 95 a 150)).run Tryz.prog w = .ok (some (95, a, 150)) w := by kernel_rfl
theorem as_directF (w : World) : (Rtype.directlyAssignable 95 95).run Tryz.prog w = .ok true w := by kernel_rfl
theorem as_setF (ta b : Addr) (e : Addr) (old : Value) (W : World) (hb : W.cell? b = some (.pointer (some e))) (ht : W.cell? ta = some old) (hf : W.frozen? ta = false) :
 (ReflectliteValue.set #[rvl 95 ta 406, rvl 95 b 150]).run Tryz.prog W = .ok (.tuple #[]) (W.setCell ta (.pointer (some e))) := by
 rw [as_rls]
 simp only [Sem.run_bind, as_partsAF, as_partsF, Result.andThen]
 simp [ReflectliteValue.flagAddr, loadVar, isAgg, underlying, Tryz.underlying95, hb, Result.andThen, as_directF, storeVar, Value.cells, storeCells, Addr.add]
 rw [run_store Tryz.prog W ta _ _ (by rfl)]
 simp [ht, hf]

/-! ### at *api.Errno -/
theorem as_valueOfPE (t : Addr) (w : World) : (ReflectliteValue.unpack (.iface 102 (.pointer (some t)))).run Tryz.prog w = .ok (rvl 102 ⟨w.heap.size, 0, none⟩ 150) (w.alloc (.cells #[.pointer (some t)] 102)) := by kernel_rfl
theorem as_typePE (a : Addr) (w : World) : (ReflectliteValue.methodAny (ReflectliteValue.valueError "reflectlite.Value.Type" 0) (fun t _ _ _ => ReflectliteType.toType t) #[rvl 102 a 150]).run Tryz.prog w = .ok (rtv 102) w := by kernel_rfl
theorem as_kindPE (w : World) : ((ReflectliteType.abiMethod fun t => (fun a : Nat => Value.int IntKind.u8 (a : Int)) <$> Rtype.kind t) #[.pointer (some ⟨1, 102, none⟩)]).run Tryz.prog w = .ok (.int .u8 22) w := by kernel_rfl
theorem as_kindE (w : World) : ((ReflectliteType.abiMethod fun t => (fun a : Nat => Value.int IntKind.u8 (a : Int)) <$> Rtype.kind t) #[.pointer (some ⟨1, 94, none⟩)]).run Tryz.prog w = .ok (.int .u8 2) w := by kernel_rfl
theorem as_partsPE (a : Addr) (w : World) : (ReflectliteValue.parts (rvl 102 a 150)).run Tryz.prog w = .ok (some (102, a, 150)) w := by kernel_rfl
theorem as_isNilE (a p : Addr) (W : World) (ha : W.cell? a = some (.pointer (some p))) :
 (ReflectliteValue.method (ReflectliteValue.valueError "reflectlite.Value.IsNil" 0) ReflectliteValue.isNil #[rvl 102 a 150]).run Tryz.prog W = .ok (.bool false) W := by
 rw [as_rlm]
 simp only [Sem.run_bind, as_partsPE, Result.andThen]
 simp [ReflectliteValue.isNil, loadVar, isAgg, underlying, Tryz.underlying102, ha, Result.andThen]
theorem as_elemE (w : World) : (ReflectliteType.method ReflectliteType.elem #[rty 102]).run Tryz.prog w = .ok (rtv 94) w := by kernel_rfl
theorem as_implementsE (w : World) : (ReflectliteType.relation "Implements" ReflectliteType.implements_ #[rty 94, errT]).run Tryz.prog w = .ok (.bool true) w := by kernel_rfl
theorem as_elemOfE (w : World) : (Rtype.elem? 102).run Tryz.prog w = .ok (some 94) w := by kernel_rfl
theorem as_mkE (p : Addr) (w : World) : (ReflectliteValue.mk 94 p ReflectliteValue.flagAddr).run Tryz.prog w = .ok (rvl 94 p 386) w := by kernel_rfl
theorem as_elemVE (a p : Addr) (W : World) (ha : W.cell? a = some (.pointer (some p))) :
 (ReflectliteValue.method (ReflectliteValue.valueError "reflectlite.Value.Elem" 0) ReflectliteValue.elem #[rvl 102 a 150]).run Tryz.prog W = .ok (rvl 94 p 386) W := by
 rw [as_rlm]
 simp only [Sem.run_bind, as_partsPE, Result.andThen]
 simp [ReflectliteValue.elem, loadVar, isAgg, underlying, Tryz.underlying102, ha, Result.andThen, as_elemOfE, as_mkE]
theorem as_typeOfE (v : Value) (w : World) : (ReflectliteType.typeOf #[.iface 94 v]).run Tryz.prog w = .ok (rtv 94) w := by kernel_rfl
theorem as_assignableE (w : World) : (ReflectliteType.relation "AssignableTo" ReflectliteType.assignableTo #[rty 94, rtv 94]).run Tryz.prog w = .ok (.bool true) w := by kernel_rfl
theorem as_valueOfE (c : Int) (w : World) : (ReflectliteValue.unpack (.iface 94 (.int .i64 c))).run Tryz.prog w = .ok (rvl 94 ⟨w.heap.size, 0, none⟩ 130) (w.alloc (.cells #[.int .i64 c] 94)) := by kernel_rfl
theorem as_partsAE (a : Addr) (w : World) : (ReflectliteValue.parts (rvl 94 a 386)).run Tryz.prog w = .ok (some (94, a, 386)) w := by kernel_rfl
theorem as_partsE (a : Addr) (w : World) : (ReflectliteValue.parts (rvl 94 a 130)).run Tryz.prog w = .ok (some (94, a, 130)) w := by kernel_rfl
theorem as_directE (w : World) : (Rtype.directlyAssignable 94 94).run Tryz.prog w = .ok true w := by kernel_rfl
theorem as_setE (ta b : Addr) (c : Int) (old : Value) (W : World) (hb : W.cell? b = some (.int .i64 c)) (ht : W.cell? ta = some old) (hf : W.frozen? ta = false) :
 (ReflectliteValue.set #[rvl 94 ta 386, rvl 94 b 130]).run Tryz.prog W = .ok (.tuple #[]) (W.setCell ta (.int .i64 c)) := by
 rw [as_rls]
 simp only [Sem.run_bind, as_partsAE, as_partsE, Result.andThen]
 simp [ReflectliteValue.flagAddr, loadVar, isAgg, underlying, Tryz.underlying94, hb, Result.andThen, as_directE, storeVar, Value.cells, storeCells, Addr.add]
 rw [run_store Tryz.prog W ta _ _ (by rfl)]
 simp [ht, hf]

set_option maxHeartbeats 4000000 in
theorem as_hitF (e : Addr) (t : Addr) (old : Value) (w : World) (hg : w.cell? ⟨0, 0, none⟩ = some errT) (ht0 : w.cell? t = some old) (hf0 : w.frozen? t = false) :
 Calls Tryz.prog 38 #[.iface 95 (.pointer (some e)), .iface 97 (.pointer (some t))] w fun ev w' => ev = .returned (.bool true) ∧ w' = ((asX t 97 w).alloc (.cells #[.pointer (some e)] 95)).setCell t (.pointer (some e)) := by
 have h6 := @run_callFunc_extern Tryz.prog 64 _ (fun args => ReflectliteValue.unpack (args.getD 0 (.tuple #[]))) Tryz.func64 (by kernel_rfl) (by kernel_rfl) (by kernel_rfl) (by kernel_rfl)
 have h7 := @run_callFunc_extern Tryz.prog 65 _ (ReflectliteValue.methodAny (ReflectliteValue.valueError "reflectlite.Value.Type" 0) (fun t _ _ _ => ReflectliteType.toType t)) Tryz.func65 (by kernel_rfl) (by kernel_rfl) (by kernel_rfl) (by kernel_rfl)
 have h8 := @run_callFunc_extern Tryz.prog 66 _ (ReflectliteValue.method (ReflectliteValue.valueError "reflectlite.Value.IsNil" 0) ReflectliteValue.isNil) Tryz.func66 (by kernel_rfl) (by kernel_rfl) (by kernel_rfl) (by kernel_rfl)
 have h27 := @run_callFunc_extern Tryz.prog 164 _ (ReflectliteType.abiMethod fun t => do pure (.int .u8 (← Rtype.kind t))) Tryz.func164 (by kernel_rfl) (by kernel_rfl) (by kernel_rfl) (by kernel_rfl)
 have h37 := @run_callFunc_extern Tryz.prog 176 _ (ReflectliteType.method ReflectliteType.elem) Tryz.func176 (by kernel_rfl) (by kernel_rfl) (by kernel_rfl) (by kernel_rfl)
 have h38 := @run_callFunc_extern Tryz.prog 177 _ (ReflectliteType.relation "Implements" ReflectliteType.implements_) Tryz.func177 (by kernel_rfl) (by kernel_rfl) (by kernel_rfl) (by kernel_rfl)
 have h10 := @run_callFunc_extern Tryz.prog 62 _ ReflectliteType.typeOf Tryz.func62 (by kernel_rfl) (by kernel_rfl) (by kernel_rfl) (by kernel_rfl)
 have h35 := @run_callFunc_extern Tryz.prog 174 _ (ReflectliteType.relation "AssignableTo" ReflectliteType.assignableTo) Tryz.func174 (by kernel_rfl) (by kernel_rfl) (by kernel_rfl) (by kernel_rfl)
 have h11 := @run_callFunc_extern Tryz.prog 85 _ (ReflectliteValue.method (ReflectliteValue.valueError "reflectlite.Value.Elem" 0) ReflectliteValue.elem) Tryz.func85 (by kernel_rfl) (by kernel_rfl) (by kernel_rfl) (by kernel_rfl)
 have h12 := @run_callFunc_extern Tryz.prog 86 _ ReflectliteValue.set Tryz.func86 (by kernel_rfl) (by kernel_rfl) (by kernel_rfl) (by kernel_rfl)
 have mA := as_mAssignableTo
 have mK := as_mKind
 have mE := as_mElem
 have mI := as_mImplements
 have tO := as_typeOfF
 have aS := as_assignableF
 have vO := as_valueOfF
 have f6 := as_valueOfPF
 have f7 := as_typePF
 have kP := as_kindPF
 have kE := as_kindF
 have eL := as_elemF
 have iM := as_implementsF
 have n8 := as_isNilF ⟨w.heap.size, 0, none⟩ t (asW t 97 w) (by simp)
 have hlt : 0 < w.heap.size := lt_of_cell hg
 have htl : t.block < w.heap.size := lt_of_cell ht0
 have hg2 : (asW t 97 w).cell? ⟨0, 0, none⟩ = some errT := by
  rw [World.cell?_alloc_lt _ _ ⟨0, 0, none⟩ (by simp), World.cell?_alloc_lt _ _ ⟨0, 0, none⟩ hlt]; exact hg
 have el := as_elemVF ⟨w.heap.size, 0, none⟩ t (asX t 97 w) (by rw [World.cell?_alloc_lt _ _ ⟨w.heap.size, 0, none⟩ (by simp; omega)]; simp)
 have st := as_setF t ⟨w.heap.size + 1 + 1 + 1, 0, none⟩ e old ((asX t 97 w).alloc (.cells #[.pointer (some e)] 95))
  (by rw [World.cell?_alloc_at _ _ _ _ (by simp)]; rfl)
  (by rw [World.cell?_alloc_lt _ _ t (by simp; omega), World.cell?_alloc_lt _ _ t (by simp; omega), World.cell?_alloc_lt _ _ t (by simp; omega), World.cell?_alloc_lt _ _ t htl]; exact ht0)
  (by rw [World.frozen?_alloc_old _ _ t (by simp; omega), World.frozen?_alloc_old _ _ t (by simp; omega), World.frozen?_alloc_old _ _ t (by simp; omega), World.frozen?_alloc_old _ _ t (Nat.ne_of_lt htl)]; exact hf0)
 go_enter Tryz.func38, Tryz.ntmps38
 go_wp2
 refine wp_loop_rounds 1 ?_
 rw [rounds_succ]
 go_wp2
 go_ret
 exact ⟨rfl, rfl⟩

set_option maxHeartbeats 4000000 in
theorem as_hitE (c : Int) (t : Addr) (old : Value) (w : World) (hg : w.cell? ⟨0, 0, none⟩ = some errT) (ht0 : w.cell? t = some old) (hf0 : w.frozen? t = false) :
 Calls Tryz.prog 38 #[.iface 94 (.int .i64 c), .iface 102 (.pointer (some t))] w fun ev w' => ev = .returned (.bool true) ∧ w' = ((asX t 102 w).alloc (.cells #[.int .i64 c] 94)).setCell t (.int .i64 c) := by
 have h6 := @run_callFunc_extern Tryz.prog 64 _ (fun args => ReflectliteValue.unpack (args.getD 0 (.tuple #[]))) Tryz.func64 (by kernel_rfl) (by kernel_rfl) (by kernel_rfl) (by kernel_rfl)
 have h7 := @run_callFunc_extern Tryz.prog 65 _ (ReflectliteValue.methodAny (ReflectliteValue.valueError "reflectlite.Value.Type" 0) (fun t _ _ _ => ReflectliteType.toType t)) Tryz.func65 (by kernel_rfl) (by kernel_rfl) (by kernel_rfl) (by kernel_rfl)
 have h8 := @run_callFunc_extern Tryz.prog 66 _ (ReflectliteValue.method (ReflectliteValue.valueError "reflectlite.Value.IsNil" 0) ReflectliteValue.isNil) Tryz.func66 (by kernel_rfl) (by kernel_rfl) (by kernel_rfl) (by kernel_rfl)
 have h27 := @run_callFunc_extern Tryz.prog 164 _ (ReflectliteType.abiMethod fun t => do pure (.int .u8 (← Rtype.kind t))) Tryz.func164 (by kernel_rfl) (by kernel_rfl) (by kernel_rfl) (by kernel_rfl)
 have h37 := @run_callFunc_extern Tryz.prog 176 _ (ReflectliteType.method ReflectliteType.elem) Tryz.func176 (by kernel_rfl) (by kernel_rfl) (by kernel_rfl) (by kernel_rfl)
 have h38 := @run_callFunc_extern Tryz.prog 177 _ (ReflectliteType.relation "Implements" ReflectliteType.implements_) Tryz.func177 (by kernel_rfl) (by kernel_rfl) (by kernel_rfl) (by kernel_rfl)
 have h10 := @run_callFunc_extern Tryz.prog 62 _ ReflectliteType.typeOf Tryz.func62 (by kernel_rfl) (by kernel_rfl) (by kernel_rfl) (by kernel_rfl)
 have h35 := @run_callFunc_extern Tryz.prog 174 _ (ReflectliteType.relation "AssignableTo" ReflectliteType.assignableTo) Tryz.func174 (by kernel_rfl) (by kernel_rfl) (by kernel_rfl) (by kernel_rfl)
 have h11 := @run_callFunc_extern Tryz.prog 85 _ (ReflectliteValue.method (ReflectliteValue.valueError "reflectlite.Value.Elem" 0) ReflectliteValue.elem) Tryz.func85 (by kernel_rfl) (by kernel_rfl) (by kernel_rfl) (by kernel_rfl)
 have h12 := @run_callFunc_extern Tryz.prog 86 _ ReflectliteValue.set Tryz.func86 (by kernel_rfl) (by kernel_rfl) (by kernel_rfl) (by kernel_rfl)
 have mA := as_mAssignableTo
 have mK := as_mKind
 have mE := as_mElem
 have mI := as_mImplements
 have tO := as_typeOfE
 have aS := as_assignableE
 have vO := as_valueOfE
 have f6 := as_valueOfPE
 have f7 := as_typePE
 have kP := as_kindPE
 have kE := as_kindE
 have eL := as_elemE
 have iM := as_implementsE
 have n8 := as_isNilE ⟨w.heap.size, 0, none⟩ t (asW t 102 w) (by simp)
 have hlt : 0 < w.heap.size := lt_of_cell hg
 have htl : t.block < w.heap.size := lt_of_cell ht0
 have hg2 : (asW t 102 w).cell? ⟨0, 0, none⟩ = some errT := by
  rw [World.cell?_alloc_lt _ _ ⟨0, 0, none⟩ (by simp), World.cell?_alloc_lt _ _ ⟨0, 0, none⟩ hlt]; exact hg
 have el := as_elemVE ⟨w.heap.size, 0, none⟩ t (asX t 102 w) (by rw [World.cell?_alloc_lt _ _ ⟨w.heap.size, 0, none⟩ (by simp; omega)]; simp)
 have st := as_setE t ⟨w.heap.size + 1 + 1 + 1, 0, none⟩ c old ((asX t 102 w).alloc (.cells #[.int .i64 c] 94))
  (by rw [World.cell?_alloc_at _ _ _ _ (by simp)]; rfl)
  (by rw [World.cell?_alloc_lt _ _ t (by simp; omega), World.cell?_alloc_lt _ _ t (by simp; omega), World.cell?_alloc_lt _ _ t (by simp; omega), World.cell?_alloc_lt _ _ t htl]; exact ht0)
  (by rw [World.frozen?_alloc_old _ _ t (by simp; omega), World.frozen?_alloc_old _ _ t (by simp; omega), World.frozen?_alloc_old _ _ t (by simp; omega), World.frozen?_alloc_old _ _ t (Nat.ne_of_lt htl)]; exact hf0)
 go_enter Tryz.func38, Tryz.ntmps38
 go_wp2
 refine wp_loop_rounds 1 ?_
 rw [rounds_succ]
 go_wp2
 go_ret
 exact ⟨rfl, rfl⟩

theorem as_assignableN (w : World) : (ReflectliteType.relation "AssignableTo" ReflectliteType.assignableTo #[rty 94, rtv 95]).run Tryz.prog w = .ok (.bool false) w := by kernel_rfl
set_option maxHeartbeats 4000000 in
theorem as_miss (c : Int) (t : Addr) (w : World) (hg : w.cell? ⟨0, 0, none⟩ = some errT) :
 Calls Tryz.prog 38 #[errV c, .iface 97 (.pointer (some t))] w fun ev w' => ev = .returned (.bool false) ∧ w' = asX t 97 w := by
 have h6 := @run_callFunc_extern Tryz.prog 64 _ (fun args => ReflectliteValue.unpack (args.getD 0 (.tuple #[]))) Tryz.func64 (by kernel_rfl) (by kernel_rfl) (by kernel_rfl) (by kernel_rfl)
 have h7 := @run_callFunc_extern Tryz.prog 65 _ (ReflectliteValue.methodAny (ReflectliteValue.valueError "reflectlite.Value.Type" 0) (fun t _ _ _ => ReflectliteType.toType t)) Tryz.func65 (by kernel_rfl) (by kernel_rfl) (by kernel_rfl) (by kernel_rfl)
 have h8 := @run_callFunc_extern Tryz.prog 66 _ (ReflectliteValue.method (ReflectliteValue.valueError "reflectlite.Value.IsNil" 0) ReflectliteValue.isNil) Tryz.func66 (by kernel_rfl) (by kernel_rfl) (by kernel_rfl) (by kernel_rfl)
 have h27 := @run_callFunc_extern Tryz.prog 164 _ (ReflectliteType.abiMethod fun t => do pure (.int .u8 (← Rtype.kind t))) Tryz.func164 (by kernel_rfl) (by kernel_rfl) (by kernel_rfl) (by kernel_rfl)
 have h37 := @run_callFunc_extern Tryz.prog 176 _ (ReflectliteType.method ReflectliteType.elem) Tryz.func176 (by kernel_rfl) (by kernel_rfl) (by kernel_rfl) (by kernel_rfl)
 have h38 := @run_callFunc_extern Tryz.prog 177 _ (ReflectliteType.relation "Implements" ReflectliteType.implements_) Tryz.func177 (by kernel_rfl) (by kernel_rfl) (by kernel_rfl) (by kernel_rfl)
 have h10 := @run_callFunc_extern Tryz.prog 62 _ ReflectliteType.typeOf Tryz.func62 (by kernel_rfl) (by kernel_rfl) (by kernel_rfl) (by kernel_rfl)
 have h35 := @run_callFunc_extern Tryz.prog 174 _ (ReflectliteType.relation "AssignableTo" ReflectliteType.assignableTo) Tryz.func174 (by kernel_rfl) (by kernel_rfl) (by kernel_rfl) (by kernel_rfl)
 have h11 := @run_callFunc_extern Tryz.prog 85 _ (ReflectliteValue.method (ReflectliteValue.valueError "reflectlite.Value.Elem" 0) ReflectliteValue.elem) Tryz.func85 (by kernel_rfl) (by kernel_rfl) (by kernel_rfl) (by kernel_rfl)
 have h12 := @run_callFunc_extern Tryz.prog 86 _ ReflectliteValue.set Tryz.func86 (by kernel_rfl) (by kernel_rfl) (by kernel_rfl) (by kernel_rfl)
 have mA := as_mAssignableTo
 have mK := as_mKind
 have mE := as_mElem
 have mI := as_mImplements
 have tO := as_typeOfE
 have aS := as_assignableN
 have f6 := as_valueOfPF
 have f7 := as_typePF
 have kP := as_kindPF
 have kE := as_kindF
 have eL := as_elemF
 have iM := as_implementsF
 have nA := er_noAs
 have nU := er_noUnwrap
 have nV := er_noUnwraps
 have n8 := as_isNilF ⟨w.heap.size, 0, none⟩ t (asW t 97 w) (by simp)
 have hlt : 0 < w.heap.size := lt_of_cell hg
 have hg2 : (asW t 97 w).cell? ⟨0, 0, none⟩ = some errT := by
  rw [World.cell?_alloc_lt _ _ ⟨0, 0, none⟩ (by simp), World.cell?_alloc_lt _ _ ⟨0, 0, none⟩ hlt]; exact hg
 go_enter Tryz.func38, Tryz.ntmps38
 go_wp2
 refine wp_loop_rounds 1 ?_
 rw [rounds_succ]
 go_wp2
 go_ret
 exact ⟨rfl, rfl⟩

end Go.Proofs.YtpffhoefmcpniaaGreatDoor

namespace Go.Proofs.YtpffhoefmcpniaaGreatDoor
open Go.RowKit

def RdW (w : World) (A : Option Addr) (n : Nat) (l : List (ByteArray × Int)) : Prop :=
 l.length = n ∧ ∀ i x, l[i]? = some x → ∃ b o, A = some ⟨b, o, none⟩ ∧ w.cell? ⟨b, o + i * 2, none⟩ = some (.string x.1) ∧ w.cell? ⟨b, o + i * 2 + 1, none⟩ = some (.int .i64 x.2)
theorem RdW.below {w w' : World} {A : Option Addr} {n : Nat} {l : List (ByteArray × Int)} (h : RdW w A n l) (hb : Below w.heap.size w w') : RdW w' A n l :=
 ⟨h.1, fun i x hx => by obtain ⟨b, o, e, hc, hd⟩ := h.2 i x hx; exact ⟨b, o, e, Below.cellOf hb (Nat.le_refl _) hc, Below.cellOf hb (Nat.le_refl _) hd⟩⟩

def Wrg (w : World) (v : Value) (ps : List (ByteArray × Int)) (c : Int) : Prop := ∃ A n m, v = .agg #[.slice A n m, .int .i64 c] ∧ RdW w A n ps ∧ n ≤ 1000000
theorem refAt_any (s : ByteArray) (k c : Int) (w : World) : Calls Tryz.prog 28 #[.string s, .int .i64 k, .int .i64 c] w fun e w' => ∃ v, e = .returned v ∧ Wrg w' v [(s, k)] c ∧ Below w.heap.size w w' := by
 go_enter Tryz.func28, Tryz.ntmps28
 go_wp2
 refine bodyPost_ret (v := .agg #[.slice (some ⟨w.heap.size + 1, 0, none⟩) 1 1, .int .i64 c]) (by simp [results, Tryz.results28, go_sem]) rfl ?_
 refine ⟨_, rfl, ⟨_, 1, 1, rfl, ⟨rfl, fun i x hx => ?_⟩, by omega⟩, bELt⟩
 match i, hx with
 | 0, hx => cases hx; exact ⟨_, _, rfl, by simp, by simp⟩
 | i + 1, hx => simp at hx
end Go.Proofs.YtpffhoefmcpniaaGreatDoor
