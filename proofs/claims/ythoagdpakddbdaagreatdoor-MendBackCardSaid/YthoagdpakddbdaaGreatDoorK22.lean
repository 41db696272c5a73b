/- Parts of the proof: As, Ft, Tl, MdK. -/
import Derived.Test.YthoagdpakddbdaaGreatDoorK1
import Derived.Test.YthoagdpakddbdaaGreatDoorK21
import Derived.Deep.RegionHeld3
import Derived.Deep.DrawnRows
namespace Go.Proofs.YthoagdpakddbdaaGreatDoor
open Go.RowKit Go.Extern.Stop Go.Stop Go.Extern Go.Proofs.Tryz
theorem Qqj (z:Sem Value)(f:TypeId→Addr→Nat→Nat→Sem Value)(v:Value) :
 ReflectliteValue.method z f #[v]=(do match ←ReflectliteValue.parts v with|none=>z|some (t,a,fl)=>f t a fl (fl % 32)):=rfl
theorem as_rls (v x:Value):ReflectliteValue.set #[v,x]=(do
 let (some (dst,a,fl),some (src,b,_)):=(←ReflectliteValue.parts v,←ReflectliteValue.parts x)
  | unsupported (.noEntry "extern/(internal/reflectlite.Value).Set.zeroValue")
 if fl / ReflectliteValue.flagAddr % 2 == 0 then unsupported (.noEntry "extern/(internal/reflectlite.Value).Set.unaddressable")
 let val ←loadVar src b
 if ←Rtype.directlyAssignable dst src then storeVar dst a val
 else if ←Rtype.implements dst src then
  if (←Rtype.kind src) == 20 then
   match val with
   | .nilIface => unsupported (.noEntry "extern/reflectlite: a nil value of one interface type handed on as a value of another")
   | _=>storeVar dst a val
  else storeVar dst a (.iface src val)
 else panicString ("reflectlite.Set: value of type " ++ (← Rtype.spelt src) ++ " is not assignable to type " ++ (← Rtype.spelt dst))
 pure (.tuple #[])):=rfl
theorem Qmh (h : Value) (w : World) : (Go.method 426 213 (.agg #[h]) "Kind").run Tryz.prog w = .ok (204, h) w := by kernel_rfl
theorem Qlt (h : Value) (w : World) : (Go.method 426 213 (.agg #[h]) "Elem").run Tryz.prog w = .ok (218, .agg #[h]) w := by kernel_rfl
theorem Qdx (h : Value) (w : World) : (Go.method 426 213 (.agg #[h]) "Implements").run Tryz.prog w = .ok (219, .agg #[h]) w := by kernel_rfl
theorem Qdf (h : Value) (w : World) : (Go.method 426 213 (.agg #[h]) "AssignableTo").run Tryz.prog w = .ok (216, .agg #[h]) w := by kernel_rfl
def Qmm:Value:=.iface 213 (.agg #[.pointer (some ⟨1,42,none⟩)])
abbrev rty (t:Nat):Value:=.agg #[.pointer (some ⟨1,t,none⟩)]
abbrev rtv (t:Nat):Value:=.iface 213 (rty t)
abbrev rvl (t:Nat) (a:Addr) (f:Int):Value:=.agg #[.pointer (some ⟨1,t,none⟩),.pointer (some a),.int .u64 f]
abbrev asW (t:Addr) (p:Nat) (w:World):World:=((w.alloc (.cells #[.pointer (some t)] p)).alloc (.cells #[.pointer (some ⟨1,p,none⟩),.pointer (some ⟨w.heap.size,0,none⟩),.int .u64 150] 169))
abbrev asX (t:Addr) (p:Nat) (w:World):World:=(asW t p w).alloc (.cells #[.pointer (some ⟨1,p,none⟩),.pointer (some ⟨w.heap.size,0,none⟩),.int .u64 150] 169)
/-! ### at **api.Fault -/
theorem Qib (t:Addr)(w:World):(ReflectliteValue.unpack (.iface 109 (.pointer (some t)))).run prog w=.ok (rvl 109 ⟨w.heap.size,0,none⟩ 150) (w.alloc (.cells #[.pointer (some t)] 109)):=by kernel_rfl
theorem Qnd (a : Addr) (w : World) : (ReflectliteValue.methodAny (ReflectliteValue.valueError "reflectlite.Value.Type" 0) (fun t _ _ _ => ReflectliteType.toType t) #[rvl 109 a 150]).run Tryz.prog w = .ok (rtv 109) w := by kernel_rfl
theorem Qny (w:World):((ReflectliteType.abiMethod fun t=>(fun a:Nat=>Value.int IntKind.u8 (a:Int)) <$> Rtype.kind t) #[.pointer (some ⟨1,109,none⟩)]).run prog w=.ok (.int .u8 22) w:=by kernel_rfl
theorem Qqt (w:World):((ReflectliteType.abiMethod fun t=>(fun a:Nat=>Value.int IntKind.u8 (a:Int)) <$> Rtype.kind t) #[.pointer (some ⟨1,99,none⟩)]).run prog w=.ok (.int .u8 22) w:=by kernel_rfl
theorem Qkq (a:Addr)(w:World):(ReflectliteValue.parts (rvl 109 a 150)).run prog w=.ok (some (109,a,150)) w:=by kernel_rfl
theorem Qnn (a p:Addr)(W:World) (ha:W.cell? a=some (.pointer (some p))) :
 (ReflectliteValue.method (ReflectliteValue.valueError "reflectlite.Value.IsNil" 0) ReflectliteValue.isNil #[rvl 109 a 150]).run Tryz.prog W = .ok (.bool false) W := by
 rw [Qqj];simp only [Sem.run_bind,Qkq,Result.andThen];simp [ReflectliteValue.isNil,loadVar,isAgg,underlying,underlying109,ha,Result.andThen]
theorem Qqz (w:World):(ReflectliteType.method ReflectliteType.elem #[rty 109]).run prog w=.ok (rtv 99) w:=by kernel_rfl
theorem Qgd (w : World) : (ReflectliteType.relation "Implements" ReflectliteType.implements_ #[rty 99, Qmm]).run Tryz.prog w = .ok (.bool true) w := by kernel_rfl
theorem Qst (w:World):(Rtype.elem? 109).run prog w=.ok (some 99) w:=by kernel_rfl
theorem as_mkF (p:Addr)(w:World):(ReflectliteValue.mk 99 p ReflectliteValue.flagAddr).run prog w=.ok (rvl 99 p 406) w:=by kernel_rfl
theorem Qvo (a p:Addr)(W:World) (ha:W.cell? a=some (.pointer (some p))) :
 (ReflectliteValue.method (ReflectliteValue.valueError "reflectlite.Value.Elem" 0) ReflectliteValue.elem #[rvl 109 a 150]).run Tryz.prog W = .ok (rvl 99 p 406) W := by
 rw [Qqj];simp only [Sem.run_bind,Qkq,Result.andThen];simp [ReflectliteValue.elem,loadVar,isAgg,underlying,underlying109,ha,Result.andThen,Qst,as_mkF]
theorem Qsp (v:Value)(w:World):(ReflectliteType.typeOf #[.iface 99 v]).run prog w=.ok (rtv 99) w:=by kernel_rfl
theorem Qkb (w : World) : (ReflectliteType.relation "AssignableTo" ReflectliteType.assignableTo #[rty 99, rtv 99]).run Tryz.prog w = .ok (.bool true) w := by kernel_rfl
theorem Qov (e:Addr)(w:World):(ReflectliteValue.unpack (.iface 99 (.pointer (some e)))).run prog w=.ok (rvl 99 ⟨w.heap.size,0,none⟩ 150) (w.alloc (.cells #[.pointer (some e)] 99)):=by kernel_rfl
theorem Qse (a:Addr)(w:World):(ReflectliteValue.parts (rvl 99 a 406)).run prog w=.ok (some (99,a,406)) w:=by kernel_rfl
theorem Qvl (a:Addr)(w:World):(ReflectliteValue.parts (rvl 99 a 150)).run prog w=.ok (some (99,a,150)) w:=by kernel_rfl
theorem Qta (w:World):(Rtype.directlyAssignable 99 99).run prog w=.ok true w:=by kernel_rfl
theorem as_setF (ta b:Addr)(e:Addr)(old:Value)(W:World) (hb:W.cell? b=some (.pointer (some e))) (ht:W.cell? ta=some old) (hf:W.frozen? ta=false) :
 (ReflectliteValue.set #[rvl 99 ta 406,rvl 99 b 150]).run prog W=.ok (.tuple #[]) (W.setCell ta (.pointer (some e))):=by
 rw [as_rls];simp only [Sem.run_bind,Qse,Qvl,Result.andThen];simp [ReflectliteValue.flagAddr,loadVar,isAgg,underlying,underlying99,hb,Result.andThen,Qta,storeVar,Value.cells,storeCells,Addr.add];rw [run_store prog W ta _ _ (by rfl)];simp [ht,hf]
/-! ### at *api.Errno -/
theorem Qmz (t:Addr)(w:World):(ReflectliteValue.unpack (.iface 112 (.pointer (some t)))).run prog w=.ok (rvl 112 ⟨w.heap.size,0,none⟩ 150) (w.alloc (.cells #[.pointer (some t)] 112)):=by kernel_rfl
theorem Qvp (a : Addr) (w : World) : (ReflectliteValue.methodAny (ReflectliteValue.valueError "reflectlite.Value.Type" 0) (fun t _ _ _ => ReflectliteType.toType t) #[rvl 112 a 150]).run Tryz.prog w = .ok (rtv 112) w := by kernel_rfl
theorem Qwi (w:World):((ReflectliteType.abiMethod fun t=>(fun a:Nat=>Value.int IntKind.u8 (a:Int)) <$> Rtype.kind t) #[.pointer (some ⟨1,112,none⟩)]).run prog w=.ok (.int .u8 22) w:=by kernel_rfl
theorem as_kindE (w:World):((ReflectliteType.abiMethod fun t=>(fun a:Nat=>Value.int IntKind.u8 (a:Int)) <$> Rtype.kind t) #[.pointer (some ⟨1,100,none⟩)]).run prog w=.ok (.int .u8 2) w:=by kernel_rfl
theorem Qkx (a:Addr)(w:World):(ReflectliteValue.parts (rvl 112 a 150)).run prog w=.ok (some (112,a,150)) w:=by kernel_rfl
theorem Qtx (a p:Addr)(W:World) (ha:W.cell? a=some (.pointer (some p))) :
 (ReflectliteValue.method (ReflectliteValue.valueError "reflectlite.Value.IsNil" 0) ReflectliteValue.isNil #[rvl 112 a 150]).run Tryz.prog W = .ok (.bool false) W := by
 rw [Qqj];simp only [Sem.run_bind,Qkx,Result.andThen];simp [ReflectliteValue.isNil,loadVar,isAgg,underlying,underlying112,ha,Result.andThen]
theorem as_elemE (w:World):(ReflectliteType.method ReflectliteType.elem #[rty 112]).run prog w=.ok (rtv 100) w:=by kernel_rfl
theorem Qkf (w : World) : (ReflectliteType.relation "Implements" ReflectliteType.implements_ #[rty 100, Qmm]).run Tryz.prog w = .ok (.bool true) w := by kernel_rfl
theorem Qso (w:World):(Rtype.elem? 112).run prog w=.ok (some 100) w:=by kernel_rfl
theorem as_mkE (p:Addr)(w:World):(ReflectliteValue.mk 100 p ReflectliteValue.flagAddr).run prog w=.ok (rvl 100 p 386) w:=by kernel_rfl
theorem Qtp (a p:Addr)(W:World) (ha:W.cell? a=some (.pointer (some p))) :
 (ReflectliteValue.method (ReflectliteValue.valueError "reflectlite.Value.Elem" 0) ReflectliteValue.elem #[rvl 112 a 150]).run Tryz.prog W = .ok (rvl 100 p 386) W := by
 rw [Qqj];simp only [Sem.run_bind,Qkx,Result.andThen];simp [ReflectliteValue.elem,loadVar,isAgg,underlying,underlying112,ha,Result.andThen,Qso,as_mkE]
theorem Qkm (v:Value)(w:World):(ReflectliteType.typeOf #[.iface 100 v]).run prog w=.ok (rtv 100) w:=by kernel_rfl
theorem Qki (w : World) : (ReflectliteType.relation "AssignableTo" ReflectliteType.assignableTo #[rty 100, rtv 100]).run Tryz.prog w = .ok (.bool true) w := by kernel_rfl
theorem Qou (c:Int)(w:World):(ReflectliteValue.unpack (.iface 100 (.int .i64 c))).run prog w=.ok (rvl 100 ⟨w.heap.size,0,none⟩ 130) (w.alloc (.cells #[.int .i64 c] 100)):=by kernel_rfl
theorem Qss (a:Addr)(w:World):(ReflectliteValue.parts (rvl 100 a 386)).run prog w=.ok (some (100,a,386)) w:=by kernel_rfl
theorem Qvx (a:Addr)(w:World):(ReflectliteValue.parts (rvl 100 a 130)).run prog w=.ok (some (100,a,130)) w:=by kernel_rfl
theorem Qrt (w:World):(Rtype.directlyAssignable 100 100).run prog w=.ok true w:=by kernel_rfl
theorem as_setE (ta b:Addr)(c:Int)(old:Value)(W:World) (hb:W.cell? b=some (.int .i64 c)) (ht:W.cell? ta=some old) (hf:W.frozen? ta=false) :
 (ReflectliteValue.set #[rvl 100 ta 386,rvl 100 b 130]).run prog W=.ok (.tuple #[]) (W.setCell ta (.int .i64 c)):=by
 rw [as_rls];simp only [Sem.run_bind,Qss,Qvx,Result.andThen];simp [ReflectliteValue.flagAddr,loadVar,isAgg,underlying,underlying100,hb,Result.andThen,Qrt,storeVar,Value.cells,storeCells,Addr.add];rw [run_store prog W ta _ _ (by rfl)];simp [ht,hf]
set_option maxHeartbeats 4000000 in
theorem as_hitF (e:Addr)(t:Addr)(old:Value)(w:World)(hg:w.cell? ⟨0,0,none⟩=some Qmm)(ht0:w.cell? t=some old)(hf0:w.frozen? t=false) :
 Calls prog 44 #[.iface 99 (.pointer (some e)),.iface 109 (.pointer (some t))] w fun ev w'=>ev=.returned (.bool true)∧w'=((asX t 109 w).alloc (.cells #[.pointer (some e)] 99)).setCell t (.pointer (some e)):=by
 have h6:=@run_callFunc_extern prog 82 _ (fun args=>ReflectliteValue.unpack (args.getD 0 (.tuple #[]))) func82 (by kernel_rfl) (by kernel_rfl) (by kernel_rfl) (by kernel_rfl)
 have h7 := @run_callFunc_extern Tryz.prog 83 _ (ReflectliteValue.methodAny (ReflectliteValue.valueError "reflectlite.Value.Type" 0) (fun t _ _ _ => ReflectliteType.toType t)) Tryz.func83 (by kernel_rfl) (by kernel_rfl) (by kernel_rfl) (by kernel_rfl)
 have h8 := @run_callFunc_extern Tryz.prog 84 _ (ReflectliteValue.method (ReflectliteValue.valueError "reflectlite.Value.IsNil" 0) ReflectliteValue.isNil) Tryz.func84 (by kernel_rfl) (by kernel_rfl) (by kernel_rfl) (by kernel_rfl)
 have h27:=@run_callFunc_extern prog 204 _ (ReflectliteType.abiMethod fun t=>do pure (.int .u8 (←Rtype.kind t))) func204 (by kernel_rfl) (by kernel_rfl) (by kernel_rfl) (by kernel_rfl);have h37:=@run_callFunc_extern prog 218 _ (ReflectliteType.method ReflectliteType.elem) func218 (by kernel_rfl) (by kernel_rfl) (by kernel_rfl) (by kernel_rfl)
 have h38 := @run_callFunc_extern Tryz.prog 219 _ (ReflectliteType.relation "Implements" ReflectliteType.implements_) Tryz.func219 (by kernel_rfl) (by kernel_rfl) (by kernel_rfl) (by kernel_rfl)
 have h10:=@run_callFunc_extern prog 80 _ ReflectliteType.typeOf func80 (by kernel_rfl) (by kernel_rfl) (by kernel_rfl) (by kernel_rfl)
 have h35 := @run_callFunc_extern Tryz.prog 216 _ (ReflectliteType.relation "AssignableTo" ReflectliteType.assignableTo) Tryz.func216 (by kernel_rfl) (by kernel_rfl) (by kernel_rfl) (by kernel_rfl)
 have h11 := @run_callFunc_extern Tryz.prog 117 _ (ReflectliteValue.method (ReflectliteValue.valueError "reflectlite.Value.Elem" 0) ReflectliteValue.elem) Tryz.func117 (by kernel_rfl) (by kernel_rfl) (by kernel_rfl) (by kernel_rfl)
 have h12:=@run_callFunc_extern prog 118 _ ReflectliteValue.set func118 (by kernel_rfl) (by kernel_rfl) (by kernel_rfl) (by kernel_rfl);have mA:=Qdf;have mK:=Qmh;have mE:=Qlt;have mI:=Qdx;have tO:=Qsp;have aS:=Qkb;have vO:=Qov;have f6:=Qib;have f7:=Qnd;have kP:=Qny;have kE:=Qqt;have eL:=Qqz;have iM:=Qgd;have n8:=Qnn ⟨w.heap.size,0,none⟩ t (asW t 109 w) (by simp);have hlt:0<w.heap.size:=Qag hg
 have htl:t.block<w.heap.size:=Qag ht0
 have hg2:(asW t 109 w).cell? ⟨0,0,none⟩=some Qmm:=by
  rw [World.cell?_alloc_lt _ _ ⟨0,0,none⟩ (by simp),World.cell?_alloc_lt _ _ ⟨0,0,none⟩ hlt];exact hg
 have el:=Qvo ⟨w.heap.size,0,none⟩ t (asX t 109 w) (by rw [World.cell?_alloc_lt _ _ ⟨w.heap.size,0,none⟩ (by simp;omega)];simp)
 have st:=as_setF t ⟨w.heap.size+1+1+1,0,none⟩ e old ((asX t 109 w).alloc (.cells #[.pointer (some e)] 99))
  (by rw [World.cell?_alloc_at _ _ _ _ (by simp)];rfl)
  (by rw [World.cell?_alloc_lt _ _ t (by simp;omega),World.cell?_alloc_lt _ _ t (by simp;omega),World.cell?_alloc_lt _ _ t (by simp;omega),World.cell?_alloc_lt _ _ t htl];exact ht0)
  (by rw [World.frozen?_alloc_old _ _ t (by simp;omega),World.frozen?_alloc_old _ _ t (by simp;omega),World.frozen?_alloc_old _ _ t (by simp;omega),World.frozen?_alloc_old _ _ t (Nat.ne_of_lt htl)];exact hf0)
 go_enter func44,ntmps44
 go_wp2
 refine wp_loop_rounds 1 ?_;rw [rounds_succ]
 go_wp2
 go_ret
 exact ⟨rfl,rfl⟩
set_option maxHeartbeats 4000000 in
theorem as_hitE (c:Int)(t:Addr)(old:Value)(w:World)(hg:w.cell? ⟨0,0,none⟩=some Qmm)(ht0:w.cell? t=some old)(hf0:w.frozen? t=false) :
 Calls prog 44 #[.iface 100 (.int .i64 c),.iface 112 (.pointer (some t))] w fun ev w'=>ev=.returned (.bool true)∧w'=((asX t 112 w).alloc (.cells #[.int .i64 c] 100)).setCell t (.int .i64 c):=by
 have h6:=@run_callFunc_extern prog 82 _ (fun args=>ReflectliteValue.unpack (args.getD 0 (.tuple #[]))) func82 (by kernel_rfl) (by kernel_rfl) (by kernel_rfl) (by kernel_rfl)
 have h7 := @run_callFunc_extern Tryz.prog 83 _ (ReflectliteValue.methodAny (ReflectliteValue.valueError "reflectlite.Value.Type" 0) (fun t _ _ _ => ReflectliteType.toType t)) Tryz.func83 (by kernel_rfl) (by kernel_rfl) (by kernel_rfl) (by kernel_rfl)
 have h8 := @run_callFunc_extern Tryz.prog 84 _ (ReflectliteValue.method (ReflectliteValue.valueError "reflectlite.Value.IsNil" 0) ReflectliteValue.isNil) Tryz.func84 (by kernel_rfl) (by kernel_rfl) (by kernel_rfl) (by kernel_rfl)
 have h27:=@run_callFunc_extern prog 204 _ (ReflectliteType.abiMethod fun t=>do pure (.int .u8 (←Rtype.kind t))) func204 (by kernel_rfl) (by kernel_rfl) (by kernel_rfl) (by kernel_rfl);have h37:=@run_callFunc_extern prog 218 _ (ReflectliteType.method ReflectliteType.elem) func218 (by kernel_rfl) (by kernel_rfl) (by kernel_rfl) (by kernel_rfl)
 have h38 := @run_callFunc_extern Tryz.prog 219 _ (ReflectliteType.relation "Implements" ReflectliteType.implements_) Tryz.func219 (by kernel_rfl) (by kernel_rfl) (by kernel_rfl) (by kernel_rfl)
 have h10:=@run_callFunc_extern prog 80 _ ReflectliteType.typeOf func80 (by kernel_rfl) (by kernel_rfl) (by kernel_rfl) (by kernel_rfl)
 have h35 := @run_callFunc_extern Tryz.prog 216 _ (ReflectliteType.relation "AssignableTo" ReflectliteType.assignableTo) Tryz.func216 (by kernel_rfl) (by kernel_rfl) (by kernel_rfl) (by kernel_rfl)
 have h11 := @run_callFunc_extern Tryz.prog 117 _ (ReflectliteValue.method (ReflectliteValue.valueError "reflectlite.Value.Elem" 0) ReflectliteValue.elem) Tryz.func117 (by kernel_rfl) (by kernel_rfl) (by kernel_rfl) (by kernel_rfl)
 have h12:=@run_callFunc_extern prog 118 _ ReflectliteValue.set func118 (by kernel_rfl) (by kernel_rfl) (by kernel_rfl) (by kernel_rfl);have mA:=Qdf;have mK:=Qmh;have mE:=Qlt;have mI:=Qdx;have tO:=Qkm;have aS:=Qki;have vO:=Qou;have f6:=Qmz;have f7:=Qvp;have kP:=Qwi;have kE:=as_kindE;have eL:=as_elemE;have iM:=Qkf;have n8:=Qtx ⟨w.heap.size,0,none⟩ t (asW t 112 w) (by simp);have hlt:0<w.heap.size:=Qag hg
 have htl:t.block<w.heap.size:=Qag ht0
 have hg2:(asW t 112 w).cell? ⟨0,0,none⟩=some Qmm:=by
  rw [World.cell?_alloc_lt _ _ ⟨0,0,none⟩ (by simp),World.cell?_alloc_lt _ _ ⟨0,0,none⟩ hlt];exact hg
 have el:=Qtp ⟨w.heap.size,0,none⟩ t (asX t 112 w) (by rw [World.cell?_alloc_lt _ _ ⟨w.heap.size,0,none⟩ (by simp;omega)];simp)
 have st:=as_setE t ⟨w.heap.size+1+1+1,0,none⟩ c old ((asX t 112 w).alloc (.cells #[.int .i64 c] 100))
  (by rw [World.cell?_alloc_at _ _ _ _ (by simp)];rfl)
  (by rw [World.cell?_alloc_lt _ _ t (by simp;omega),World.cell?_alloc_lt _ _ t (by simp;omega),World.cell?_alloc_lt _ _ t (by simp;omega),World.cell?_alloc_lt _ _ t htl];exact ht0)
  (by rw [World.frozen?_alloc_old _ _ t (by simp;omega),World.frozen?_alloc_old _ _ t (by simp;omega),World.frozen?_alloc_old _ _ t (by simp;omega),World.frozen?_alloc_old _ _ t (Nat.ne_of_lt htl)];exact hf0)
 go_enter func44,ntmps44
 go_wp2
 refine wp_loop_rounds 1 ?_;rw [rounds_succ]
 go_wp2
 go_ret
 exact ⟨rfl,rfl⟩
theorem Qka (w : World) : (ReflectliteType.relation "AssignableTo" ReflectliteType.assignableTo #[rty 100, rtv 99]).run Tryz.prog w = .ok (.bool false) w := by kernel_rfl
set_option maxHeartbeats 4000000 in
theorem as_miss (c:Int)(t:Addr)(w:World)(hg:w.cell? ⟨0,0,none⟩=some Qmm) :
 Calls prog 44 #[Qqa c,.iface 109 (.pointer (some t))] w fun ev w'=>ev=.returned (.bool false)∧w'=asX t 109 w:=by
 have h6:=@run_callFunc_extern prog 82 _ (fun args=>ReflectliteValue.unpack (args.getD 0 (.tuple #[]))) func82 (by kernel_rfl) (by kernel_rfl) (by kernel_rfl) (by kernel_rfl)
 have h7 := @run_callFunc_extern Tryz.prog 83 _ (ReflectliteValue.methodAny (ReflectliteValue.valueError "reflectlite.Value.Type" 0) (fun t _ _ _ => ReflectliteType.toType t)) Tryz.func83 (by kernel_rfl) (by kernel_rfl) (by kernel_rfl) (by kernel_rfl)
 have h8 := @run_callFunc_extern Tryz.prog 84 _ (ReflectliteValue.method (ReflectliteValue.valueError "reflectlite.Value.IsNil" 0) ReflectliteValue.isNil) Tryz.func84 (by kernel_rfl) (by kernel_rfl) (by kernel_rfl) (by kernel_rfl)
 have h27:=@run_callFunc_extern prog 204 _ (ReflectliteType.abiMethod fun t=>do pure (.int .u8 (←Rtype.kind t))) func204 (by kernel_rfl) (by kernel_rfl) (by kernel_rfl) (by kernel_rfl);have h37:=@run_callFunc_extern prog 218 _ (ReflectliteType.method ReflectliteType.elem) func218 (by kernel_rfl) (by kernel_rfl) (by kernel_rfl) (by kernel_rfl)
 have h38 := @run_callFunc_extern Tryz.prog 219 _ (ReflectliteType.relation "Implements" ReflectliteType.implements_) Tryz.func219 (by kernel_rfl) (by kernel_rfl) (by kernel_rfl) (by kernel_rfl)
 have h10:=@run_callFunc_extern prog 80 _ ReflectliteType.typeOf func80 (by kernel_rfl) (by kernel_rfl) (by kernel_rfl) (by kernel_rfl)
 have h35 := @run_callFunc_extern Tryz.prog 216 _ (ReflectliteType.relation "AssignableTo" ReflectliteType.assignableTo) Tryz.func216 (by kernel_rfl) (by kernel_rfl) (by kernel_rfl) (by kernel_rfl)
 have h11 := @run_callFunc_extern Tryz.prog 117 _ (ReflectliteValue.method (ReflectliteValue.valueError "reflectlite.Value.Elem" 0) ReflectliteValue.elem) Tryz.func117 (by kernel_rfl) (by kernel_rfl) (by kernel_rfl) (by kernel_rfl)
 have h12:=@run_callFunc_extern prog 118 _ ReflectliteValue.set func118 (by kernel_rfl) (by kernel_rfl) (by kernel_rfl) (by kernel_rfl);have mA:=Qdf;have mK:=Qmh;have mE:=Qlt;have mI:=Qdx;have tO:=Qkm;have aS:=Qka;have f6:=Qib;have f7:=Qnd;have kP:=Qny;have kE:=Qqt;have eL:=Qqz;have iM:=Qgd;have nA:=er_noAs;have nU:=Qpz;have nV:=Qmq;have n8:=Qnn ⟨w.heap.size,0,none⟩ t (asW t 109 w) (by simp);have hlt:0<w.heap.size:=Qag hg
 have hg2:(asW t 109 w).cell? ⟨0,0,none⟩=some Qmm:=by
  rw [World.cell?_alloc_lt _ _ ⟨0,0,none⟩ (by simp),World.cell?_alloc_lt _ _ ⟨0,0,none⟩ hlt];exact hg
 go_enter func44,ntmps44
 go_wp2
 refine wp_loop_rounds 1 ?_;rw [rounds_succ]
 go_wp2
 go_ret
 exact ⟨rfl,rfl⟩
end Go.Proofs.YthoagdpakddbdaaGreatDoor
namespace Go.Proofs.YthoagdpakddbdaaGreatDoor
open Go.RowKit Go.Proofs.Tryz
def RdW (w:World)(A:Option Addr)(n:Nat) (l:List (ByteArray×Int)):Prop :=
 l.length=n∧∀ i x,l[i]?=some x→∃ b o,A=some ⟨b,o,none⟩∧w.cell? ⟨b,o+i*2,none⟩=some (.string x.1)∧w.cell? ⟨b,o+i*2+1,none⟩=some (.int .i64 x.2)
theorem RdW.below {w w':World}{A:Option Addr}{n:Nat} {l:List (ByteArray×Int)} (h:RdW w A n l) (hb:Below w.heap.size w w'):RdW w' A n l :=
 ⟨h.1,fun i x hx=>by obtain ⟨b,o,e,hc,hd⟩:=h.2 i x hx;exact ⟨b,o,e,Zc hb (Zn _) hc,Zc hb (Zn _) hd⟩⟩
def Wrg (w:World)(v:Value) (ps:List (ByteArray×Int)) (c:Int):Prop:=∃ A n m,v=.agg #[.slice A n m,.int .i64 c]∧RdW w A n ps∧n≤1000000
theorem Quv (s:ByteArray)(k c:Int)(w:World):Calls prog 14 #[.string s,.int .i64 k,.int .i64 c] w fun e w'=>∃ v,e=.returned v∧Wrg w' v [(s,k)] c∧Below w.heap.size w w':=by
 go_enter func14,ntmps14
 go_wp2
 refine bodyPost_ret (v:=.agg #[.slice (some ⟨w.heap.size+1,0,none⟩) 1 1,.int .i64 c]) (by simp [results,results14,go_sem]) rfl ?_;refine ⟨_,rfl,⟨_,1,1,rfl,⟨rfl,fun i x hx=>?_⟩,by omega⟩,Qae⟩
 match i,hx with
 | 0,hx=>cases hx;exact ⟨_,_,rfl,by simp,by simp⟩
 | i+1,hx=>simp at hx
end Go.Proofs.YthoagdpakddbdaaGreatDoor
namespace Go.Proofs.YthoagdpakddbdaaGreatDoor
open Go.RowKit Go.Extern.Stop Go.Stop Go.Extern Go.Proofs.Tryz
theorem Qdq (t:Addr)(p:Nat)(w:World):Below w.heap.size w (asX t p w):=Qae
theorem as_fault (b o g:Nat)(old:Value)(w:World)(hg:w.cell? ⟨0,0,none⟩=some Qmm)(ht0:w.cell? ⟨g,0,none⟩=some old)(hf0:w.frozen? ⟨g,0,none⟩=false) :
 Calls prog 44 #[fltV b o,.iface 109 (.pointer (some ⟨g,0,none⟩))] w fun ev w'=>ev=.returned (.bool true)∧w'.cell? ⟨g,0,none⟩=some (.pointer (some ⟨b,o,none⟩))∧Below g w w' :=
 (as_hitF ⟨b,o,none⟩ ⟨g,0,none⟩ old w hg ht0 hf0).mono fun e w' ⟨he,hw⟩=>by
  have hlt:=Qag ht0;have hb:Below g w (asX ⟨g,0,none⟩ 109 w):=(Qdq _ _ w).mono (Nat.le_of_lt hlt);have hb2:Below g w ((asX ⟨g,0,none⟩ 109 w).alloc (.cells #[.pointer (some ⟨b,o,none⟩)] 99)):=hb.alloc (Nat.le_trans (Nat.le_of_lt hlt) (Qdq _ _ w).size) _;refine ⟨he,?_,?_⟩
  · rw [hw]
    have hc:((asX ⟨g,0,none⟩ 109 w).alloc (.cells #[.pointer (some ⟨b,o,none⟩)] 99)).cell? ⟨g,0,none⟩=some old :=
     Zc (Bel.alloc (Qdq ⟨g,0,none⟩ 109 w)) (Zn _) ht0
    exact World.cell?_setCell_same _ _ _ hc
  · rw [hw];exact hb2.setCell (Zn _) _
theorem as_errno (c:Int)(g:Nat)(old:Value)(w:World)(hg:w.cell? ⟨0,0,none⟩=some Qmm)(ht0:w.cell? ⟨g,0,none⟩=some old)(hf0:w.frozen? ⟨g,0,none⟩=false) :
 Calls prog 44 #[Qqa c,.iface 112 (.pointer (some ⟨g,0,none⟩))] w fun ev w'=>ev=.returned (.bool true)∧w'.cell? ⟨g,0,none⟩=some (.int .i64 c)∧Below g w w' :=
 (as_hitE c ⟨g,0,none⟩ old w hg ht0 hf0).mono fun e w' ⟨he,hw⟩=>by
  have hlt:=Qag ht0;have hb:Below g w (asX ⟨g,0,none⟩ 112 w):=(Qdq _ _ w).mono (Nat.le_of_lt hlt);have hb2:Below g w ((asX ⟨g,0,none⟩ 112 w).alloc (.cells #[.int .i64 c] 100)):=hb.alloc (Nat.le_trans (Nat.le_of_lt hlt) (Qdq _ _ w).size) _;refine ⟨he,?_,?_⟩
  · rw [hw]
    have hc:((asX ⟨g,0,none⟩ 112 w).alloc (.cells #[.int .i64 c] 100)).cell? ⟨g,0,none⟩=some old :=
     Zc (Bel.alloc (Qdq ⟨g,0,none⟩ 112 w)) (Zn _) ht0
    exact World.cell?_setCell_same _ _ _ hc
  · rw [hw];exact hb2.setCell (Zn _) _
theorem as_none (c:Int)(g:Nat)(w:World)(hg:w.cell? ⟨0,0,none⟩=some Qmm) :
 Calls prog 44 #[Qqa c,.iface 109 (.pointer (some ⟨g,0,none⟩))] w fun ev w'=>ev=.returned (.bool false)∧Below w.heap.size w w' :=
 (as_miss c ⟨g,0,none⟩ w hg).mono fun e w' ⟨he,hw⟩=>⟨he,by rw [hw];exact Qdq _ _ w⟩
theorem Qsy {w:World}{v:Value} {ps:List (ByteArray×Int)} {c:Int} {k:Nat} {p:ByteArray×Int} (hk:ps[k]?=some p) (h:Qcm w v (ps.drop k) c) :
 ∃ b o u,v=fltV b o∧w.cell? ⟨b,o,none⟩=some (.string p.1)∧w.cell? ⟨b,o+1,none⟩=some (.int .i64 p.2)∧w.cell? ⟨b,o+2,none⟩=some u∧Qcm w u (ps.drop (k+1)) c:=by
 have hlt:=(Zs hk).1;rw [List.drop_eq_getElem_cons hlt] at h;have e:ps[k]=p:=(Zs hk).2;rw [e] at h;exact h
attribute [local go_sem ↓] Go.wp_at_zero Go.wp_at_succ
set_option maxHeartbeats 4000000 in
theorem Qwy (v:Value)(A:Option Addr)(n c:Nat) (ps:List (ByteArray×Int)) (c0:Int) (w:World) (h:Qcm w v ps c0) (hr:RdW w A n ps) (hc0:c0≠0) (hg:w.cell? ⟨0,0,none⟩=some Qmm) (hn:n≤4000000000000000000) :
 Calls prog 13 #[v,.agg #[.slice A n c,.int .i64 c0]] w fun e w'=>e=.returned (.bool true)∧Below w.heap.size w w':=by
 have HI:∀ (W:World),Below w.heap.size w W→Calls prog 43 #[v,Qqa c0] W fun e w'=>e=.returned (.bool true)∧w'=W:=fun W hb=>errorsIs v ps c0 W (Qcm.below hb h)
 have HI':=Zh HI;clear HI;obtain ⟨tvv,xv,hv⟩:=Qco h;have hlt0:=Qag hg;have HC:=Zh hc0;have HCH:=Zh h;subst hv;clear h
 go_enter func13,ntmps13
 go_wp2_with fail
 with_reducible refine (HI'.out _ Qae).mono ?_
 rintro e w' ⟨rfl,rfl⟩;clear HI'
 go_wp2_with fail
 (refine Qah ?_;intro w1 hw1)
 have hb1:Below w.heap.size w w1:=by rw [hw1];exact Qae
 have hx0:w1.cell? ⟨w.heap.size,0,none⟩=some (.slice A n c):=by rw [hw1];simp
 have hx1:w1.cell? ⟨w.heap.size,1,none⟩=some (.int .i64 c0):=by rw [hw1];simp
 have hg1:w1.cell? ⟨0,0,none⟩=some Qmm:=Zc hb1 (Zn _) hg;have hr1:=hr.below hb1;have hch:=Qcm.below hb1 HCH.out;have HCH1:=Zh hch;clear hch HCH hr hw1 hg
 go_loopw [0,5] (fun u i W=>∃ (k:Nat),k≤n∧i=.int .i64 k∧Qcm W u (ps.drop k) c0∧Below w1.heap.size w1 W) (fun _ i _=>n-(intOf i).toNat)
 case atStart=>exact ⟨0,Nat.zero_le _,rfl,HCH1.out,Zr _ _⟩
 case round =>
  obtain ⟨k,hk,rfl,hch,hbl⟩:=hrel;have y0:=Zc hbl (Zn _) hx0
  by_cases hlt:k<n
  · have hlen:=hr1.1
    obtain ⟨p,hp⟩:∃ p,ps[k]?=some p:=⟨ps[k],Zg (by omega)⟩;obtain ⟨pb,po,rfl,hp1,hp2⟩:=hr1.2 k p hp;obtain ⟨b,o,u,rfl,hc1,hc2,hc3,hc4⟩:=Qsy hp hch;obtain ⟨tu,xu,hu⟩:=Qco hc4;have HP:=Zh hp;have H4:=Zh hc4;have z:=hbl.size;clear hp hch hlen hc4;subst hu;obtain ⟨s,q0⟩:=p
    go_wp2_with fail
    (refine Qah ?_;intro W5 hW5)
    have hb5:Below w1.heap.size w1 W5:=by rw [hW5];exact Qae
    have hbr:Below wr.heap.size wr W5:=by rw [hW5];exact Qae
    have ht5:W5.cell? ⟨wr.heap.size,0,none⟩=some (.pointer none):=by rw [hW5];simp
    have hf5:W5.frozen? ⟨wr.heap.size,0,none⟩=false:=by rw [hW5];simp
    have hg5:=Zc hb5 (Zn _) hg1;have hz5:=Qag ht5
    have HA:∀ V,Below W5.heap.size W5 V→Calls prog 44 #[fltV b o,.iface 109 (.pointer (some ⟨wr.heap.size,0,none⟩))] V fun ev w'=>ev=.returned (.bool true)∧w'.cell? ⟨wr.heap.size,0,none⟩=some (.pointer (some ⟨b,o,none⟩))∧Below wr.heap.size W5 w':=fun V hV =>
     (as_fault b o wr.heap.size _ V (Zc hV (Zn _) hg5) (Zc hV (Zn _) ht5) ((Below.frozenOf hV hz5).trans hf5)).mono fun _ _ ⟨h1,h2,h3⟩=>⟨h1,h2,(hV.mono (Nat.le_of_lt hz5)).trans h3⟩
    have HA':=Zh HA;clear HA;clear hW5 hf5 hg5;refine wp_region_held_drew (S:=fun _=>True) (by kernel_rfl) trivial (fun _=>?_);refine tz 0 31 ?_;refine tz 1 32 ?_;refine Zk 2 (fun K hK=>?_);go_simp
    go_at_call 44
    with_reducible refine (HA'.out _ Qae).mono ?_
    rintro e w6 ⟨rfl,ht6,hb6⟩;have hb7:Below wr.heap.size wr w6:=hbr.trans hb6;have c6:=Zc hb7 (Zn _) hc1;have d6:=Zc hb7 (Zn _) hc2;have e6:=Zc hb7 (Zn _) hc3;have y6:=Zc hb7 (Zn _) y0;have p6:=Zc hb7 (Zn _) (Zc hbl (Zn _) hp1);have q6:=Zc hb7 (Zn _) (Zc hbl (Zn _) hp2)
    go_wp2_with fail
    refine hK.out _ _ trivial (fun _=>?_);clear hK K;refine Qiw (S':=fun V=>V=w6) (fun _ _=>trivial) _ _ _ _ ?_;have i1:(0:Int)≤(k:Int):=by omega
    have i2:(k:Int)<(n:Int):=by omega
    clear hc1 hc2 hc3 y0 hp1 hp2 HA' hx1 hb5 hbr ht5 hz5;refine tz 3 34 ?_;refine tz 4 35 ?_;refine tz 5 36 ?_;refine tz 6 37 ?_;refine tz 7 38 ?_;refine tz 8 39 ?_;refine tz 9 40 ?_;refine tz 10 41 ?_;refine tz 11 42 ?_;refine tz 12 43 ?_;refine tz 13 44 ?_;refine tz 14 45 ?_;refine tz 15 46 ?_;refine tz 16 47 ?_;refine tz 17 48 ?_;refine tz 18 49 ?_;refine tz 19 50 ?_;refine tz 20 51 ?_;refine tz 21 52 ?_;refine tz 22 53 ?_;refine tz 23 54 ?_;refine tz 24 55 ?_;refine tz 25 56 ?_;refine tz 26 57 ?_;refine tz 27 58 ?_;refine tz 28 59 ?_;refine tz 29 60 ?_;refine tz 30 61 ?_;refine tz 31 62 ?_;refine tz 32 63 ?_;refine tz 33 64 ?_;refine Zd ?_
    go_wp2_with fail
    exact ⟨⟨k+1,by omega,by go_num,Qcm.below hb7 H4.out,Zb hbl hb7⟩,by simp [intOf];omega⟩
  · obtain rfl:k=n:=by omega
    rw [List.drop_of_length_le (by have:=hr1.1;omega)] at hch;unfold Qcm at hch;subst hch;have x1:=Zc hbl (Zn _) hx1;have gr:=Zc hbl (Zn _) hg1;have z:=hbl.size;clear hx0 hr1 hx1
    go_wp2_with fail
    (refine Qac ?_;intro W5 hW5)
    have hbr:Below wr.heap.size wr W5:=by rw [hW5];exact Qae
    have ht5:W5.cell? ⟨wr.heap.size+1,0,none⟩=some (.int .i64 0):=by rw [hW5];simp
    have hf5:W5.frozen? ⟨wr.heap.size+1,0,none⟩=false:=by rw [hW5];simp
    have g5:=Zc hbr (Zn _) gr;have z5:=Qag ht5;clear hW5;with_reducible refine (as_none c0 wr.heap.size _ g5).mono ?_
    rintro e w6 ⟨rfl,hb6⟩;have hb56:=hbr.trans (hb6.mono hbr.size)
    go_wp2_with fail
    with_reducible refine (as_errno c0 (wr.heap.size+1) _ _ (Zc hb6 (Zn _) g5) (Zc hb6 (Zn _) ht5) ((Below.frozenOf hb6 z5).trans hf5)).mono ?_
    rintro e w7 ⟨rfl,ht7,hb7⟩;have hb8:Below wr.heap.size wr w7:=hb56.trans (hb7.mono (Nat.le_succ _));have x7:=Zc hb8 (Zn _) x1;clear hb6 hb7 hb56 ht5 hf5
    go_wp2_with fail
    go_ret
    exact ⟨rfl,Qae⟩
end Go.Proofs.YthoagdpakddbdaaGreatDoor
namespace Go.Proofs.YthoagdpakddbdaaGreatDoor
open Go.RowKit Go.Extern.Stop Go.Stop Go.Extern Go.Proofs.Tryz
structure Ck (N:Qaj) (l:List Chn) (ps:List (ByteArray×Int)) (c0:Int):Prop where
 long:256<l.length→ps=[((⟨#[98,97,116,99,104]⟩:ByteArray),0)]∧c0=4
 short:l.length≤256→∃ i e,Vd N l i e∧c0=e∧(e≠0→ps=[((⟨#[99,104,97,110,103,101]⟩:ByteArray),(i:Int))])
theorem ck_ex (N:Qaj)(l:List Chn):∃ ps c0,Ck N l ps c0:=by
 by_cases h:l.length≤256
 · obtain ⟨i,e,hv⟩:=vd_ex N l
   exact ⟨_,e,fun h'=>by omega,fun _=>⟨i,e,hv,rfl,fun _=>rfl⟩⟩
 · exact ⟨_,_,fun _=>⟨rfl,rfl⟩,fun h'=>absurd h' h⟩
theorem Ck.ok {N:Qaj}{l:List Chn} {ps:List (ByteArray×Int)} (h:Ck N l ps 0):l.length≤256∧Qbj N l:=by
 rcases Nat.lt_or_ge 256 l.length with hl|hl
 · have:=(h.long hl).2
   omega
 · obtain ⟨i,e,hv,he,_⟩:=h.short hl
   subst he;exact ⟨hl,hv.ok⟩
theorem Qbj.ck {N:Qaj}{l:List Chn}(h:Qbj N l)(hl:l.length≤256):Ck N l [] 0:=⟨fun h'=>by omega,fun _=>⟨_,0,h.vd,rfl,fun h=>absurd rfl h⟩⟩
def ErrV (w:World)(v:Value) (ps:List (ByteArray×Int)) (c0:Int):Prop:=(c0=0∧v=.nilIface)∨(c0≠0∧Qcm w v ps c0)
end Go.Proofs.YthoagdpakddbdaaGreatDoor
