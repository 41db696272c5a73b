/- Parts of the proof: As, Tl, TaF. -/
import Derived.Test.YteaoiabikjnkeaaGreatDoorR1
import Derived.Test.YteaoiabikjnkeaaGreatDoorR30
import Derived.Test.YteaoiabikjnkeaaGreatDoorR31
import Derived.Test.YteaoiabikjnkeaaGreatDoorR34
import Derived.Test.YteaoiabikjnkeaaGreatDoorR37
import Derived.Test.YteaoiabikjnkeaaGreatDoorR39
import Derived.Deep.RegionHeld3
import Derived.Deep.DrawnRows
namespace Go.Proofs.YteaoiabikjnkeaaGreatDoor
open Go.RowKit Go.Extern.Stop Go.Stop Go.Extern Go.Proofs.Tryz
theorem Qsq (z:Sem Value)(f:TypeId→Addr→Nat→Nat→Sem Value)(v:Value) :
 ReflectliteValue.method z f #[v]=(do match ←ReflectliteValue.parts v with|none=>z|some (t,a,fl)=>f t a fl (fl % 32)):=rfl
theorem as_rls (v x:Value):ReflectliteValue.set #[v,x]=(do
 let (some (dst,a,fl),some (src,b,_)):=(←ReflectliteValue.parts v,←ReflectliteValue.parts x)
  | unsupported (.noEntry "extern/(internal/reflectlite.Value).Set.zeroValue")
 if fl / ReflectliteValue.flagAddr % 2 == 0 then unsupported (.noEntry "extern/(internal/reflectlite.Value).Set.unaddressable")
 let val ←loadVar src b
 if ←Rtype.directlyAssignable dst src then storeVar dst a val
 else if ←Rtype.implements dst src then
  if (←Rtype.kind src) == 20 then
   match val with
   | .nilIface => unsupported (.noEntry "extern/reflectlite: a nil value of one interface type handed on as a value of another")
   | _=>storeVar dst a val
  else storeVar dst a (.iface src val)
 else panicString ("reflectlite.Set: value of type " ++ (← Rtype.spelt src) ++ " is not assignable to type " ++ (← Rtype.spelt dst))
 pure (.tuple #[])):=rfl
theorem Qmq (h : Value) (w : World) : (Go.method 497 300 (.agg #[h]) "Kind").run Tryz.prog w = .ok (257, h) w := by kernel_rfl
theorem Qmi (h : Value) (w : World) : (Go.method 497 300 (.agg #[h]) "Elem").run Tryz.prog w = .ok (269, .agg #[h]) w := by kernel_rfl
theorem Qeg (h : Value) (w : World) : (Go.method 497 300 (.agg #[h]) "Implements").run Tryz.prog w = .ok (270, .agg #[h]) w := by kernel_rfl
theorem Qdm (h : Value) (w : World) : (Go.method 497 300 (.agg #[h]) "AssignableTo").run Tryz.prog w = .ok (267, .agg #[h]) w := by kernel_rfl
def Qne:Value:=.iface 300 (.agg #[.pointer (some ⟨1,43,none⟩)])
abbrev rty (t:Nat):Value:=.agg #[.pointer (some ⟨1,t,none⟩)]
abbrev rtv (t:Nat):Value:=.iface 300 (rty t)
abbrev rvl (t:Nat) (a:Addr) (f:Int):Value:=.agg #[.pointer (some ⟨1,t,none⟩),.pointer (some a),.int .u64 f]
abbrev asW (t:Addr) (p:Nat) (w:World):World:=((w.alloc (.cells #[.pointer (some t)] p)).alloc (.cells #[.pointer (some ⟨1,p,none⟩),.pointer (some ⟨w.heap.size,0,none⟩),.int .u64 150] 236))
abbrev asX (t:Addr) (p:Nat) (w:World):World:=(asW t p w).alloc (.cells #[.pointer (some ⟨1,p,none⟩),.pointer (some ⟨w.heap.size,0,none⟩),.int .u64 150] 236)
/-! ### at **api.Fault -/
theorem Qit (t:Addr)(w:World):(ReflectliteValue.unpack (.iface 145 (.pointer (some t)))).run prog w=.ok (rvl 145 ⟨w.heap.size,0,none⟩ 150) (w.alloc (.cells #[.pointer (some t)] 145)):=by kernel_rfl
theorem Qoq (a : Addr) (w : World) : (ReflectliteValue.methodAny (ReflectliteValue.valueError "reflectlite.Value.Type" 0) (fun t _ _ _ => ReflectliteType.toType t) #[rvl 145 a 150]).run Tryz.prog w = .ok (rtv 145) w := by kernel_rfl
theorem Qpg (w:World):((ReflectliteType.abiMethod fun t=>(fun a:Nat=>Value.int IntKind.u8 (a:Int)) <$> Rtype.kind t) #[.pointer (some ⟨1,145,none⟩)]).run prog w=.ok (.int .u8 22) w:=by kernel_rfl
theorem Qro (w:World):((ReflectliteType.abiMethod fun t=>(fun a:Nat=>Value.int IntKind.u8 (a:Int)) <$> Rtype.kind t) #[.pointer (some ⟨1,143,none⟩)]).run prog w=.ok (.int .u8 22) w:=by kernel_rfl
theorem Qmd (a:Addr)(w:World):(ReflectliteValue.parts (rvl 145 a 150)).run prog w=.ok (some (145,a,150)) w:=by kernel_rfl
theorem Qow (a p:Addr)(W:World) (ha:W.cell? a=some (.pointer (some p))) :
 (ReflectliteValue.method (ReflectliteValue.valueError "reflectlite.Value.IsNil" 0) ReflectliteValue.isNil #[rvl 145 a 150]).run Tryz.prog W = .ok (.bool false) W := by
 rw [Qsq];simp only [Sem.run_bind,Qmd,Result.andThen];simp [ReflectliteValue.isNil,loadVar,isAgg,underlying,underlying145,ha,Result.andThen]
theorem Qsx (w:World):(ReflectliteType.method ReflectliteType.elem #[rty 145]).run prog w=.ok (rtv 143) w:=by kernel_rfl
theorem Qgk (w : World) : (ReflectliteType.relation "Implements" ReflectliteType.implements_ #[rty 143, Qne]).run Tryz.prog w = .ok (.bool true) w := by kernel_rfl
theorem Qtn (w:World):(Rtype.elem? 145).run prog w=.ok (some 143) w:=by kernel_rfl
theorem as_mkF (p:Addr)(w:World):(ReflectliteValue.mk 143 p ReflectliteValue.flagAddr).run prog w=.ok (rvl 143 p 406) w:=by kernel_rfl
theorem Qvx (a p:Addr)(W:World) (ha:W.cell? a=some (.pointer (some p))) :
 (ReflectliteValue.method (ReflectliteValue.valueError "reflectlite.Value.Elem" 0) ReflectliteValue.elem #[rvl 145 a 150]).run Tryz.prog W = .ok (rvl 143 p 406) W := by
 rw [Qsq];simp only [Sem.run_bind,Qmd,Result.andThen];simp [ReflectliteValue.elem,loadVar,isAgg,underlying,underlying145,ha,Result.andThen,Qtn,as_mkF]
theorem Qtj (v:Value)(w:World):(ReflectliteType.typeOf #[.iface 143 v]).run prog w=.ok (rtv 143) w:=by kernel_rfl
theorem Qla (w : World) : (ReflectliteType.relation "AssignableTo" ReflectliteType.assignableTo #[rty 143, rtv 143]).run Tryz.prog w = .ok (.bool true) w := by kernel_rfl
theorem Qri (e:Addr)(w:World):(ReflectliteValue.unpack (.iface 143 (.pointer (some e)))).run prog w=.ok (rvl 143 ⟨w.heap.size,0,none⟩ 150) (w.alloc (.cells #[.pointer (some e)] 143)):=by kernel_rfl
theorem Quf (a:Addr)(w:World):(ReflectliteValue.parts (rvl 143 a 406)).run prog w=.ok (some (143,a,406)) w:=by kernel_rfl
theorem Qxn (a:Addr)(w:World):(ReflectliteValue.parts (rvl 143 a 150)).run prog w=.ok (some (143,a,150)) w:=by kernel_rfl
theorem Qtb (w:World):(Rtype.directlyAssignable 143 143).run prog w=.ok true w:=by kernel_rfl
theorem as_setF (ta b:Addr)(e:Addr)(old:Value)(W:World) (hb:W.cell? b=some (.pointer (some e))) (ht:W.cell? ta=some old) (hf:W.frozen? ta=false) :
 (ReflectliteValue.set #[rvl 143 ta 406,rvl 143 b 150]).run prog W=.ok (.tuple #[]) (W.setCell ta (.pointer (some e))):=by
 rw [as_rls];simp only [Sem.run_bind,Quf,Qxn,Result.andThen];simp [ReflectliteValue.flagAddr,loadVar,isAgg,underlying,underlying143,hb,Result.andThen,Qtb,storeVar,Value.cells,storeCells,Addr.add];rw [run_store prog W ta _ _ (by rfl)];simp [ht,hf]
/-! ### at *api.Errno -/
theorem Qpd (t:Addr)(w:World):(ReflectliteValue.unpack (.iface 150 (.pointer (some t)))).run prog w=.ok (rvl 150 ⟨w.heap.size,0,none⟩ 150) (w.alloc (.cells #[.pointer (some t)] 150)):=by kernel_rfl
theorem Qux (a : Addr) (w : World) : (ReflectliteValue.methodAny (ReflectliteValue.valueError "reflectlite.Value.Type" 0) (fun t _ _ _ => ReflectliteType.toType t) #[rvl 150 a 150]).run Tryz.prog w = .ok (rtv 150) w := by kernel_rfl
theorem Qyk (w:World):((ReflectliteType.abiMethod fun t=>(fun a:Nat=>Value.int IntKind.u8 (a:Int)) <$> Rtype.kind t) #[.pointer (some ⟨1,150,none⟩)]).run prog w=.ok (.int .u8 22) w:=by kernel_rfl
theorem as_kindE (w:World):((ReflectliteType.abiMethod fun t=>(fun a:Nat=>Value.int IntKind.u8 (a:Int)) <$> Rtype.kind t) #[.pointer (some ⟨1,142,none⟩)]).run prog w=.ok (.int .u8 2) w:=by kernel_rfl
theorem Qlo (a:Addr)(w:World):(ReflectliteValue.parts (rvl 150 a 150)).run prog w=.ok (some (150,a,150)) w:=by kernel_rfl
theorem Qxf (a p:Addr)(W:World) (ha:W.cell? a=some (.pointer (some p))) :
 (ReflectliteValue.method (ReflectliteValue.valueError "reflectlite.Value.IsNil" 0) ReflectliteValue.isNil #[rvl 150 a 150]).run Tryz.prog W = .ok (.bool false) W := by
 rw [Qsq];simp only [Sem.run_bind,Qlo,Result.andThen];simp [ReflectliteValue.isNil,loadVar,isAgg,underlying,underlying150,ha,Result.andThen]
theorem as_elemE (w:World):(ReflectliteType.method ReflectliteType.elem #[rty 150]).run prog w=.ok (rtv 142) w:=by kernel_rfl
theorem Qkz (w : World) : (ReflectliteType.relation "Implements" ReflectliteType.implements_ #[rty 142, Qne]).run Tryz.prog w = .ok (.bool true) w := by kernel_rfl
theorem Qtf (w:World):(Rtype.elem? 150).run prog w=.ok (some 142) w:=by kernel_rfl
theorem as_mkE (p:Addr)(w:World):(ReflectliteValue.mk 142 p ReflectliteValue.flagAddr).run prog w=.ok (rvl 142 p 386) w:=by kernel_rfl
theorem Qwn (a p:Addr)(W:World) (ha:W.cell? a=some (.pointer (some p))) :
 (ReflectliteValue.method (ReflectliteValue.valueError "reflectlite.Value.Elem" 0) ReflectliteValue.elem #[rvl 150 a 150]).run Tryz.prog W = .ok (rvl 142 p 386) W := by
 rw [Qsq];simp only [Sem.run_bind,Qlo,Result.andThen];simp [ReflectliteValue.elem,loadVar,isAgg,underlying,underlying150,ha,Result.andThen,Qtf,as_mkE]
theorem Qll (v:Value)(w:World):(ReflectliteType.typeOf #[.iface 142 v]).run prog w=.ok (rtv 142) w:=by kernel_rfl
theorem Qlc (w : World) : (ReflectliteType.relation "AssignableTo" ReflectliteType.assignableTo #[rty 142, rtv 142]).run Tryz.prog w = .ok (.bool true) w := by kernel_rfl
theorem Qrk (c:Int)(w:World):(ReflectliteValue.unpack (.iface 142 (.int .i64 c))).run prog w=.ok (rvl 142 ⟨w.heap.size,0,none⟩ 130) (w.alloc (.cells #[.int .i64 c] 142)):=by kernel_rfl
theorem Qth (a:Addr)(w:World):(ReflectliteValue.parts (rvl 142 a 386)).run prog w=.ok (some (142,a,386)) w:=by kernel_rfl
theorem Qyj (a:Addr)(w:World):(ReflectliteValue.parts (rvl 142 a 130)).run prog w=.ok (some (142,a,130)) w:=by kernel_rfl
theorem Qti (w:World):(Rtype.directlyAssignable 142 142).run prog w=.ok true w:=by kernel_rfl
theorem as_setE (ta b:Addr)(c:Int)(old:Value)(W:World) (hb:W.cell? b=some (.int .i64 c)) (ht:W.cell? ta=some old) (hf:W.frozen? ta=false) :
 (ReflectliteValue.set #[rvl 142 ta 386,rvl 142 b 130]).run prog W=.ok (.tuple #[]) (W.setCell ta (.int .i64 c)):=by
 rw [as_rls];simp only [Sem.run_bind,Qth,Qyj,Result.andThen];simp [ReflectliteValue.flagAddr,loadVar,isAgg,underlying,underlying142,hb,Result.andThen,Qti,storeVar,Value.cells,storeCells,Addr.add];rw [run_store prog W ta _ _ (by rfl)];simp [ht,hf]
set_option maxHeartbeats 4000000 in
theorem as_hitF (e:Addr)(t:Addr)(old:Value)(w:World)(hg:w.cell? ⟨0,0,none⟩=some Qne)(ht0:w.cell? t=some old)(hf0:w.frozen? t=false) :
 Calls prog 66 #[.iface 143 (.pointer (some e)),.iface 145 (.pointer (some t))] w fun ev w'=>ev=.returned (.bool true)∧w'=((asX t 145 w).alloc (.cells #[.pointer (some e)] 143)).setCell t (.pointer (some e)):=by
 have h6:=@run_callFunc_extern prog 129 _ (fun args=>ReflectliteValue.unpack (args.getD 0 (.tuple #[]))) func129 (by kernel_rfl) (by kernel_rfl) (by kernel_rfl) (by kernel_rfl)
 have h7 := @run_callFunc_extern Tryz.prog 130 _ (ReflectliteValue.methodAny (ReflectliteValue.valueError "reflectlite.Value.Type" 0) (fun t _ _ _ => ReflectliteType.toType t)) Tryz.func130 (by kernel_rfl) (by kernel_rfl) (by kernel_rfl) (by kernel_rfl)
 have h8 := @run_callFunc_extern Tryz.prog 131 _ (ReflectliteValue.method (ReflectliteValue.valueError "reflectlite.Value.IsNil" 0) ReflectliteValue.isNil) Tryz.func131 (by kernel_rfl) (by kernel_rfl) (by kernel_rfl) (by kernel_rfl)
 have h27:=@run_callFunc_extern prog 257 _ (ReflectliteType.abiMethod fun t=>do pure (.int .u8 (←Rtype.kind t))) func257 (by kernel_rfl) (by kernel_rfl) (by kernel_rfl) (by kernel_rfl);have h37:=@run_callFunc_extern prog 269 _ (ReflectliteType.method ReflectliteType.elem) func269 (by kernel_rfl) (by kernel_rfl) (by kernel_rfl) (by kernel_rfl)
 have h38 := @run_callFunc_extern Tryz.prog 270 _ (ReflectliteType.relation "Implements" ReflectliteType.implements_) Tryz.func270 (by kernel_rfl) (by kernel_rfl) (by kernel_rfl) (by kernel_rfl)
 have h10:=@run_callFunc_extern prog 127 _ ReflectliteType.typeOf func127 (by kernel_rfl) (by kernel_rfl) (by kernel_rfl) (by kernel_rfl)
 have h35 := @run_callFunc_extern Tryz.prog 267 _ (ReflectliteType.relation "AssignableTo" ReflectliteType.assignableTo) Tryz.func267 (by kernel_rfl) (by kernel_rfl) (by kernel_rfl) (by kernel_rfl)
 have h11 := @run_callFunc_extern Tryz.prog 178 _ (ReflectliteValue.method (ReflectliteValue.valueError "reflectlite.Value.Elem" 0) ReflectliteValue.elem) Tryz.func178 (by kernel_rfl) (by kernel_rfl) (by kernel_rfl) (by kernel_rfl)
 have h12:=@run_callFunc_extern prog 179 _ ReflectliteValue.set func179 (by kernel_rfl) (by kernel_rfl) (by kernel_rfl) (by kernel_rfl);have mA:=Qdm;have mK:=Qmq;have mE:=Qmi;have mI:=Qeg;have tO:=Qtj;have aS:=Qla;have vO:=Qri;have f6:=Qit;have f7:=Qoq;have kP:=Qpg;have kE:=Qro;have eL:=Qsx;have iM:=Qgk;have n8:=Qow ⟨w.heap.size,0,none⟩ t (asW t 145 w) (by simp);have hlt:0<w.heap.size:=Qaj hg
 have htl:t.block<w.heap.size:=Qaj ht0
 have hg2:(asW t 145 w).cell? ⟨0,0,none⟩=some Qne:=by
  rw [World.cell?_alloc_lt _ _ ⟨0,0,none⟩ (by simp),World.cell?_alloc_lt _ _ ⟨0,0,none⟩ hlt];exact hg
 have el:=Qvx ⟨w.heap.size,0,none⟩ t (asX t 145 w) (by rw [World.cell?_alloc_lt _ _ ⟨w.heap.size,0,none⟩ (by simp;omega)];simp)
 have st:=as_setF t ⟨w.heap.size+1+1+1,0,none⟩ e old ((asX t 145 w).alloc (.cells #[.pointer (some e)] 143))
  (by rw [World.cell?_alloc_at _ _ _ _ (by simp)];rfl)
  (by rw [World.cell?_alloc_lt _ _ t (by simp;omega),World.cell?_alloc_lt _ _ t (by simp;omega),World.cell?_alloc_lt _ _ t (by simp;omega),World.cell?_alloc_lt _ _ t htl];exact ht0)
  (by rw [World.frozen?_alloc_old _ _ t (by simp;omega),World.frozen?_alloc_old _ _ t (by simp;omega),World.frozen?_alloc_old _ _ t (by simp;omega),World.frozen?_alloc_old _ _ t (Nat.ne_of_lt htl)];exact hf0)
 go_enter func66,ntmps66
 go_wp2
 refine wp_loop_rounds 1 ?_;rw [rounds_succ]
 go_wp2
 go_ret
 exact ⟨rfl,rfl⟩
set_option maxHeartbeats 4000000 in
theorem as_hitE (c:Int)(t:Addr)(old:Value)(w:World)(hg:w.cell? ⟨0,0,none⟩=some Qne)(ht0:w.cell? t=some old)(hf0:w.frozen? t=false) :
 Calls prog 66 #[.iface 142 (.int .i64 c),.iface 150 (.pointer (some t))] w fun ev w'=>ev=.returned (.bool true)∧w'=((asX t 150 w).alloc (.cells #[.int .i64 c] 142)).setCell t (.int .i64 c):=by
 have h6:=@run_callFunc_extern prog 129 _ (fun args=>ReflectliteValue.unpack (args.getD 0 (.tuple #[]))) func129 (by kernel_rfl) (by kernel_rfl) (by kernel_rfl) (by kernel_rfl)
 have h7 := @run_callFunc_extern Tryz.prog 130 _ (ReflectliteValue.methodAny (ReflectliteValue.valueError "reflectlite.Value.Type" 0) (fun t _ _ _ => ReflectliteType.toType t)) Tryz.func130 (by kernel_rfl) (by kernel_rfl) (by kernel_rfl) (by kernel_rfl)
 have h8 := @run_callFunc_extern Tryz.prog 131 _ (ReflectliteValue.method (ReflectliteValue.valueError "reflectlite.Value.IsNil" 0) ReflectliteValue.isNil) Tryz.func131 (by kernel_rfl) (by kernel_rfl) (by kernel_rfl) (by kernel_rfl)
 have h27:=@run_callFunc_extern prog 257 _ (ReflectliteType.abiMethod fun t=>do pure (.int .u8 (←Rtype.kind t))) func257 (by kernel_rfl) (by kernel_rfl) (by kernel_rfl) (by kernel_rfl);have h37:=@run_callFunc_extern prog 269 _ (ReflectliteType.method ReflectliteType.elem) func269 (by kernel_rfl) (by kernel_rfl) (by kernel_rfl) (by kernel_rfl)
 have h38 := @run_callFunc_extern Tryz.prog 270 _ (ReflectliteType.relation "Implements" ReflectliteType.implements_) Tryz.func270 (by kernel_rfl) (by kernel_rfl) (by kernel_rfl) (by kernel_rfl)
 have h10:=@run_callFunc_extern prog 127 _ ReflectliteType.typeOf func127 (by kernel_rfl) (by kernel_rfl) (by kernel_rfl) (by kernel_rfl)
 have h35 := @run_callFunc_extern Tryz.prog 267 _ (ReflectliteType.relation "AssignableTo" ReflectliteType.assignableTo) Tryz.func267 (by kernel_rfl) (by kernel_rfl) (by kernel_rfl) (by kernel_rfl)
 have h11 := @run_callFunc_extern Tryz.prog 178 _ (ReflectliteValue.method (ReflectliteValue.valueError "reflectlite.Value.Elem" 0) ReflectliteValue.elem) Tryz.func178 (by kernel_rfl) (by kernel_rfl) (by kernel_rfl) (by kernel_rfl)
 have h12:=@run_callFunc_extern prog 179 _ ReflectliteValue.set func179 (by kernel_rfl) (by kernel_rfl) (by kernel_rfl) (by kernel_rfl);have mA:=Qdm;have mK:=Qmq;have mE:=Qmi;have mI:=Qeg;have tO:=Qll;have aS:=Qlc;have vO:=Qrk;have f6:=Qpd;have f7:=Qux;have kP:=Qyk;have kE:=as_kindE;have eL:=as_elemE;have iM:=Qkz;have n8:=Qxf ⟨w.heap.size,0,none⟩ t (asW t 150 w) (by simp);have hlt:0<w.heap.size:=Qaj hg
 have htl:t.block<w.heap.size:=Qaj ht0
 have hg2:(asW t 150 w).cell? ⟨0,0,none⟩=some Qne:=by
  rw [World.cell?_alloc_lt _ _ ⟨0,0,none⟩ (by simp),World.cell?_alloc_lt _ _ ⟨0,0,none⟩ hlt];exact hg
 have el:=Qwn ⟨w.heap.size,0,none⟩ t (asX t 150 w) (by rw [World.cell?_alloc_lt _ _ ⟨w.heap.size,0,none⟩ (by simp;omega)];simp)
 have st:=as_setE t ⟨w.heap.size+1+1+1,0,none⟩ c old ((asX t 150 w).alloc (.cells #[.int .i64 c] 142))
  (by rw [World.cell?_alloc_at _ _ _ _ (by simp)];rfl)
  (by rw [World.cell?_alloc_lt _ _ t (by simp;omega),World.cell?_alloc_lt _ _ t (by simp;omega),World.cell?_alloc_lt _ _ t (by simp;omega),World.cell?_alloc_lt _ _ t htl];exact ht0)
  (by rw [World.frozen?_alloc_old _ _ t (by simp;omega),World.frozen?_alloc_old _ _ t (by simp;omega),World.frozen?_alloc_old _ _ t (by simp;omega),World.frozen?_alloc_old _ _ t (Nat.ne_of_lt htl)];exact hf0)
 go_enter func66,ntmps66
 go_wp2
 refine wp_loop_rounds 1 ?_;rw [rounds_succ]
 go_wp2
 go_ret
 exact ⟨rfl,rfl⟩
theorem Qkx (w : World) : (ReflectliteType.relation "AssignableTo" ReflectliteType.assignableTo #[rty 142, rtv 143]).run Tryz.prog w = .ok (.bool false) w := by kernel_rfl
set_option maxHeartbeats 4000000 in
theorem as_miss (c:Int)(t:Addr)(w:World)(hg:w.cell? ⟨0,0,none⟩=some Qne) :
 Calls prog 66 #[Quv c,.iface 145 (.pointer (some t))] w fun ev w'=>ev=.returned (.bool false)∧w'=asX t 145 w:=by
 have h6:=@run_callFunc_extern prog 129 _ (fun args=>ReflectliteValue.unpack (args.getD 0 (.tuple #[]))) func129 (by kernel_rfl) (by kernel_rfl) (by kernel_rfl) (by kernel_rfl)
 have h7 := @run_callFunc_extern Tryz.prog 130 _ (ReflectliteValue.methodAny (ReflectliteValue.valueError "reflectlite.Value.Type" 0) (fun t _ _ _ => ReflectliteType.toType t)) Tryz.func130 (by kernel_rfl) (by kernel_rfl) (by kernel_rfl) (by kernel_rfl)
 have h8 := @run_callFunc_extern Tryz.prog 131 _ (ReflectliteValue.method (ReflectliteValue.valueError "reflectlite.Value.IsNil" 0) ReflectliteValue.isNil) Tryz.func131 (by kernel_rfl) (by kernel_rfl) (by kernel_rfl) (by kernel_rfl)
 have h27:=@run_callFunc_extern prog 257 _ (ReflectliteType.abiMethod fun t=>do pure (.int .u8 (←Rtype.kind t))) func257 (by kernel_rfl) (by kernel_rfl) (by kernel_rfl) (by kernel_rfl);have h37:=@run_callFunc_extern prog 269 _ (ReflectliteType.method ReflectliteType.elem) func269 (by kernel_rfl) (by kernel_rfl) (by kernel_rfl) (by kernel_rfl)
 have h38 := @run_callFunc_extern Tryz.prog 270 _ (ReflectliteType.relation "Implements" ReflectliteType.implements_) Tryz.func270 (by kernel_rfl) (by kernel_rfl) (by kernel_rfl) (by kernel_rfl)
 have h10:=@run_callFunc_extern prog 127 _ ReflectliteType.typeOf func127 (by kernel_rfl) (by kernel_rfl) (by kernel_rfl) (by kernel_rfl)
 have h35 := @run_callFunc_extern Tryz.prog 267 _ (ReflectliteType.relation "AssignableTo" ReflectliteType.assignableTo) Tryz.func267 (by kernel_rfl) (by kernel_rfl) (by kernel_rfl) (by kernel_rfl)
 have h11 := @run_callFunc_extern Tryz.prog 178 _ (ReflectliteValue.method (ReflectliteValue.valueError "reflectlite.Value.Elem" 0) ReflectliteValue.elem) Tryz.func178 (by kernel_rfl) (by kernel_rfl) (by kernel_rfl) (by kernel_rfl)
 have h12:=@run_callFunc_extern prog 179 _ ReflectliteValue.set func179 (by kernel_rfl) (by kernel_rfl) (by kernel_rfl) (by kernel_rfl);have mA:=Qdm;have mK:=Qmq;have mE:=Qmi;have mI:=Qeg;have tO:=Qll;have aS:=Qkx;have f6:=Qit;have f7:=Qoq;have kP:=Qpg;have kE:=Qro;have eL:=Qsx;have iM:=Qgk;have nA:=er_noAs;have nU:=Qqa;have nV:=Qoh;have n8:=Qow ⟨w.heap.size,0,none⟩ t (asW t 145 w) (by simp);have hlt:0<w.heap.size:=Qaj hg
 have hg2:(asW t 145 w).cell? ⟨0,0,none⟩=some Qne:=by
  rw [World.cell?_alloc_lt _ _ ⟨0,0,none⟩ (by simp),World.cell?_alloc_lt _ _ ⟨0,0,none⟩ hlt];exact hg
 go_enter func66,ntmps66
 go_wp2
 refine wp_loop_rounds 1 ?_;rw [rounds_succ]
 go_wp2
 go_ret
 exact ⟨rfl,rfl⟩
end Go.Proofs.YteaoiabikjnkeaaGreatDoor
namespace Go.Proofs.YteaoiabikjnkeaaGreatDoor
open Go.RowKit Go.Extern.Stop Go.Stop Go.Extern Go.Proofs.Tryz
theorem Qdz (t:Addr)(p:Nat)(w:World):Below w.heap.size w (asX t p w):=Qah
theorem as_fault (b o g:Nat)(old:Value)(w:World)(hg:w.cell? ⟨0,0,none⟩=some Qne)(ht0:w.cell? ⟨g,0,none⟩=some old)(hf0:w.frozen? ⟨g,0,none⟩=false) :
 Calls prog 66 #[fltV b o,.iface 145 (.pointer (some ⟨g,0,none⟩))] w fun ev w'=>ev=.returned (.bool true)∧w'.cell? ⟨g,0,none⟩=some (.pointer (some ⟨b,o,none⟩))∧Below g w w' :=
 (as_hitF ⟨b,o,none⟩ ⟨g,0,none⟩ old w hg ht0 hf0).mono fun e w' ⟨he,hw⟩=>by
  have hlt:=Qaj ht0;have hb:Below g w (asX ⟨g,0,none⟩ 145 w):=(Qdz _ _ w).mono (Nat.le_of_lt hlt);have hb2:Below g w ((asX ⟨g,0,none⟩ 145 w).alloc (.cells #[.pointer (some ⟨b,o,none⟩)] 143)):=hb.alloc (Nat.le_trans (Nat.le_of_lt hlt) (Qdz _ _ w).size) _;refine ⟨he,?_,?_⟩
  · rw [hw]
    have hc:((asX ⟨g,0,none⟩ 145 w).alloc (.cells #[.pointer (some ⟨b,o,none⟩)] 143)).cell? ⟨g,0,none⟩=some old :=
     Zc (Bel.alloc (Qdz ⟨g,0,none⟩ 145 w)) (Zn _) ht0
    exact World.cell?_setCell_same _ _ _ hc
  · rw [hw];exact hb2.setCell (Zn _) _
theorem as_errno (c:Int)(g:Nat)(old:Value)(w:World)(hg:w.cell? ⟨0,0,none⟩=some Qne)(ht0:w.cell? ⟨g,0,none⟩=some old)(hf0:w.frozen? ⟨g,0,none⟩=false) :
 Calls prog 66 #[Quv c,.iface 150 (.pointer (some ⟨g,0,none⟩))] w fun ev w'=>ev=.returned (.bool true)∧w'.cell? ⟨g,0,none⟩=some (.int .i64 c)∧Below g w w' :=
 (as_hitE c ⟨g,0,none⟩ old w hg ht0 hf0).mono fun e w' ⟨he,hw⟩=>by
  have hlt:=Qaj ht0;have hb:Below g w (asX ⟨g,0,none⟩ 150 w):=(Qdz _ _ w).mono (Nat.le_of_lt hlt);have hb2:Below g w ((asX ⟨g,0,none⟩ 150 w).alloc (.cells #[.int .i64 c] 142)):=hb.alloc (Nat.le_trans (Nat.le_of_lt hlt) (Qdz _ _ w).size) _;refine ⟨he,?_,?_⟩
  · rw [hw]
    have hc:((asX ⟨g,0,none⟩ 150 w).alloc (.cells #[.int .i64 c] 142)).cell? ⟨g,0,none⟩=some old :=
     Zc (Bel.alloc (Qdz ⟨g,0,none⟩ 150 w)) (Zn _) ht0
    exact World.cell?_setCell_same _ _ _ hc
  · rw [hw];exact hb2.setCell (Zn _) _
theorem as_none (c:Int)(g:Nat)(w:World)(hg:w.cell? ⟨0,0,none⟩=some Qne) :
 Calls prog 66 #[Quv c,.iface 145 (.pointer (some ⟨g,0,none⟩))] w fun ev w'=>ev=.returned (.bool false)∧Below w.heap.size w w' :=
 (as_miss c ⟨g,0,none⟩ w hg).mono fun e w' ⟨he,hw⟩=>⟨he,by rw [hw];exact Qdz _ _ w⟩
set_option maxHeartbeats 1000000 in
theorem Qop (A:Option Addr)(n c:Nat)(w:World) :
 Calls prog 21 #[.nilIface,.agg #[.slice A n c,.int .i64 0]] w fun e w'=>e=.returned (.bool true)∧Below w.heap.size w w':=by
 go_enter func21,ntmps21
 go_wp2
 go_ret
 exact ⟨rfl,Qah⟩
theorem Que {w:World}{v:Value} {ps:List (ByteArray×Int)} {c:Int} {k:Nat} {p:ByteArray×Int} (hk:ps[k]?=some p) (h:Qcl w v (ps.drop k) c) :
 ∃ b o u,v=fltV b o∧w.cell? ⟨b,o,none⟩=some (.string p.1)∧w.cell? ⟨b,o+1,none⟩=some (.int .i64 p.2)∧w.cell? ⟨b,o+2,none⟩=some u∧Qcl w u (ps.drop (k+1)) c:=by
 have hlt:=(Zs hk).1;rw [List.drop_eq_getElem_cons hlt] at h;have e:ps[k]=p:=(Zs hk).2;rw [e] at h;exact h
attribute [local go_sem ↓] Go.wp_at_zero Go.wp_at_succ
set_option maxHeartbeats 4000000 in
theorem Qjl (v:Value)(A:Option Addr)(n c:Nat) (ps:List (ByteArray×Int)) (c0:Int) (w:World) (h:Qcl w v ps c0) (hr:RdW w A n ps) (hc0:c0≠0) (hg:w.cell? ⟨0,0,none⟩=some Qne) (hn:n≤4000000000000000000) :
 Calls prog 21 #[v,.agg #[.slice A n c,.int .i64 c0]] w fun e w'=>e=.returned (.bool true)∧Below w.heap.size w w':=by
 have HI:∀ (W:World),Below w.heap.size w W→Calls prog 65 #[v,Quv c0] W fun e w'=>e=.returned (.bool true)∧w'=W:=fun W hb=>errorsIs v ps c0 W (Qcl.below hb h)
 have HI':=Zh HI;clear HI;obtain ⟨tvv,xv,hv⟩:=Qam h;have hlt0:=Qaj hg;have HC:=Zh hc0;have HCH:=Zh h;subst hv;clear h
 go_enter func21,ntmps21
 go_wp2_with fail
 with_reducible refine (HI'.out _ Qah).mono ?_
 rintro e w' ⟨rfl,rfl⟩;clear HI'
 go_wp2_with fail
 (refine Qak ?_;intro w1 hw1)
 have hb1:Below w.heap.size w w1:=by rw [hw1];exact Qah
 have hx0:w1.cell? ⟨w.heap.size,0,none⟩=some (.slice A n c):=by rw [hw1];simp
 have hx1:w1.cell? ⟨w.heap.size,1,none⟩=some (.int .i64 c0):=by rw [hw1];simp
 have hg1:w1.cell? ⟨0,0,none⟩=some Qne:=Zc hb1 (Zn _) hg;have hr1:=hr.below hb1;have hch:=Qcl.below hb1 HCH.out;have HCH1:=Zh hch;clear hch HCH hr hw1 hg
 go_loopw [0,5] (fun u i W=>∃ (k:Nat),k≤n∧i=.int .i64 k∧Qcl W u (ps.drop k) c0∧Below w1.heap.size w1 W) (fun _ i _=>n-(intOf i).toNat)
 case atStart=>exact ⟨0,Nat.zero_le _,rfl,HCH1.out,Zr _ _⟩
 case round =>
  obtain ⟨k,hk,rfl,hch,hbl⟩:=hrel;have y0:=Zc hbl (Zn _) hx0
  by_cases hlt:k<n
  · have hlen:=hr1.1
    obtain ⟨p,hp⟩:∃ p,ps[k]?=some p:=⟨ps[k],Zg (by omega)⟩;obtain ⟨pb,po,rfl,hp1,hp2⟩:=hr1.2 k p hp;obtain ⟨b,o,u,rfl,hc1,hc2,hc3,hc4⟩:=Que hp hch;obtain ⟨tu,xu,hu⟩:=Qam hc4;have HP:=Zh hp;have H4:=Zh hc4;have z:=hbl.size;clear hp hch hlen hc4;subst hu;obtain ⟨s,q0⟩:=p
    go_wp2_with fail
    (refine Qak ?_;intro W5 hW5)
    have hb5:Below w1.heap.size w1 W5:=by rw [hW5];exact Qah
    have hbr:Below wr.heap.size wr W5:=by rw [hW5];exact Qah
    have ht5:W5.cell? ⟨wr.heap.size,0,none⟩=some (.pointer none):=by rw [hW5];simp
    have hf5:W5.frozen? ⟨wr.heap.size,0,none⟩=false:=by rw [hW5];simp
    have hg5:=Zc hb5 (Zn _) hg1;have hz5:=Qaj ht5
    have HA:∀ V,Below W5.heap.size W5 V→Calls prog 66 #[fltV b o,.iface 145 (.pointer (some ⟨wr.heap.size,0,none⟩))] V fun ev w'=>ev=.returned (.bool true)∧w'.cell? ⟨wr.heap.size,0,none⟩=some (.pointer (some ⟨b,o,none⟩))∧Below wr.heap.size W5 w':=fun V hV =>
     (as_fault b o wr.heap.size _ V (Zc hV (Zn _) hg5) (Zc hV (Zn _) ht5) ((Below.frozenOf hV hz5).trans hf5)).mono fun _ _ ⟨h1,h2,h3⟩=>⟨h1,h2,(hV.mono (Nat.le_of_lt hz5)).trans h3⟩
    have HA':=Zh HA;clear HA;clear hW5 hf5 hg5;refine wp_region_held_drew (S:=fun _=>True) (by kernel_rfl) trivial (fun _=>?_);refine tz 0 31 ?_;refine tz 1 32 ?_;refine Zk 2 (fun K hK=>?_);go_simp
    go_at_call 66
    with_reducible refine (HA'.out _ Qah).mono ?_
    rintro e w6 ⟨rfl,ht6,hb6⟩;have hb7:Below wr.heap.size wr w6:=hbr.trans hb6;have c6:=Zc hb7 (Zn _) hc1;have d6:=Zc hb7 (Zn _) hc2;have e6:=Zc hb7 (Zn _) hc3;have y6:=Zc hb7 (Zn _) y0;have p6:=Zc hb7 (Zn _) (Zc hbl (Zn _) hp1);have q6:=Zc hb7 (Zn _) (Zc hbl (Zn _) hp2)
    go_wp2_with fail
    refine hK.out _ _ trivial (fun _=>?_);clear hK K;refine Qjo (S':=fun V=>V=w6) (fun _ _=>trivial) _ _ _ _ ?_;have i1:(0:Int)≤(k:Int):=by omega
    have i2:(k:Int)<(n:Int):=by omega
    clear hc1 hc2 hc3 y0 hp1 hp2 HA' hx1 hb5 hbr ht5 hz5;refine tz 3 34 ?_;refine tz 4 35 ?_;refine tz 5 36 ?_;refine tz 6 37 ?_;refine tz 7 38 ?_;refine tz 8 39 ?_;refine tz 9 40 ?_;refine tz 10 41 ?_;refine tz 11 42 ?_;refine tz 12 43 ?_;refine tz 13 44 ?_;refine tz 14 45 ?_;refine tz 15 46 ?_;refine tz 16 47 ?_;refine tz 17 48 ?_;refine tz 18 49 ?_;refine tz 19 50 ?_;refine tz 20 51 ?_;refine tz 21 52 ?_;refine tz 22 53 ?_;refine tz 23 54 ?_;refine tz 24 55 ?_;refine tz 25 56 ?_;refine tz 26 57 ?_;refine tz 27 58 ?_;refine tz 28 59 ?_;refine tz 29 60 ?_;refine tz 30 61 ?_;refine tz 31 62 ?_;refine tz 32 63 ?_;refine tz 33 64 ?_;refine Zd ?_
    go_wp2_with fail
    exact ⟨⟨k+1,by omega,by go_num,Qcl.below hb7 H4.out,Zb hbl hb7⟩,by simp [intOf];omega⟩
  · obtain rfl:k=n:=by omega
    rw [List.drop_of_length_le (by have:=hr1.1;omega)] at hch;unfold Qcl at hch;subst hch;have x1:=Zc hbl (Zn _) hx1;have gr:=Zc hbl (Zn _) hg1;have z:=hbl.size;clear hx0 hr1 hx1
    go_wp2_with fail
    (refine Qac ?_;intro W5 hW5)
    have hbr:Below wr.heap.size wr W5:=by rw [hW5];exact Qah
    have ht5:W5.cell? ⟨wr.heap.size+1,0,none⟩=some (.int .i64 0):=by rw [hW5];simp
    have hf5:W5.frozen? ⟨wr.heap.size+1,0,none⟩=false:=by rw [hW5];simp
    have g5:=Zc hbr (Zn _) gr;have z5:=Qaj ht5;clear hW5;with_reducible refine (as_none c0 wr.heap.size _ g5).mono ?_
    rintro e w6 ⟨rfl,hb6⟩;have hb56:=hbr.trans (hb6.mono hbr.size)
    go_wp2_with fail
    with_reducible refine (as_errno c0 (wr.heap.size+1) _ _ (Zc hb6 (Zn _) g5) (Zc hb6 (Zn _) ht5) ((Below.frozenOf hb6 z5).trans hf5)).mono ?_
    rintro e w7 ⟨rfl,ht7,hb7⟩;have hb8:Below wr.heap.size wr w7:=hb56.trans (hb7.mono (Nat.le_succ _));have x7:=Zc hb8 (Zn _) x1;clear hb6 hb7 hb56 ht5 hf5
    go_wp2_with fail
    go_ret
    exact ⟨rfl,Qah⟩
end Go.Proofs.YteaoiabikjnkeaaGreatDoor
namespace Go.Proofs.YteaoiabikjnkeaaGreatDoor
open Go.RowKit Go.Extern.Stop Go.Stop Go.Extern Go.Proofs.Tryz
attribute [local go_sem ↓] Go.wp_at_zero Go.wp_at_succ
theorem nat_l {l:List Int}(h:∀ x∈l,0≤x)(i:Nat)(t:Int) (ht:l[i]?=some t):∃ a:Nat,t=(a:Int):=⟨t.toNat,by have:=h t (Zm ht);omega⟩
theorem ch_tab {rows:List (List Int)} (hl:rows.length=2) (h:∀ (k:Nat) (s:Int),([0,3]:List Int)[k]?=some s→∃ row,rows[k]?=some row∧Qgm Qax s.toNat [2,3] row):rows=[[22,33],[1152921504606846976,0]]:=by
 obtain ⟨r0,h0,g0⟩:=h 0 0 rfl;obtain ⟨r1,h1,g1⟩:=h 1 3 rfl;have e0:r0=[22,33]:=g0.uniq ch_row2 (nat_l (by decide));have e1:r1=[1152921504606846976,0]:=g1.uniq ch_row3 (nat_l (by decide));subst e0;subst e1
 match rows,hl with
 | [a,b],_ =>
  cases h0
  cases h1
  rfl
theorem ch_nearI:Qif [1152921504606846976,33,11,11]=(2,11):=by decide
theorem ch_rb1:Qcs 3 1 1 Qax.ar.length 1 [4,1,0]=none:=rfl
theorem ch_rb2:Qcs 4 1 1 Qax.ar.length 1 [0,4,2,2]=none:=rfl
theorem ch_tb1:Qlz 2 2 1 1 Qax.ar.length [0,3] [2,3]=none:=rfl
theorem ch_tb2:Qlz 1 2 1 1 Qax.ar.length [0] [0,5]=some ((⟨#[116,111]⟩:ByteArray),1,5):=rfl
set_option maxRecDepth 20000 in
set_option maxHeartbeats 4000000 in
theorem Qlm (w:World)(hg:w.cell? ⟨0,0,none⟩=some Qne):Calls prog 29 #[] w fun e w'=>e=.returned (.bool true)∧Below w.heap.size w w':=by
 have HG:=Zh hg;have hg0:=Qaj hg;simp only at hg0;clear hg
 go_enter func29,ntmps29
 go_wp2_with fail
 with_reducible refine (Qse w).mono ?_
 unfold ChnP;rintro r w1 ⟨⟨A,B,C,Q,ca,cb,cc,cq,rfl,hn1,hq1⟩,hb1⟩;have HN1:=Zh hn1;have HQ1:=Zh hq1;have HB1:=Zh hb1;clear hn1 hq1 hb1
 go_wp2_with fail
 (refine Qac ?_;intro w2 hw2)
 have hb2:Below w1.heap.size w1 w2:=by rw [hw2];exact Qah
 clear hw2;have HB2:=Zh (Zb HB1.out hb2);have HN2:=Zh (HN1.out.below hb2);have HQ2:=Zh (HQ1.out.below hb2);clear hb2 HN1 HQ1 HB1;with_reducible refine (Qnj A B C Q 6 5 3 ca cb cc 1 cq Qax Qdo w2 HN2.out Qea HQ2.out Qdy (by rw [Qgp];omega)).mono ?_
 unfold Qpb;rintro r w3 ⟨⟨g,o,CB,NC,cl,F,rfl,hNC,hG,hF,hO,hC,hA⟩,hb3⟩;rw [Qgp] at hNC;subst hNC;obtain rfl:=hA.uniq Qkj;have HB3:=Zh (Zb HB2.out hb3);have HG3:=Zh hG.rd;have HO3:=Zh (hO.le (Qba _ _));have HC3:=Zh (show RdI w3 (some ⟨CB,0,none⟩) 1 [12] from ⟨hC.1,fun i x hx=>by obtain ⟨b,o,e,h1⟩:=hC.2 i x hx;exact ⟨b,o,e,Qba _ _ _ _ h1⟩⟩)
 have HR:=Zh (fun V (hV:Below w3.heap.size w3 V) TA nt ct tl s hT=>Qfu V g o Qax Qdo (some ⟨CB,0,none⟩) 1 1 1 [12] TA nt ct tl s (HG3.out.below hV) (HO3.out.below hV) (HC3.out.below hV) hT Qea Qdy Qgp.symm (fun _=>Qkj) ⟨by omega,by omega⟩ (by omega));have HT:=Zh (fun V (hV:Below w3.heap.size w3 V) SA TA ns cs nt ct sl tl hS hT=>Qis V g o Qax Qdo (some ⟨CB,0,none⟩) 1 1 1 [12] SA TA ns cs nt ct sl tl (HG3.out.below hV) (HO3.out.below hV) (HC3.out.below hV) hS hT Qea Qdy Qgp.symm (fun _=>Qkj) ⟨by omega,by omega⟩ (by omega));have HN:=Zh (fun V (hV:Below w3.heap.size w3 V) TA nt ct tl s hT=>Qjy V g o Qax Qdo (some ⟨CB,0,none⟩) 1 1 1 [12] TA nt ct tl s (HG3.out.below hV) (HO3.out.below hV) (HC3.out.below hV) hT Qea Qdy Qgp.symm (fun _=>Qkj) ⟨by omega,by omega⟩ (by omega));clear hG hF hO hC hA hb3 HN2 HQ2 HB2
 go_wp2_with fail
 (refine Qac ?_;intro w4 hw4)
 have hb4:Below w3.heap.size w3 w4:=by rw [hw4];exact Qah
 have hT4:RdI w4 (some ⟨w3.heap.size,0,none⟩) 3 [4,1,0]:=by rw [hw4];exact Blk.rdI (t:=3) (l:=[4,1,0]) (Blk.new w3 3 (Qbu [4,1,0])) rfl
 have HR4:=HR.out w4 hb4 _ 3 3 _ 1 hT4;rw [ch_rb1] at HR4;clear hw4 hT4;with_reducible refine HR4.mono ?_
 clear HR4;unfold Qlg;rintro r w5 ⟨⟨rb,row,rfl,hrb,hrd,_⟩,hb5⟩;obtain rfl:row=[33,0,1152921504606846976]:=hrd.uniq ch_row1 (nat_l (by decide));have hb35:=Zb hb4 hb5;have HX5:=Zh (show RdI w5 (some ⟨rb,0,none⟩) 3 [33,0,1152921504606846976] from hrb.rdI rfl)
 have HB5:=Zh hb35;clear hrb hrd hb4 hb5 hb35
 go_wp2_with fail
 (refine Qac ?_;intro w6 hw6)
 have hb6:Below w5.heap.size w5 w6:=by rw [hw6];exact Qah
 have hS6:RdI w6 (some ⟨w5.heap.size,0,none⟩) 2 [0,3]:=by rw [hw6];exact Blk.rdI (t:=3) (l:=[0,3]) (Blk.alloc (Blk.new w5 3 (Qbu [0,3])) _) rfl
 have hT6:RdI w6 (some ⟨w5.heap.size+1,0,none⟩) 2 [2,3]:=by rw [hw6];exact Blk.rdI (t:=3) (l:=[2,3]) (Blk.new' _ 3 (Qbu [2,3]) (by simp)) rfl
 have HT6:=HT.out w6 (Zb HB5.out hb6) _ _ 2 2 2 2 _ _ hS6 hT6;rw [ch_tb1] at HT6;clear hw6 hS6 hT6;with_reducible refine HT6.mono ?_
 clear HT6;unfold Qoc;rintro r w7 ⟨⟨TA7,rows,rfl,hrt,hrr⟩,hb7⟩;obtain rfl:=ch_tab hrt.1 hrr;have hb57:=Zb hb6 hb7;have HT7:=Zh hrt;have HX7:=Zh (HX5.out.below hb57);have HB7:=Zh (Zb HB5.out hb57);clear hrt hrr hb6 hb7 hb57 HX5 HB5
 go_wp2_with fail
 (refine Qac ?_;intro w8 hw8)
 have hb8:Below w7.heap.size w7 w8:=by rw [hw8];exact Qah
 have hT8:RdI w8 (some ⟨w7.heap.size,0,none⟩) 4 [0,4,2,2]:=by rw [hw8];exact Blk.rdI (t:=3) (l:=[0,4,2,2]) (Blk.new w7 3 (Qbu [0,4,2,2])) rfl
 have HN8:=HN.out w8 (Zb HB7.out hb8) _ 4 4 _ 1 hT8;rw [ch_rb2] at HN8;clear hw8 hT8;with_reducible refine HN8.mono ?_
 clear HN8;unfold MnrP;rintro r w9 ⟨⟨row,rfl,hrd⟩,hb9⟩;obtain rfl:row=[1152921504606846976,33,11,11]:=hrd.uniq ch_row4 (nat_l (by decide));rw [ch_nearI];have hb79:=Zb hb8 hb9;have HT9:=Zh (HT7.out.below hb79);have HX9:=Zh (HX7.out.below hb79);have HB9:=Zh (Zb HB7.out hb79);clear hrd hb8 hb9 hb79 HT7 HX7 HB7
 go_wp2_with fail
 (refine Qac ?_;intro wa hwa)
 have hba:Below w9.heap.size w9 wa:=by rw [hwa];exact Qah
 have hSa:RdI wa (some ⟨w9.heap.size,0,none⟩) 1 [0]:=by rw [hwa];exact Blk.rdI (t:=3) (l:=[0]) (Blk.alloc (Blk.new w9 3 (Qbu [0])) _) rfl
 have hTa:RdI wa (some ⟨w9.heap.size+1,0,none⟩) 2 [0,5]:=by rw [hwa];exact Blk.rdI (t:=3) (l:=[0,5]) (Blk.new' _ 3 (Qbu [0,5]) (by simp)) rfl
 have HTa:=HT.out wa (Zb HB9.out hba) _ _ 1 1 2 2 _ _ hSa hTa;rw [ch_tb2] at HTa;clear hwa hSa hTa;with_reducible refine HTa.mono ?_
 clear HTa;unfold Qoc;rintro r wb ⟨⟨v,rfl,hch⟩,hbb⟩;obtain ⟨tv,xv,rfl⟩:=Qam hch;have hb9b:=Zb hba hbb;have HCH:=Zh hch;have HTb:=Zh (HT9.out.below hb9b);have HXb:=Zh (HX9.out.below hb9b);have HBb:=Zh (Zb HB9.out hb9b);clear hch hba hbb hb9b HT9 HX9 HB9 HR HT HN
 go_wp2_with fail
 (refine Qac ?_;intro wc hwc)
 have hbc:Below wb.heap.size wb wc:=by rw [hwc];exact Qah
 have hRc:RdI wc (some ⟨wb.heap.size,0,none⟩) 3 [33,0,1152921504606846976]:=by rw [hwc];exact Blk.rdI (t:=2) (l:=[33,0,1152921504606846976]) (Blk.new wb 2 (Qbu [33,0,1152921504606846976])) rfl
 have HSC:=Qez (some ⟨rb,0,none⟩) (some ⟨wb.heap.size,0,none⟩) 3 3 3 3 _ _ wc (HXb.out.below hbc) hRc (by omega) (by omega);rw [decide_eq_true rfl] at HSC;clear hwc hRc;with_reducible refine HSC.mono ?_
 clear HSC;rintro r wd ⟨rfl,kd,hkd⟩;have hbd:Below wc.heap.size wc wd:=by rw [hkd];exact Qbb (Zr _ _) kd
 have hbbd:=Zb hbc hbd;have HTd:=Zh (HTb.out.below hbbd);have HCd:=Zh (HCH.out.below hbbd);have HBd:=Zh (Zb HBb.out hbbd);clear hkd hbc hbd hbbd HTb HCH HBb HXb
 go_wp2_with fail
 (refine Qac ?_;intro we hwe)
 have hbe:Below wd.heap.size wd we:=by rw [hwe];exact Qah
 have hTe:RdT we (some ⟨wd.heap.size+1+1,0,none⟩) 2 [[22,33],[1152921504606846976,0]]:=by
  have b0:Blk we wd.heap.size 2 (Qbu [22,33]):=by rw [hwe];exact Blk.alloc (Blk.alloc (Blk.new wd 2 (Qbu [22,33])) _) _
  have b1:Blk we (wd.heap.size+1) 2 (Qbu [1152921504606846976,0]):=by rw [hwe];exact Blk.alloc (Blk.new' _ 2 (Qbu [1152921504606846976,0]) (by simp)) _
  have b2:Blk we (wd.heap.size+1+1) 34 #[.slice (some ⟨wd.heap.size,0,none⟩) 2 2,.slice (some ⟨wd.heap.size+1,0,none⟩) 2 2]:=by rw [hwe];exact Blk.new' _ _ _ (by simp)
  refine ⟨rfl,fun i l hl=>?_⟩
  match i,hl with
  | 0,hl =>
   cases hl
   exact ⟨wd.heap.size+1+1,0,_,2,2,rfl,Zq b2,b0.rdI rfl,Zn _,by omega⟩
  | 1,hl =>
   cases hl
   exact ⟨wd.heap.size+1+1,0,_,2,2,rfl,Zq b2,b1.rdI rfl,Zn _,by omega⟩
  | k+2,hl=>simp at hl
 have HSC:=Qnv TA7 (some ⟨wd.heap.size+1+1,0,none⟩) 2 2 2 2 _ _ we (HTd.out.below hbe) hTe (by omega) (by omega) (by decide) (by decide);rw [decide_eq_true rfl] at HSC;clear hwe hTe;with_reducible refine HSC.mono ?_
 clear HSC;rintro r wf ⟨rfl,hbf⟩;have hbdf:=Zb hbe hbf;have HCf:=Zh (HCd.out.below hbdf);have HBf:=Zh (Zb HBd.out hbdf);clear hbe hbf hbdf HCd HBd HTd
 go_wp2_with fail
 with_reducible refine (Qvv (⟨#[116,111]⟩:ByteArray) 1 5 wf).mono ?_
 rintro r wg ⟨_,rfl,⟨A4,n4,m4,rfl,h4,h5⟩,hbg⟩;have HR4:=Zh h4;have HCg:=Zh (HCf.out.below hbg);have HBg:=Zh (Zb HB3.out (Zb HBf.out hbg));clear h4 hbg HCf HBf
 go_wp2_with fail
 with_reducible refine (Qjl (.iface tv xv) A4 n4 m4 [((⟨#[116,111]⟩:ByteArray),1)] 5 wg HCg.out HR4.out (by omega) (Zc HBg.out (Zn _) HG.out) (by omega)).mono ?_
 rintro r wh ⟨rfl,hbh⟩
 go_wp2_with fail
 go_ret
 exact ⟨rfl,Zb HBg.out hbh⟩
end Go.Proofs.YteaoiabikjnkeaaGreatDoor
