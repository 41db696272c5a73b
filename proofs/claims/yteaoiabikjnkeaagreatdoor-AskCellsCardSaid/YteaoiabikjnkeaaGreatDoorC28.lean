/- Parts of the proof: As, Tl, Ak. -/
import Derived.Test.YteaoiabikjnkeaaGreatDoorC1
import Derived.Test.YteaoiabikjnkeaaGreatDoorC23
import Derived.Test.YteaoiabikjnkeaaGreatDoorC26
import Derived.Test.YteaoiabikjnkeaaGreatDoorC27
import Derived.Deep.RegionHeld3
import Derived.Deep.DrawnRows
namespace Go.Proofs.YteaoiabikjnkeaaGreatDoor
open Go.RowKit Go.Extern.Stop Go.Stop Go.Extern Go.Proofs.Tryz
theorem Qrf (z:Sem Value)(f:TypeId→Addr→Nat→Nat→Sem Value)(v:Value) :
 ReflectliteValue.method z f #[v]=(do match ←ReflectliteValue.parts v with|none=>z|some (t,a,fl)=>f t a fl (fl % 32)):=rfl
theorem as_rls (v x:Value):ReflectliteValue.set #[v,x]=(do
 let (some (dst,a,fl),some (src,b,_)):=(←ReflectliteValue.parts v,←ReflectliteValue.parts x)
  | unsupported (.noEntry "extern/(internal/reflectlite.Value).Set.zeroValue")
 if fl / ReflectliteValue.flagAddr % 2 == 0 then unsupported (.noEntry "extern/(internal/reflectlite.Value).Set.unaddressable")
 let val ←loadVar src b
 if ←Rtype.directlyAssignable dst src then storeVar dst a val
 else if ←Rtype.implements dst src then
  if (←Rtype.kind src) == 20 then
   match val with
   | .nilIface => unsupported (.noEntry "extern/reflectlite: a nil value of one interface type handed on as a value of another")
   | _=>storeVar dst a val
  else storeVar dst a (.iface src val)
 else panicString ("reflectlite.Set: value of type " ++ (← Rtype.spelt src) ++ " is not assignable to type " ++ (← Rtype.spelt dst))
 pure (.tuple #[])):=rfl
theorem Qlt (h : Value) (w : World) : (Go.method 497 300 (.agg #[h]) "Kind").run Tryz.prog w = .ok (257, h) w := by kernel_rfl
theorem Qmd (h : Value) (w : World) : (Go.method 497 300 (.agg #[h]) "Elem").run Tryz.prog w = .ok (269, .agg #[h]) w := by kernel_rfl
theorem Qei (h : Value) (w : World) : (Go.method 497 300 (.agg #[h]) "Implements").run Tryz.prog w = .ok (270, .agg #[h]) w := by kernel_rfl
theorem Qdm (h : Value) (w : World) : (Go.method 497 300 (.agg #[h]) "AssignableTo").run Tryz.prog w = .ok (267, .agg #[h]) w := by kernel_rfl
def Qmt:Value:=.iface 300 (.agg #[.pointer (some ⟨1,43,none⟩)])
abbrev rty (t:Nat):Value:=.agg #[.pointer (some ⟨1,t,none⟩)]
abbrev rtv (t:Nat):Value:=.iface 300 (rty t)
abbrev rvl (t:Nat) (a:Addr) (f:Int):Value:=.agg #[.pointer (some ⟨1,t,none⟩),.pointer (some a),.int .u64 f]
abbrev asW (t:Addr) (p:Nat) (w:World):World:=((w.alloc (.cells #[.pointer (some t)] p)).alloc (.cells #[.pointer (some ⟨1,p,none⟩),.pointer (some ⟨w.heap.size,0,none⟩),.int .u64 150] 236))
abbrev asX (t:Addr) (p:Nat) (w:World):World:=(asW t p w).alloc (.cells #[.pointer (some ⟨1,p,none⟩),.pointer (some ⟨w.heap.size,0,none⟩),.int .u64 150] 236)
/-! ### at **api.Fault -/
theorem Qih (t:Addr)(w:World):(ReflectliteValue.unpack (.iface 145 (.pointer (some t)))).run prog w=.ok (rvl 145 ⟨w.heap.size,0,none⟩ 150) (w.alloc (.cells #[.pointer (some t)] 145)):=by kernel_rfl
theorem Qns (a : Addr) (w : World) : (ReflectliteValue.methodAny (ReflectliteValue.valueError "reflectlite.Value.Type" 0) (fun t _ _ _ => ReflectliteType.toType t) #[rvl 145 a 150]).run Tryz.prog w = .ok (rtv 145) w := by kernel_rfl
theorem Qmz (w:World):((ReflectliteType.abiMethod fun t=>(fun a:Nat=>Value.int IntKind.u8 (a:Int)) <$> Rtype.kind t) #[.pointer (some ⟨1,145,none⟩)]).run prog w=.ok (.int .u8 22) w:=by kernel_rfl
theorem Qrr (w:World):((ReflectliteType.abiMethod fun t=>(fun a:Nat=>Value.int IntKind.u8 (a:Int)) <$> Rtype.kind t) #[.pointer (some ⟨1,143,none⟩)]).run prog w=.ok (.int .u8 22) w:=by kernel_rfl
theorem Qlj (a:Addr)(w:World):(ReflectliteValue.parts (rvl 145 a 150)).run prog w=.ok (some (145,a,150)) w:=by kernel_rfl
theorem Qnq (a p:Addr)(W:World) (ha:W.cell? a=some (.pointer (some p))) :
 (ReflectliteValue.method (ReflectliteValue.valueError "reflectlite.Value.IsNil" 0) ReflectliteValue.isNil #[rvl 145 a 150]).run Tryz.prog W = .ok (.bool false) W := by
 rw [Qrf];simp only [Sem.run_bind,Qlj,Result.andThen];simp [ReflectliteValue.isNil,loadVar,isAgg,underlying,underlying145,ha,Result.andThen]
theorem Qrx (w:World):(ReflectliteType.method ReflectliteType.elem #[rty 145]).run prog w=.ok (rtv 143) w:=by kernel_rfl
theorem Qgl (w : World) : (ReflectliteType.relation "Implements" ReflectliteType.implements_ #[rty 143, Qmt]).run Tryz.prog w = .ok (.bool true) w := by kernel_rfl
theorem Qud (w:World):(Rtype.elem? 145).run prog w=.ok (some 143) w:=by kernel_rfl
theorem as_mkF (p:Addr)(w:World):(ReflectliteValue.mk 143 p ReflectliteValue.flagAddr).run prog w=.ok (rvl 143 p 406) w:=by kernel_rfl
theorem Qus (a p:Addr)(W:World) (ha:W.cell? a=some (.pointer (some p))) :
 (ReflectliteValue.method (ReflectliteValue.valueError "reflectlite.Value.Elem" 0) ReflectliteValue.elem #[rvl 145 a 150]).run Tryz.prog W = .ok (rvl 143 p 406) W := by
 rw [Qrf];simp only [Sem.run_bind,Qlj,Result.andThen];simp [ReflectliteValue.elem,loadVar,isAgg,underlying,underlying145,ha,Result.andThen,Qud,as_mkF]
theorem Qtu (v:Value)(w:World):(ReflectliteType.typeOf #[.iface 143 v]).run prog w=.ok (rtv 143) w:=by kernel_rfl
theorem Qkq (w : World) : (ReflectliteType.relation "AssignableTo" ReflectliteType.assignableTo #[rty 143, rtv 143]).run Tryz.prog w = .ok (.bool true) w := by kernel_rfl
theorem Qpj (e:Addr)(w:World):(ReflectliteValue.unpack (.iface 143 (.pointer (some e)))).run prog w=.ok (rvl 143 ⟨w.heap.size,0,none⟩ 150) (w.alloc (.cells #[.pointer (some e)] 143)):=by kernel_rfl
theorem Qte (a:Addr)(w:World):(ReflectliteValue.parts (rvl 143 a 406)).run prog w=.ok (some (143,a,406)) w:=by kernel_rfl
theorem Qwn (a:Addr)(w:World):(ReflectliteValue.parts (rvl 143 a 150)).run prog w=.ok (some (143,a,150)) w:=by kernel_rfl
theorem Quk (w:World):(Rtype.directlyAssignable 143 143).run prog w=.ok true w:=by kernel_rfl
theorem as_setF (ta b:Addr)(e:Addr)(old:Value)(W:World) (hb:W.cell? b=some (.pointer (some e))) (ht:W.cell? ta=some old) (hf:W.frozen? ta=false) :
 (ReflectliteValue.set #[rvl 143 ta 406,rvl 143 b 150]).run prog W=.ok (.tuple #[]) (W.setCell ta (.pointer (some e))):=by
 rw [as_rls];simp only [Sem.run_bind,Qte,Qwn,Result.andThen];simp [ReflectliteValue.flagAddr,loadVar,isAgg,underlying,underlying143,hb,Result.andThen,Quk,storeVar,Value.cells,storeCells,Addr.add];rw [run_store prog W ta _ _ (by rfl)];simp [ht,hf]
/-! ### at *api.Errno -/
theorem Qnd (t:Addr)(w:World):(ReflectliteValue.unpack (.iface 150 (.pointer (some t)))).run prog w=.ok (rvl 150 ⟨w.heap.size,0,none⟩ 150) (w.alloc (.cells #[.pointer (some t)] 150)):=by kernel_rfl
theorem Qvf (a : Addr) (w : World) : (ReflectliteValue.methodAny (ReflectliteValue.valueError "reflectlite.Value.Type" 0) (fun t _ _ _ => ReflectliteType.toType t) #[rvl 150 a 150]).run Tryz.prog w = .ok (rtv 150) w := by kernel_rfl
theorem Qxw (w:World):((ReflectliteType.abiMethod fun t=>(fun a:Nat=>Value.int IntKind.u8 (a:Int)) <$> Rtype.kind t) #[.pointer (some ⟨1,150,none⟩)]).run prog w=.ok (.int .u8 22) w:=by kernel_rfl
theorem as_kindE (w:World):((ReflectliteType.abiMethod fun t=>(fun a:Nat=>Value.int IntKind.u8 (a:Int)) <$> Rtype.kind t) #[.pointer (some ⟨1,142,none⟩)]).run prog w=.ok (.int .u8 2) w:=by kernel_rfl
theorem Qku (a:Addr)(w:World):(ReflectliteValue.parts (rvl 150 a 150)).run prog w=.ok (some (150,a,150)) w:=by kernel_rfl
theorem Qxr (a p:Addr)(W:World) (ha:W.cell? a=some (.pointer (some p))) :
 (ReflectliteValue.method (ReflectliteValue.valueError "reflectlite.Value.IsNil" 0) ReflectliteValue.isNil #[rvl 150 a 150]).run Tryz.prog W = .ok (.bool false) W := by
 rw [Qrf];simp only [Sem.run_bind,Qku,Result.andThen];simp [ReflectliteValue.isNil,loadVar,isAgg,underlying,underlying150,ha,Result.andThen]
theorem as_elemE (w:World):(ReflectliteType.method ReflectliteType.elem #[rty 150]).run prog w=.ok (rtv 142) w:=by kernel_rfl
theorem Qkk (w : World) : (ReflectliteType.relation "Implements" ReflectliteType.implements_ #[rty 142, Qmt]).run Tryz.prog w = .ok (.bool true) w := by kernel_rfl
theorem Qtb (w:World):(Rtype.elem? 150).run prog w=.ok (some 142) w:=by kernel_rfl
theorem as_mkE (p:Addr)(w:World):(ReflectliteValue.mk 142 p ReflectliteValue.flagAddr).run prog w=.ok (rvl 142 p 386) w:=by kernel_rfl
theorem Qwf (a p:Addr)(W:World) (ha:W.cell? a=some (.pointer (some p))) :
 (ReflectliteValue.method (ReflectliteValue.valueError "reflectlite.Value.Elem" 0) ReflectliteValue.elem #[rvl 150 a 150]).run Tryz.prog W = .ok (rvl 142 p 386) W := by
 rw [Qrf];simp only [Sem.run_bind,Qku,Result.andThen];simp [ReflectliteValue.elem,loadVar,isAgg,underlying,underlying150,ha,Result.andThen,Qtb,as_mkE]
theorem Qky (v:Value)(w:World):(ReflectliteType.typeOf #[.iface 142 v]).run prog w=.ok (rtv 142) w:=by kernel_rfl
theorem Qkm (w : World) : (ReflectliteType.relation "AssignableTo" ReflectliteType.assignableTo #[rty 142, rtv 142]).run Tryz.prog w = .ok (.bool true) w := by kernel_rfl
theorem Qqi (c:Int)(w:World):(ReflectliteValue.unpack (.iface 142 (.int .i64 c))).run prog w=.ok (rvl 142 ⟨w.heap.size,0,none⟩ 130) (w.alloc (.cells #[.int .i64 c] 142)):=by kernel_rfl
theorem Quh (a:Addr)(w:World):(ReflectliteValue.parts (rvl 142 a 386)).run prog w=.ok (some (142,a,386)) w:=by kernel_rfl
theorem Qxo (a:Addr)(w:World):(ReflectliteValue.parts (rvl 142 a 130)).run prog w=.ok (some (142,a,130)) w:=by kernel_rfl
theorem Qty (w:World):(Rtype.directlyAssignable 142 142).run prog w=.ok true w:=by kernel_rfl
theorem as_setE (ta b:Addr)(c:Int)(old:Value)(W:World) (hb:W.cell? b=some (.int .i64 c)) (ht:W.cell? ta=some old) (hf:W.frozen? ta=false) :
 (ReflectliteValue.set #[rvl 142 ta 386,rvl 142 b 130]).run prog W=.ok (.tuple #[]) (W.setCell ta (.int .i64 c)):=by
 rw [as_rls];simp only [Sem.run_bind,Quh,Qxo,Result.andThen];simp [ReflectliteValue.flagAddr,loadVar,isAgg,underlying,underlying142,hb,Result.andThen,Qty,storeVar,Value.cells,storeCells,Addr.add];rw [run_store prog W ta _ _ (by rfl)];simp [ht,hf]
set_option maxHeartbeats 4000000 in
theorem as_hitF (e:Addr)(t:Addr)(old:Value)(w:World)(hg:w.cell? ⟨0,0,none⟩=some Qmt)(ht0:w.cell? t=some old)(hf0:w.frozen? t=false) :
 Calls prog 66 #[.iface 143 (.pointer (some e)),.iface 145 (.pointer (some t))] w fun ev w'=>ev=.returned (.bool true)∧w'=((asX t 145 w).alloc (.cells #[.pointer (some e)] 143)).setCell t (.pointer (some e)):=by
 have h6:=@run_callFunc_extern prog 129 _ (fun args=>ReflectliteValue.unpack (args.getD 0 (.tuple #[]))) func129 (by kernel_rfl) (by kernel_rfl) (by kernel_rfl) (by kernel_rfl)
 have h7 := @run_callFunc_extern Tryz.prog 130 _ (ReflectliteValue.methodAny (ReflectliteValue.valueError "reflectlite.Value.Type" 0) (fun t _ _ _ => ReflectliteType.toType t)) Tryz.func130 (by kernel_rfl) (by kernel_rfl) (by kernel_rfl) (by kernel_rfl)
 have h8 := @run_callFunc_extern Tryz.prog 131 _ (ReflectliteValue.method (ReflectliteValue.valueError "reflectlite.Value.IsNil" 0) ReflectliteValue.isNil) Tryz.func131 (by kernel_rfl) (by kernel_rfl) (by kernel_rfl) (by kernel_rfl)
 have h27:=@run_callFunc_extern prog 257 _ (ReflectliteType.abiMethod fun t=>do pure (.int .u8 (←Rtype.kind t))) func257 (by kernel_rfl) (by kernel_rfl) (by kernel_rfl) (by kernel_rfl);have h37:=@run_callFunc_extern prog 269 _ (ReflectliteType.method ReflectliteType.elem) func269 (by kernel_rfl) (by kernel_rfl) (by kernel_rfl) (by kernel_rfl)
 have h38 := @run_callFunc_extern Tryz.prog 270 _ (ReflectliteType.relation "Implements" ReflectliteType.implements_) Tryz.func270 (by kernel_rfl) (by kernel_rfl) (by kernel_rfl) (by kernel_rfl)
 have h10:=@run_callFunc_extern prog 127 _ ReflectliteType.typeOf func127 (by kernel_rfl) (by kernel_rfl) (by kernel_rfl) (by kernel_rfl)
 have h35 := @run_callFunc_extern Tryz.prog 267 _ (ReflectliteType.relation "AssignableTo" ReflectliteType.assignableTo) Tryz.func267 (by kernel_rfl) (by kernel_rfl) (by kernel_rfl) (by kernel_rfl)
 have h11 := @run_callFunc_extern Tryz.prog 178 _ (ReflectliteValue.method (ReflectliteValue.valueError "reflectlite.Value.Elem" 0) ReflectliteValue.elem) Tryz.func178 (by kernel_rfl) (by kernel_rfl) (by kernel_rfl) (by kernel_rfl)
 have h12:=@run_callFunc_extern prog 179 _ ReflectliteValue.set func179 (by kernel_rfl) (by kernel_rfl) (by kernel_rfl) (by kernel_rfl);have mA:=Qdm;have mK:=Qlt;have mE:=Qmd;have mI:=Qei;have tO:=Qtu;have aS:=Qkq;have vO:=Qpj;have f6:=Qih;have f7:=Qns;have kP:=Qmz;have kE:=Qrr;have eL:=Qrx;have iM:=Qgl;have n8:=Qnq ⟨w.heap.size,0,none⟩ t (asW t 145 w) (by simp);have hlt:0<w.heap.size:=Qal hg
 have htl:t.block<w.heap.size:=Qal ht0
 have hg2:(asW t 145 w).cell? ⟨0,0,none⟩=some Qmt:=by
  rw [World.cell?_alloc_lt _ _ ⟨0,0,none⟩ (by simp),World.cell?_alloc_lt _ _ ⟨0,0,none⟩ hlt];exact hg
 have el:=Qus ⟨w.heap.size,0,none⟩ t (asX t 145 w) (by rw [World.cell?_alloc_lt _ _ ⟨w.heap.size,0,none⟩ (by simp;omega)];simp)
 have st:=as_setF t ⟨w.heap.size+1+1+1,0,none⟩ e old ((asX t 145 w).alloc (.cells #[.pointer (some e)] 143))
  (by rw [World.cell?_alloc_at _ _ _ _ (by simp)];rfl)
  (by rw [World.cell?_alloc_lt _ _ t (by simp;omega),World.cell?_alloc_lt _ _ t (by simp;omega),World.cell?_alloc_lt _ _ t (by simp;omega),World.cell?_alloc_lt _ _ t htl];exact ht0)
  (by rw [World.frozen?_alloc_old _ _ t (by simp;omega),World.frozen?_alloc_old _ _ t (by simp;omega),World.frozen?_alloc_old _ _ t (by simp;omega),World.frozen?_alloc_old _ _ t (Nat.ne_of_lt htl)];exact hf0)
 go_enter func66,ntmps66
 go_wp2
 refine wp_loop_rounds 1 ?_;rw [rounds_succ]
 go_wp2
 go_ret
 exact ⟨rfl,rfl⟩
set_option maxHeartbeats 4000000 in
theorem as_hitE (c:Int)(t:Addr)(old:Value)(w:World)(hg:w.cell? ⟨0,0,none⟩=some Qmt)(ht0:w.cell? t=some old)(hf0:w.frozen? t=false) :
 Calls prog 66 #[.iface 142 (.int .i64 c),.iface 150 (.pointer (some t))] w fun ev w'=>ev=.returned (.bool true)∧w'=((asX t 150 w).alloc (.cells #[.int .i64 c] 142)).setCell t (.int .i64 c):=by
 have h6:=@run_callFunc_extern prog 129 _ (fun args=>ReflectliteValue.unpack (args.getD 0 (.tuple #[]))) func129 (by kernel_rfl) (by kernel_rfl) (by kernel_rfl) (by kernel_rfl)
 have h7 := @run_callFunc_extern Tryz.prog 130 _ (ReflectliteValue.methodAny (ReflectliteValue.valueError "reflectlite.Value.Type" 0) (fun t _ _ _ => ReflectliteType.toType t)) Tryz.func130 (by kernel_rfl) (by kernel_rfl) (by kernel_rfl) (by kernel_rfl)
 have h8 := @run_callFunc_extern Tryz.prog 131 _ (ReflectliteValue.method (ReflectliteValue.valueError "reflectlite.Value.IsNil" 0) ReflectliteValue.isNil) Tryz.func131 (by kernel_rfl) (by kernel_rfl) (by kernel_rfl) (by kernel_rfl)
 have h27:=@run_callFunc_extern prog 257 _ (ReflectliteType.abiMethod fun t=>do pure (.int .u8 (←Rtype.kind t))) func257 (by kernel_rfl) (by kernel_rfl) (by kernel_rfl) (by kernel_rfl);have h37:=@run_callFunc_extern prog 269 _ (ReflectliteType.method ReflectliteType.elem) func269 (by kernel_rfl) (by kernel_rfl) (by kernel_rfl) (by kernel_rfl)
 have h38 := @run_callFunc_extern Tryz.prog 270 _ (ReflectliteType.relation "Implements" ReflectliteType.implements_) Tryz.func270 (by kernel_rfl) (by kernel_rfl) (by kernel_rfl) (by kernel_rfl)
 have h10:=@run_callFunc_extern prog 127 _ ReflectliteType.typeOf func127 (by kernel_rfl) (by kernel_rfl) (by kernel_rfl) (by kernel_rfl)
 have h35 := @run_callFunc_extern Tryz.prog 267 _ (ReflectliteType.relation "AssignableTo" ReflectliteType.assignableTo) Tryz.func267 (by kernel_rfl) (by kernel_rfl) (by kernel_rfl) (by kernel_rfl)
 have h11 := @run_callFunc_extern Tryz.prog 178 _ (ReflectliteValue.method (ReflectliteValue.valueError "reflectlite.Value.Elem" 0) ReflectliteValue.elem) Tryz.func178 (by kernel_rfl) (by kernel_rfl) (by kernel_rfl) (by kernel_rfl)
 have h12:=@run_callFunc_extern prog 179 _ ReflectliteValue.set func179 (by kernel_rfl) (by kernel_rfl) (by kernel_rfl) (by kernel_rfl);have mA:=Qdm;have mK:=Qlt;have mE:=Qmd;have mI:=Qei;have tO:=Qky;have aS:=Qkm;have vO:=Qqi;have f6:=Qnd;have f7:=Qvf;have kP:=Qxw;have kE:=as_kindE;have eL:=as_elemE;have iM:=Qkk;have n8:=Qxr ⟨w.heap.size,0,none⟩ t (asW t 150 w) (by simp);have hlt:0<w.heap.size:=Qal hg
 have htl:t.block<w.heap.size:=Qal ht0
 have hg2:(asW t 150 w).cell? ⟨0,0,none⟩=some Qmt:=by
  rw [World.cell?_alloc_lt _ _ ⟨0,0,none⟩ (by simp),World.cell?_alloc_lt _ _ ⟨0,0,none⟩ hlt];exact hg
 have el:=Qwf ⟨w.heap.size,0,none⟩ t (asX t 150 w) (by rw [World.cell?_alloc_lt _ _ ⟨w.heap.size,0,none⟩ (by simp;omega)];simp)
 have st:=as_setE t ⟨w.heap.size+1+1+1,0,none⟩ c old ((asX t 150 w).alloc (.cells #[.int .i64 c] 142))
  (by rw [World.cell?_alloc_at _ _ _ _ (by simp)];rfl)
  (by rw [World.cell?_alloc_lt _ _ t (by simp;omega),World.cell?_alloc_lt _ _ t (by simp;omega),World.cell?_alloc_lt _ _ t (by simp;omega),World.cell?_alloc_lt _ _ t htl];exact ht0)
  (by rw [World.frozen?_alloc_old _ _ t (by simp;omega),World.frozen?_alloc_old _ _ t (by simp;omega),World.frozen?_alloc_old _ _ t (by simp;omega),World.frozen?_alloc_old _ _ t (Nat.ne_of_lt htl)];exact hf0)
 go_enter func66,ntmps66
 go_wp2
 refine wp_loop_rounds 1 ?_;rw [rounds_succ]
 go_wp2
 go_ret
 exact ⟨rfl,rfl⟩
theorem Qkp (w : World) : (ReflectliteType.relation "AssignableTo" ReflectliteType.assignableTo #[rty 142, rtv 143]).run Tryz.prog w = .ok (.bool false) w := by kernel_rfl
set_option maxHeartbeats 4000000 in
theorem as_miss (c:Int)(t:Addr)(w:World)(hg:w.cell? ⟨0,0,none⟩=some Qmt) :
 Calls prog 66 #[Qpa c,.iface 145 (.pointer (some t))] w fun ev w'=>ev=.returned (.bool false)∧w'=asX t 145 w:=by
 have h6:=@run_callFunc_extern prog 129 _ (fun args=>ReflectliteValue.unpack (args.getD 0 (.tuple #[]))) func129 (by kernel_rfl) (by kernel_rfl) (by kernel_rfl) (by kernel_rfl)
 have h7 := @run_callFunc_extern Tryz.prog 130 _ (ReflectliteValue.methodAny (ReflectliteValue.valueError "reflectlite.Value.Type" 0) (fun t _ _ _ => ReflectliteType.toType t)) Tryz.func130 (by kernel_rfl) (by kernel_rfl) (by kernel_rfl) (by kernel_rfl)
 have h8 := @run_callFunc_extern Tryz.prog 131 _ (ReflectliteValue.method (ReflectliteValue.valueError "reflectlite.Value.IsNil" 0) ReflectliteValue.isNil) Tryz.func131 (by kernel_rfl) (by kernel_rfl) (by kernel_rfl) (by kernel_rfl)
 have h27:=@run_callFunc_extern prog 257 _ (ReflectliteType.abiMethod fun t=>do pure (.int .u8 (←Rtype.kind t))) func257 (by kernel_rfl) (by kernel_rfl) (by kernel_rfl) (by kernel_rfl);have h37:=@run_callFunc_extern prog 269 _ (ReflectliteType.method ReflectliteType.elem) func269 (by kernel_rfl) (by kernel_rfl) (by kernel_rfl) (by kernel_rfl)
 have h38 := @run_callFunc_extern Tryz.prog 270 _ (ReflectliteType.relation "Implements" ReflectliteType.implements_) Tryz.func270 (by kernel_rfl) (by kernel_rfl) (by kernel_rfl) (by kernel_rfl)
 have h10:=@run_callFunc_extern prog 127 _ ReflectliteType.typeOf func127 (by kernel_rfl) (by kernel_rfl) (by kernel_rfl) (by kernel_rfl)
 have h35 := @run_callFunc_extern Tryz.prog 267 _ (ReflectliteType.relation "AssignableTo" ReflectliteType.assignableTo) Tryz.func267 (by kernel_rfl) (by kernel_rfl) (by kernel_rfl) (by kernel_rfl)
 have h11 := @run_callFunc_extern Tryz.prog 178 _ (ReflectliteValue.method (ReflectliteValue.valueError "reflectlite.Value.Elem" 0) ReflectliteValue.elem) Tryz.func178 (by kernel_rfl) (by kernel_rfl) (by kernel_rfl) (by kernel_rfl)
 have h12:=@run_callFunc_extern prog 179 _ ReflectliteValue.set func179 (by kernel_rfl) (by kernel_rfl) (by kernel_rfl) (by kernel_rfl);have mA:=Qdm;have mK:=Qlt;have mE:=Qmd;have mI:=Qei;have tO:=Qky;have aS:=Qkp;have f6:=Qih;have f7:=Qns;have kP:=Qmz;have kE:=Qrr;have eL:=Qrx;have iM:=Qgl;have nA:=er_noAs;have nU:=Qpe;have nV:=Qnh;have n8:=Qnq ⟨w.heap.size,0,none⟩ t (asW t 145 w) (by simp);have hlt:0<w.heap.size:=Qal hg
 have hg2:(asW t 145 w).cell? ⟨0,0,none⟩=some Qmt:=by
  rw [World.cell?_alloc_lt _ _ ⟨0,0,none⟩ (by simp),World.cell?_alloc_lt _ _ ⟨0,0,none⟩ hlt];exact hg
 go_enter func66,ntmps66
 go_wp2
 refine wp_loop_rounds 1 ?_;rw [rounds_succ]
 go_wp2
 go_ret
 exact ⟨rfl,rfl⟩
end Go.Proofs.YteaoiabikjnkeaaGreatDoor
namespace Go.Proofs.YteaoiabikjnkeaaGreatDoor
open Go.RowKit Go.Extern.Stop Go.Stop Go.Extern Go.Proofs.Tryz
theorem Qdw (t:Addr)(p:Nat)(w:World):Below w.heap.size w (asX t p w):=Qah
theorem as_fault (b o g:Nat)(old:Value)(w:World)(hg:w.cell? ⟨0,0,none⟩=some Qmt)(ht0:w.cell? ⟨g,0,none⟩=some old)(hf0:w.frozen? ⟨g,0,none⟩=false) :
 Calls prog 66 #[fltV b o,.iface 145 (.pointer (some ⟨g,0,none⟩))] w fun ev w'=>ev=.returned (.bool true)∧w'.cell? ⟨g,0,none⟩=some (.pointer (some ⟨b,o,none⟩))∧Below g w w' :=
 (as_hitF ⟨b,o,none⟩ ⟨g,0,none⟩ old w hg ht0 hf0).mono fun e w' ⟨he,hw⟩=>by
  have hlt:=Qal ht0;have hb:Below g w (asX ⟨g,0,none⟩ 145 w):=(Qdw _ _ w).mono (Nat.le_of_lt hlt);have hb2:Below g w ((asX ⟨g,0,none⟩ 145 w).alloc (.cells #[.pointer (some ⟨b,o,none⟩)] 143)):=hb.alloc (Nat.le_trans (Nat.le_of_lt hlt) (Qdw _ _ w).size) _;refine ⟨he,?_,?_⟩
  · rw [hw]
    have hc:((asX ⟨g,0,none⟩ 145 w).alloc (.cells #[.pointer (some ⟨b,o,none⟩)] 143)).cell? ⟨g,0,none⟩=some old :=
     Zc (Bel.alloc (Qdw ⟨g,0,none⟩ 145 w)) (Zn _) ht0
    exact World.cell?_setCell_same _ _ _ hc
  · rw [hw];exact hb2.setCell (Zn _) _
theorem as_errno (c:Int)(g:Nat)(old:Value)(w:World)(hg:w.cell? ⟨0,0,none⟩=some Qmt)(ht0:w.cell? ⟨g,0,none⟩=some old)(hf0:w.frozen? ⟨g,0,none⟩=false) :
 Calls prog 66 #[Qpa c,.iface 150 (.pointer (some ⟨g,0,none⟩))] w fun ev w'=>ev=.returned (.bool true)∧w'.cell? ⟨g,0,none⟩=some (.int .i64 c)∧Below g w w' :=
 (as_hitE c ⟨g,0,none⟩ old w hg ht0 hf0).mono fun e w' ⟨he,hw⟩=>by
  have hlt:=Qal ht0;have hb:Below g w (asX ⟨g,0,none⟩ 150 w):=(Qdw _ _ w).mono (Nat.le_of_lt hlt);have hb2:Below g w ((asX ⟨g,0,none⟩ 150 w).alloc (.cells #[.int .i64 c] 142)):=hb.alloc (Nat.le_trans (Nat.le_of_lt hlt) (Qdw _ _ w).size) _;refine ⟨he,?_,?_⟩
  · rw [hw]
    have hc:((asX ⟨g,0,none⟩ 150 w).alloc (.cells #[.int .i64 c] 142)).cell? ⟨g,0,none⟩=some old :=
     Zc (Bel.alloc (Qdw ⟨g,0,none⟩ 150 w)) (Zn _) ht0
    exact World.cell?_setCell_same _ _ _ hc
  · rw [hw];exact hb2.setCell (Zn _) _
theorem as_none (c:Int)(g:Nat)(w:World)(hg:w.cell? ⟨0,0,none⟩=some Qmt) :
 Calls prog 66 #[Qpa c,.iface 145 (.pointer (some ⟨g,0,none⟩))] w fun ev w'=>ev=.returned (.bool false)∧Below w.heap.size w w' :=
 (as_miss c ⟨g,0,none⟩ w hg).mono fun e w' ⟨he,hw⟩=>⟨he,by rw [hw];exact Qdw _ _ w⟩
theorem Qtx {w:World}{v:Value} {ps:List (ByteArray×Int)} {c:Int} {k:Nat} {p:ByteArray×Int} (hk:ps[k]?=some p) (h:Qcs w v (ps.drop k) c) :
 ∃ b o u,v=fltV b o∧w.cell? ⟨b,o,none⟩=some (.string p.1)∧w.cell? ⟨b,o+1,none⟩=some (.int .i64 p.2)∧w.cell? ⟨b,o+2,none⟩=some u∧Qcs w u (ps.drop (k+1)) c:=by
 have hlt:=(Zs hk).1;rw [List.drop_eq_getElem_cons hlt] at h;have e:ps[k]=p:=(Zs hk).2;rw [e] at h;exact h
attribute [local go_sem ↓] Go.wp_at_zero Go.wp_at_succ
set_option maxHeartbeats 4000000 in
theorem Qwt (v:Value)(A:Option Addr)(n c:Nat) (ps:List (ByteArray×Int)) (c0:Int) (w:World) (h:Qcs w v ps c0) (hr:RdW w A n ps) (hc0:c0≠0) (hg:w.cell? ⟨0,0,none⟩=some Qmt) (hn:n≤4000000000000000000) :
 Calls prog 21 #[v,.agg #[.slice A n c,.int .i64 c0]] w fun e w'=>e=.returned (.bool true)∧Below w.heap.size w w':=by
 have HI:∀ (W:World),Below w.heap.size w W→Calls prog 65 #[v,Qpa c0] W fun e w'=>e=.returned (.bool true)∧w'=W:=fun W hb=>errorsIs v ps c0 W (Qcs.below hb h)
 have HI':=Zh HI;clear HI;obtain ⟨tvv,xv,hv⟩:=Qck h;have hlt0:=Qal hg;have HC:=Zh hc0;have HCH:=Zh h;subst hv;clear h
 go_enter func21,ntmps21
 go_wp2_with fail
 with_reducible refine (HI'.out _ Qah).mono ?_
 rintro e w' ⟨rfl,rfl⟩;clear HI'
 go_wp2_with fail
 (refine Qaj ?_;intro w1 hw1)
 have hb1:Below w.heap.size w w1:=by rw [hw1];exact Qah
 have hx0:w1.cell? ⟨w.heap.size,0,none⟩=some (.slice A n c):=by rw [hw1];simp
 have hx1:w1.cell? ⟨w.heap.size,1,none⟩=some (.int .i64 c0):=by rw [hw1];simp
 have hg1:w1.cell? ⟨0,0,none⟩=some Qmt:=Zc hb1 (Zn _) hg;have hr1:=hr.below hb1;have hch:=Qcs.below hb1 HCH.out;have HCH1:=Zh hch;clear hch HCH hr hw1 hg
 go_loopw [0,5] (fun u i W=>∃ (k:Nat),k≤n∧i=.int .i64 k∧Qcs W u (ps.drop k) c0∧Below w1.heap.size w1 W) (fun _ i _=>n-(intOf i).toNat)
 case atStart=>exact ⟨0,Nat.zero_le _,rfl,HCH1.out,Zr _ _⟩
 case round =>
  obtain ⟨k,hk,rfl,hch,hbl⟩:=hrel;have y0:=Zc hbl (Zn _) hx0
  by_cases hlt:k<n
  · have hlen:=hr1.1
    obtain ⟨p,hp⟩:∃ p,ps[k]?=some p:=⟨ps[k],Zg (by omega)⟩;obtain ⟨pb,po,rfl,hp1,hp2⟩:=hr1.2 k p hp;obtain ⟨b,o,u,rfl,hc1,hc2,hc3,hc4⟩:=Qtx hp hch;obtain ⟨tu,xu,hu⟩:=Qck hc4;have HP:=Zh hp;have H4:=Zh hc4;have z:=hbl.size;clear hp hch hlen hc4;subst hu;obtain ⟨s,q0⟩:=p
    go_wp2_with fail
    (refine Qaj ?_;intro W5 hW5)
    have hb5:Below w1.heap.size w1 W5:=by rw [hW5];exact Qah
    have hbr:Below wr.heap.size wr W5:=by rw [hW5];exact Qah
    have ht5:W5.cell? ⟨wr.heap.size,0,none⟩=some (.pointer none):=by rw [hW5];simp
    have hf5:W5.frozen? ⟨wr.heap.size,0,none⟩=false:=by rw [hW5];simp
    have hg5:=Zc hb5 (Zn _) hg1;have hz5:=Qal ht5
    have HA:∀ V,Below W5.heap.size W5 V→Calls prog 66 #[fltV b o,.iface 145 (.pointer (some ⟨wr.heap.size,0,none⟩))] V fun ev w'=>ev=.returned (.bool true)∧w'.cell? ⟨wr.heap.size,0,none⟩=some (.pointer (some ⟨b,o,none⟩))∧Below wr.heap.size W5 w':=fun V hV =>
     (as_fault b o wr.heap.size _ V (Zc hV (Zn _) hg5) (Zc hV (Zn _) ht5) ((Below.frozenOf hV hz5).trans hf5)).mono fun _ _ ⟨h1,h2,h3⟩=>⟨h1,h2,(hV.mono (Nat.le_of_lt hz5)).trans h3⟩
    have HA':=Zh HA;clear HA;clear hW5 hf5 hg5;refine wp_region_held_drew (S:=fun _=>True) (by kernel_rfl) trivial (fun _=>?_);refine tz 0 31 ?_;refine tz 1 32 ?_;refine Zk 2 (fun K hK=>?_);go_simp
    go_at_call 66
    with_reducible refine (HA'.out _ Qah).mono ?_
    rintro e w6 ⟨rfl,ht6,hb6⟩;have hb7:Below wr.heap.size wr w6:=hbr.trans hb6;have c6:=Zc hb7 (Zn _) hc1;have d6:=Zc hb7 (Zn _) hc2;have e6:=Zc hb7 (Zn _) hc3;have y6:=Zc hb7 (Zn _) y0;have p6:=Zc hb7 (Zn _) (Zc hbl (Zn _) hp1);have q6:=Zc hb7 (Zn _) (Zc hbl (Zn _) hp2)
    go_wp2_with fail
    refine hK.out _ _ trivial (fun _=>?_);clear hK K;refine Qjs (S':=fun V=>V=w6) (fun _ _=>trivial) _ _ _ _ ?_;have i1:(0:Int)≤(k:Int):=by omega
    have i2:(k:Int)<(n:Int):=by omega
    clear hc1 hc2 hc3 y0 hp1 hp2 HA' hx1 hb5 hbr ht5 hz5;refine tz 3 34 ?_;refine tz 4 35 ?_;refine tz 5 36 ?_;refine tz 6 37 ?_;refine tz 7 38 ?_;refine tz 8 39 ?_;refine tz 9 40 ?_;refine tz 10 41 ?_;refine tz 11 42 ?_;refine tz 12 43 ?_;refine tz 13 44 ?_;refine tz 14 45 ?_;refine tz 15 46 ?_;refine tz 16 47 ?_;refine tz 17 48 ?_;refine tz 18 49 ?_;refine tz 19 50 ?_;refine tz 20 51 ?_;refine tz 21 52 ?_;refine tz 22 53 ?_;refine tz 23 54 ?_;refine tz 24 55 ?_;refine tz 25 56 ?_;refine tz 26 57 ?_;refine tz 27 58 ?_;refine tz 28 59 ?_;refine tz 29 60 ?_;refine tz 30 61 ?_;refine tz 31 62 ?_;refine tz 32 63 ?_;refine tz 33 64 ?_;refine Zd ?_
    go_wp2_with fail
    exact ⟨⟨k+1,by omega,by go_num,Qcs.below hb7 H4.out,Zb hbl hb7⟩,by simp [intOf];omega⟩
  · obtain rfl:k=n:=by omega
    rw [List.drop_of_length_le (by have:=hr1.1;omega)] at hch;unfold Qcs at hch;subst hch;have x1:=Zc hbl (Zn _) hx1;have gr:=Zc hbl (Zn _) hg1;have z:=hbl.size;clear hx0 hr1 hx1
    go_wp2_with fail
    (refine Qad ?_;intro W5 hW5)
    have hbr:Below wr.heap.size wr W5:=by rw [hW5];exact Qah
    have ht5:W5.cell? ⟨wr.heap.size+1,0,none⟩=some (.int .i64 0):=by rw [hW5];simp
    have hf5:W5.frozen? ⟨wr.heap.size+1,0,none⟩=false:=by rw [hW5];simp
    have g5:=Zc hbr (Zn _) gr;have z5:=Qal ht5;clear hW5;with_reducible refine (as_none c0 wr.heap.size _ g5).mono ?_
    rintro e w6 ⟨rfl,hb6⟩;have hb56:=hbr.trans (hb6.mono hbr.size)
    go_wp2_with fail
    with_reducible refine (as_errno c0 (wr.heap.size+1) _ _ (Zc hb6 (Zn _) g5) (Zc hb6 (Zn _) ht5) ((Below.frozenOf hb6 z5).trans hf5)).mono ?_
    rintro e w7 ⟨rfl,ht7,hb7⟩;have hb8:Below wr.heap.size wr w7:=hb56.trans (hb7.mono (Nat.le_succ _));have x7:=Zc hb8 (Zn _) x1;clear hb6 hb7 hb56 ht5 hf5
    go_wp2_with fail
    go_ret
    exact ⟨rfl,Qah⟩
end Go.Proofs.YteaoiabikjnkeaaGreatDoor
namespace Go.Proofs.YteaoiabikjnkeaaGreatDoor
open Go.RowKit Go.Extern.Stop Go.Stop Go.Extern Go.Proofs.Tryz
attribute [local go_sem ↓] Go.wp_at_zero Go.wp_at_succ
def chM:List Qkz:=[(0,0,1),(1,1,3),(0,3,4)]
def chAt:Nat→Int|0=>0|1=>1|2=>3|_=>4
def chSm:Nat→Int|0=>0|1=>11|2=>33|_=>44
theorem Qmy (v a b:Int)(h:inR 6 v∧inR 6 a∧inR 6 b):lvI Qao.vs.length Qbd v a b=((Qfi Qbd v [a,b]:Nat):Int):=by unfold lvI;exact if_pos h
theorem ch_hopsP:HopsP Qao Qbd 0 4 chM chAt chSm 44:=by
 refine ⟨by decide,rfl,rfl,rfl,rfl,fun i x1 x2 x3 hx=>?_⟩
 match i,hx with
 | 0,hx =>
  cases hx
  refine ⟨rfl,by decide,by decide,rfl,?_,⟨by decide,by decide⟩,fun v hv=>?_⟩
  · rw [Qgj 0 (by omega),Qqa,Qmy _ _ _ ⟨⟨by decide,by decide⟩,⟨by decide,by decide⟩,by decide,by decide⟩,Qjg (x:=((0:Nat):Int)+1) (by simp) rfl]
  · obtain rfl:=Qww (a:=0) (by omega) hv
    exact ⟨⟨by decide,by decide⟩,by decide⟩
 | 1,hx =>
  cases hx
  refine ⟨rfl,by decide,by decide,rfl,?_,⟨by decide,by decide⟩,fun v hv=>?_⟩
  · rw [Qgj 1 (by omega),Qgj 0 (by omega),Qqa,Qmy _ _ _ ⟨⟨by decide,by decide⟩,⟨by decide,by decide⟩,by decide,by decide⟩,ch_up (by decide)]
  · obtain rfl:=Quq hv
    exact ⟨⟨by decide,by decide⟩,by decide⟩
 | 2,hx =>
  cases hx
  refine ⟨rfl,by decide,by decide,rfl,?_,⟨by decide,by decide⟩,fun v hv=>?_⟩
  · rw [Qgj 3 (by omega),Qgj 0 (by omega),Qqa,Qmy _ _ _ ⟨⟨by decide,by decide⟩,⟨by decide,by decide⟩,by decide,by decide⟩,Qjg (x:=4) (by decide) (by decide)]
  · obtain rfl:=Qww (a:=3) (by omega) hv
    exact ⟨⟨by decide,by decide⟩,by decide⟩
 | k+3,hx=>simp [chM] at hx
set_option maxRecDepth 20000 in
set_option maxHeartbeats 4000000 in
theorem Qtv (w:World)(hg:w.cell? ⟨0,0,none⟩=some Qmt):Calls prog 15 #[] w fun e w'=>e=.returned (.bool true)∧Below w.heap.size w w':=by
 have HG:=Zh hg;have hg0:=Qal hg;simp only at hg0;clear hg
 go_enter func15,ntmps15
 go_wp2_with fail
 with_reducible refine (chain_ok w).mono ?_
 unfold ChnP;rintro r w1 ⟨⟨A,B,C,Q,ca,cb,cc,cq,rfl,hn1,hq1⟩,hb1⟩;have HN1:=Zh hn1;have HQ1:=Zh hq1;have HB1:=Zh hb1;clear hn1 hq1 hb1
 go_wp2_with fail
 (refine Qad ?_;intro w2 hw2)
 have hb2:Below w1.heap.size w1 w2:=by rw [hw2];exact Qah
 have HX:=Zh (show Blk w2 w1.heap.size 26 #[.slice A 6 ca,.slice B 5 cb,.slice C 3 cc] by rw [hw2];exact Qbf)
 have HY:=Zh (show Blk w2 (w1.heap.size+1) 29 #[.slice Q 1 cq] by rw [hw2];exact Qbf)
 clear hw2;have HB2:=Zh (Zb HB1.out hb2);have HN2:=Zh (HN1.out.below hb2);have HQ2:=Zh (HQ1.out.below hb2);clear hb2 HN1 HQ1 HB1;with_reducible refine (Qrs A B C Q 6 5 3 ca cb cc 1 cq Qao Qbd w2 HN2.out Qcx HQ2.out Qch (by rw [Qlo];omega)).mono ?_
 unfold Qrd;rintro r w3 ⟨⟨g,o,CB,NC,cl,F,rfl,hNC,hG,hF,hO,hC,hA⟩,hb3⟩;rw [Qlo] at hNC;subst hNC;obtain rfl:=hA.uniq Qjv;have HB3:=Zh (Zb HB2.out hb3);have HX3:=Zh (HX.out.below hb3 HX.out.lt);have HY3:=Zh (HY.out.below hb3 HY.out.lt);have HN3:=Zh (HN2.out.below hb3);have HQ3:=Zh (HQ2.out.below hb3);have HG3:=Zh hG.rd;have HO3:=Zh (hO.le (Qbj _ _));have HC3:=Zh (show RdI w3 (some ⟨CB,0,none⟩) 1 [12] from ⟨hC.1,fun i x hx=>by obtain ⟨b,o,e,h1⟩:=hC.2 i x hx;exact ⟨b,o,e,Qbj _ _ _ _ h1⟩⟩)
 obtain ⟨_,_,v12,e12,hv12,hc12⟩:=HC3.out.at_ (i:=0) (by omega)
 cases e12
 cases hv12
 have hS1:Qbv (Qae Qao.ar Qbd)≤1000000000:=by rw [Qlo];omega
 have HD1:=Zh (fun V (hV:Below w3.heap.size w3 V)=>show Calls prog 19 #[.pointer (some ⟨g,0,none⟩),.pointer (some ⟨o,0,none⟩),.slice (some ⟨CB,0,none⟩) 1 1,.int .i64 0,.int .i64 4] V _ from Qie V g o Qao Qbd (some ⟨CB,0,none⟩) 1 1 [12] 0 4 _ _ (HG3.out.below hV) (HO3.out.below hV) (HC3.out.below hV) Qcx Qch Qjv ⟨by omega,by omega⟩ hS1 rfl rfl)
 have HD2:=Zh (fun V (hV:Below w3.heap.size w3 V)=>show Calls prog 54 #[.pointer (some ⟨g,0,none⟩),.pointer (some ⟨o,0,none⟩),.slice (some ⟨CB,0,none⟩) 1 1,.int .i64 0,.int .i64 4] V _ from Qno V g o Qao Qbd (some ⟨CB,0,none⟩) 1 1 [12] 0 4 _ _ (HG3.out.below hV) (HO3.out.below hV) (HC3.out.below hV) Qcx Qch Qjv ⟨by omega,by omega⟩ hS1 rfl rfl)
 have HD3:=Zh (fun V (hV:Below w3.heap.size w3 V)=>Qsq V g o Qao Qbd (some ⟨CB,0,none⟩) 1 1 1 0 5 1 5 (HG3.out.below hV) (HO3.out.below hV) Qlo.symm (by omega) (by decide));have HD4:=Zh (fun V (hV:Below w3.heap.size w3 V)=>show Calls prog 19 #[.pointer (some ⟨g,0,none⟩),.pointer (some ⟨o,0,none⟩),.slice (some ⟨CB,0,none⟩) 1 1,.int .i64 4,.int .i64 0] V _ from Qie V g o Qao Qbd (some ⟨CB,0,none⟩) 1 1 [12] 4 0 _ _ (HG3.out.below hV) (HO3.out.below hV) (HC3.out.below hV) Qcx Qch Qjv ⟨by omega,by omega⟩ hS1 rfl rfl)
 have HL1:=Zh (fun V (hV:Below w3.heap.size w3 V)=>ch_lv1▸Qmy 2 0 5 ⟨⟨by decide,by decide⟩,⟨by decide,by decide⟩,by decide,by decide⟩▸Qiy V o Qao.ar Qbd Qao.vs.length 2 0 5 (HO3.out.below hV) Qch (by decide));have HL2:=Zh (fun V (hV:Below w3.heap.size w3 V)=>ch_lv0▸Qmy 2 3 5 ⟨⟨by decide,by decide⟩,⟨by decide,by decide⟩,by decide,by decide⟩▸Qiy V o Qao.ar Qbd Qao.vs.length 2 3 5 (HO3.out.below hV) Qch (by decide));have HPC:=Zh (fun V (hV:Below w3.heap.size w3 V) f u=>Qqb V g o Qao Qbd (some ⟨CB,0,none⟩) 1 1 [12] 1 f u (HG3.out.below hV) (HO3.out.below hV) (HC3.out.below hV) Qcx Qch Qjv hS1);have HNW:=Zh (fun V (hV:Below w3.heap.size w3 V)=>Qpl A B C Q 6 5 3 ca cb cc 1 cq Qao Qbd V (HN3.out.below hV) Qcx (HQ3.out.below hV) Qch hS1);clear hG hF hO hC hA hb3 HN2 HQ2 HB2 HX HY
 go_wp2_with fail
 with_reducible refine (HD1.out w3 (Zr _ _)).mono ?_
 rintro r w4 ⟨⟨v,rfl,hv⟩,hb4⟩;obtain rfl:v=44:=hv.uniq (.inr ⟨by decide,Qvq⟩);clear hv HD1 hc12
 go_wp2_with fail
 with_reducible refine (HD2.out w4 hb4).mono ?_
 unfold SrcP;rintro r w5 ⟨⟨v,A9,n9,c9,hs,rfl,_,hrun,hh,hn9⟩,hb5⟩;obtain ⟨rfl,hmap⟩:=ch_run hrun;rw [hmap,show ([(0,0,1),(1,1,3),(0,3,4)]:List Qkz)=chM from rfl] at hh
 obtain rfl:n9=3:=by rw [←hh.1];rfl
 have hb5':=Zb hb4 hb5;have HH5:=Zh hh;clear hrun hmap hh hn9 HD2 hb4 hb5
 go_wp2_with fail
 (refine Qad ?_;intro w6 hw6)
 have hb6:Below w5.heap.size w5 w6:=by rw [hw6];exact Qah
 have HF6:=Zh (show Blk w6 w5.heap.size 124 #[.int .i64 44,.slice A9 3 c9] by rw [hw6];exact Qbf)
 clear hw6;have hb6':=Zb hb5' hb6;have HH6:=Zh (HH5.out.le (Le.below hb6));clear hb6 hb5' HH5;with_reducible refine (HD3.out w6 hb6').mono ?_
 rintro r w7 ⟨⟨v7,rfl,hch7⟩,hb7⟩;have hb7':=Zb hb6' hb7;have HH7:=Zh (HH6.out.le (Le.below hb7));have HF7:=Zh (HF6.out.below hb7 HF6.out.lt);have HCH7:=Zh hch7;obtain ⟨tv7,xv7,rfl⟩:=Qck hch7;clear hch7 hb7 hb6' HH6 HF6 HD3
 go_wp2_with fail
 with_reducible refine (HD4.out w7 hb7').mono ?_
 rintro r w8 ⟨⟨v,rfl,hv⟩,hb8⟩;obtain rfl:=ch_run0 hv;have HB8:=Zh (Zb hb7' hb8);have HH8:=Zh (HH7.out.le (Le.below hb8));have HF8:=Zh (HF7.out.below hb8 HF7.out.lt);have HCH8:=Zh (HCH7.out.below hb8);have HX8:=Zh (HX3.out.below HB8.out HX3.out.lt);have HY8:=Zh (HY3.out.below HB8.out HY3.out.lt);clear hv hb8 hb7' HH7 HF7 HCH7 HD4 HX3 HY3
 have HSX:=Zh (show ∀ V,Below w8.heap.size w8 V→V.cell? ⟨w1.heap.size,0,none⟩=some (.slice A 6 ca)∧V.cell? ⟨w1.heap.size,1,none⟩=some (.slice B 5 cb)∧V.cell? ⟨w1.heap.size,2,none⟩=some (.slice C 3 cc)∧V.cell? ⟨w1.heap.size+1,0,none⟩=some (.slice Q 1 cq)∧V.cell? ⟨w5.heap.size,0,none⟩=some (.int .i64 44)∧V.cell? ⟨w5.heap.size,1,none⟩=some (.slice A9 3 c9) from fun V hV=>by
  have hX':=HX8.out.below hV HX8.out.lt;have hY':=HY8.out.below hV HY8.out.lt;have hF':=HF8.out.below hV HF8.out.lt;exact ⟨Zq hX',Zq hX',Zq hX',Zq hY',Zq hF',Zq hF'⟩)
 go_wp2_with fail
 refine wp_region_held_drew (S:=fun V=>Below w8.heap.size w8 V) (by kernel_rfl) (Zr _ _).drew (fun _=>?_);refine tz 0 68 ?_;refine tz 1 69 ?_;refine tz 2 70 ?_;refine tz 3 71 ?_;refine tz 4 72 ?_;refine tz 5 73 ?_;refine tz 6 74 ?_;refine tz 7 75 ?_;refine tz 8 76 ?_;refine tz 9 77 ?_;refine tz 10 78 ?_;refine tz 11 79 ?_;refine tz 12 80 ?_;refine tz 13 81 ?_;refine tz 14 82 ?_;refine tz 15 83 ?_;refine tz 16 84 ?_;refine tz 17 85 ?_;refine tz 18 86 ?_;refine tz 20 88 ?_;refine tz 21 89 ?_;refine tz 22 90 ?_;refine Zk 19 (fun K hK=>?_);go_simp;with_reducible refine (HNW.out _ (Zb HB8.out (Zr _ _).drew)).mono ?_
 unfold Qwi;rintro r w9 ⟨G,cg,AE,ce,EL,rfl,hG9,hE9,hEl,hEP,hb9⟩;have hb9':Below w8.heap.size w8 w9:=(Zr _ _).drew.trans hb9;have HO9:=Zh (show OvD w9 Q G AE 1 EL.length Qao Qbd EL from ⟨HQ3.out.below (Zb HB8.out hb9'),hG9,hE9,rfl,hEl,hEP,by rw [hEl,Qlo];omega⟩)
 obtain ⟨S9,hS9⟩:∃ S,S=EL.length:=⟨_,rfl⟩;rw [←hS9] at HO9 ⊢;clear hG9 hE9 hEl hEP hb9 hS9 HNW;go_simp;refine hK.out _ _ hb9' (fun _=>?_);clear hK K;refine Zk 23 (fun K hK=>?_);go_simp;with_reducible refine (of21_ok A9 3 c9 chM w9 (HH8.out.le (Le.below hb9')) (by omega)).mono ?_
 rintro r wa ⟨⟨Aa,ca',rfl,hha⟩,hba⟩;have hba':=Zb hb9' hba;have HOa:=Zh (HO9.out.below hba);have HHa:=Zh hha;go_simp;refine hK.out _ _ hba' (fun _=>?_);clear hK K hba hha HO9 hb9';refine Zk 24 (fun K hK=>?_);go_simp;with_reducible refine (show Calls prog 55 #[.agg #[.slice A 6 ca,.slice B 5 cb,.slice C 3 cc],.agg #[.slice A 6 ca,.slice B 5 cb,.slice C 3 cc,.slice Q 1 cq,.slice G 1 cg,.slice AE S9 ce],.slice (some ⟨CB,0,none⟩) 1 1,.int .i64 0,.int .i64 4,.int .i64 44,.slice Aa 3 ca'] wa _ from Qsr A B C Q G AE 6 5 3 ca cb cc 1 cq cg S9 ce Qao Qbd EL (some ⟨CB,0,none⟩) 1 1 [12] 0 4 44 Aa 3 ca' chM chAt chSm _ _ wa (HN3.out.below (Zb HB8.out hba')) Qcx Qch HOa.out (HC3.out.below (Zb HB8.out hba')) Qjv HHa.out (by omega) rfl rfl (by omega) (by decide) ch_hopsP).mono ?_
 rintro r wb ⟨rfl,hbb⟩;have hbb':=Zb hba' hbb;go_simp;refine hK.out _ _ hbb' (fun _=>?_);clear hK K hbb hba' HOa HHa HH8;refine tz 25 93 ?_;refine tz 26 94 ?_;refine tz 27 95 ?_;refine tz 28 96 ?_;refine tz 29 97 ?_;refine tz 30 98 ?_;refine tz 31 99 ?_;refine tz 32 100 ?_;refine tz 33 101 ?_;refine Zk 34 (fun K hK=>?_);go_simp;with_reducible refine (Qvn (⟨#[97,115,107]⟩:ByteArray) 1 5 wb).mono ?_
 rintro r wc ⟨_,rfl,⟨A4,n4,m4,rfl,h4,h5⟩,hbc⟩;have hbc':=Zb hbb' hbc;have HR4:=Zh h4;go_simp;refine hK.out _ _ hbc' (fun _=>?_);clear hK K hbc hbb' h4;refine Zk 35 (fun K hK=>?_);go_simp;with_reducible refine (Qwt (.iface tv7 xv7) A4 n4 m4 [((⟨#[97,115,107]⟩:ByteArray),1)] 5 wc (HCH8.out.below hbc') HR4.out (by omega) (Zc (Zb HB3.out (Zb HB8.out hbc')) (Zn _) HG.out) (by omega)).mono ?_
 rintro r wd ⟨rfl,hbd⟩;have hbd':=Zb hbc' hbd;go_simp;refine hK.out _ _ hbd' (fun _=>?_);clear hK K hbd hbc' HR4;refine tz 36 104 ?_;refine tz 37 105 ?_;refine tz 38 106 ?_;refine tz 39 107 ?_;refine tz 40 108 ?_;refine tz 41 109 ?_;refine tz 42 110 ?_;refine tz 43 111 ?_;refine tz 44 112 ?_;refine tz 45 113 ?_;refine tz 46 114 ?_;refine Zk 47 (fun K hK=>?_);go_simp;with_reducible refine (HL1.out wd (Zb HB8.out hbd')).mono ?_
 rintro r we ⟨rfl,hbe⟩;have hbe':=Zb hbd' hbe;go_simp;refine hK.out _ _ hbe' (fun _=>?_);clear hK K hbe hbd';refine tz 48 116 ?_;refine tz 49 117 ?_;refine tz 50 118 ?_;refine tz 51 119 ?_;refine Zk 52 (fun K hK=>?_);go_simp;with_reducible refine (HL2.out we (Zb HB8.out hbe')).mono ?_
 rintro r wf ⟨rfl,hbf⟩;have hbf':=Zb hbe' hbf;go_simp;refine hK.out _ _ hbf' (fun _=>?_);clear hK K hbf hbe';refine tz 53 121 ?_;refine tz 54 122 ?_;refine tz 55 123 ?_;refine tz 56 124 ?_;refine tz 57 125 ?_;refine tz 58 126 ?_;refine tz 59 127 ?_;refine Zk 60 (fun K hK=>?_);go_simp;with_reducible refine (HPC.out wf (Zb HB8.out hbf') 1 3).mono ?_
 unfold AprR;rintro r wg ⟨⟨v,rfl,hv⟩,hbg⟩;obtain rfl:=Quq hv;have hbg':=Zb hbf' hbg;go_simp;refine hK.out _ _ hbg' (fun _=>?_);clear hK K hbg hbf' hv;refine tz 61 129 ?_;refine tz 62 130 ?_;refine tz 63 131 ?_;refine tz 64 132 ?_;refine tz 65 133 ?_;refine tz 66 134 ?_;refine tz 67 135 ?_;refine Zk 68 (fun K hK=>?_);go_simp;with_reducible refine (HPC.out wg (Zb HB8.out hbg') 1 2).mono ?_
 unfold AprR;rintro r wh ⟨⟨v,rfl,hv⟩,hbh⟩;obtain rfl:=ch_prc2 hv;have hbh':=Zb hbg' hbh;go_simp;refine hK.out _ _ hbh' (fun _=>?_);clear hK K hbh hbg' hv;refine tz 69 137 ?_;refine tz 70 138 ?_;refine tz 71 0 ?_;refine Zd ?_
 go_wp2_with fail
 go_ret
 exact ⟨rfl,Zb HB3.out (Zb HB8.out hbh')⟩
end Go.Proofs.YteaoiabikjnkeaaGreatDoor
