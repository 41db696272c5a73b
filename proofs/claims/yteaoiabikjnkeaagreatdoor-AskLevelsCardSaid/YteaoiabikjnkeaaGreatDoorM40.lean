/- Parts of the proof: As, Tl. -/
import Derived.Test.YteaoiabikjnkeaaGreatDoorM1
import Derived.Test.YteaoiabikjnkeaaGreatDoorM31
import Derived.Deep.RegionHeld3
import Derived.Deep.DrawnRows
namespace Go.Proofs.YteaoiabikjnkeaaGreatDoor
open Go.RowKit Go.Extern.Stop Go.Stop Go.Extern
theorem Qse (z:Sem Value)(f:TypeId→Addr→Nat→Nat→Sem Value)(v:Value) :
 ReflectliteValue.method z f #[v]=(do match ←ReflectliteValue.parts v with | none=>z | some (t,a,fl)=>f t a fl (fl % 32)):=rfl
theorem as_rls (v x:Value):ReflectliteValue.set #[v,x]=(do
 let (some (dst,a,fl),some (src,b,_)):=(←ReflectliteValue.parts v,←ReflectliteValue.parts x)
  | unsupported (.noEntry "extern/(internal/reflectlite.Value).Set.zeroValue")
 if fl / ReflectliteValue.flagAddr % 2 == 0 then unsupported (.noEntry "extern/(internal/reflectlite.Value).Set.unaddressable")
 let val ←loadVar src b
 if ←Rtype.directlyAssignable dst src then storeVar dst a val
 else if ←Rtype.implements dst src then
  if (←Rtype.kind src) == 20 then
   match val with
   | .nilIface => unsupported (.noEntry "extern/reflectlite: a nil value of one interface type handed on as a value of another")
   | _=>storeVar dst a val
  else storeVar dst a (.iface src val)
 else panicString ("reflectlite.Set: value of type " ++ (← Rtype.spelt src) ++ " is not assignable to type " ++ (← Rtype.spelt dst))
 pure (.tuple #[])):=rfl
theorem Qna (h : Value) (w : World) : (Go.method 497 300 (.agg #[h]) "Kind").run Tryz.prog w = .ok (257, h) w := by kernel_rfl
theorem Qmy (h : Value) (w : World) : (Go.method 497 300 (.agg #[h]) "Elem").run Tryz.prog w = .ok (269, .agg #[h]) w := by kernel_rfl
theorem Qer (h : Value) (w : World) : (Go.method 497 300 (.agg #[h]) "Implements").run Tryz.prog w = .ok (270, .agg #[h]) w := by kernel_rfl
theorem Qdr (h : Value) (w : World) : (Go.method 497 300 (.agg #[h]) "AssignableTo").run Tryz.prog w = .ok (267, .agg #[h]) w := by kernel_rfl
def Qnk:Value:=.iface 300 (.agg #[.pointer (some ⟨1,43,none⟩)])
abbrev rty (t:Nat):Value:=.agg #[.pointer (some ⟨1,t,none⟩)]
abbrev rtv (t:Nat):Value:=.iface 300 (rty t)
abbrev rvl (t:Nat) (a:Addr) (f:Int):Value:=.agg #[.pointer (some ⟨1,t,none⟩),.pointer (some a),.int .u64 f]
abbrev asW (t:Addr) (p:Nat) (w:World):World:=((w.alloc (.cells #[.pointer (some t)] p)).alloc (.cells #[.pointer (some ⟨1,p,none⟩),.pointer (some ⟨w.heap.size,0,none⟩),.int .u64 150] 236))
abbrev asX (t:Addr) (p:Nat) (w:World):World:=(asW t p w).alloc (.cells #[.pointer (some ⟨1,p,none⟩),.pointer (some ⟨w.heap.size,0,none⟩),.int .u64 150] 236)
/-! ### at **api.Fault -/
theorem Qja (t:Addr)(w:World):(ReflectliteValue.unpack (.iface 145 (.pointer (some t)))).run Tryz.prog w=.ok (rvl 145 ⟨w.heap.size,0,none⟩ 150) (w.alloc (.cells #[.pointer (some t)] 145)):=by kernel_rfl
theorem Qpk (a : Addr) (w : World) : (ReflectliteValue.methodAny (ReflectliteValue.valueError "reflectlite.Value.Type" 0) (fun t _ _ _ => ReflectliteType.toType t) #[rvl 145 a 150]).run Tryz.prog w = .ok (rtv 145) w := by kernel_rfl
theorem Qpg (w:World):((ReflectliteType.abiMethod fun t=>(fun a:Nat=>Value.int IntKind.u8 (a:Int)) <$> Rtype.kind t) #[.pointer (some ⟨1,145,none⟩)]).run Tryz.prog w=.ok (.int .u8 22) w:=by kernel_rfl
theorem Qtm (w:World):((ReflectliteType.abiMethod fun t=>(fun a:Nat=>Value.int IntKind.u8 (a:Int)) <$> Rtype.kind t) #[.pointer (some ⟨1,143,none⟩)]).run Tryz.prog w=.ok (.int .u8 22) w:=by kernel_rfl
theorem Qlu (a:Addr)(w:World):(ReflectliteValue.parts (rvl 145 a 150)).run Tryz.prog w=.ok (some (145,a,150)) w:=by kernel_rfl
theorem Qnu (a p:Addr)(W:World) (ha:W.cell? a=some (.pointer (some p))) :
 (ReflectliteValue.method (ReflectliteValue.valueError "reflectlite.Value.IsNil" 0) ReflectliteValue.isNil #[rvl 145 a 150]).run Tryz.prog W = .ok (.bool false) W := by
 rw [Qse];simp only [Sem.run_bind,Qlu,Result.andThen];simp [ReflectliteValue.isNil,loadVar,isAgg,underlying,Tryz.underlying145,ha,Result.andThen]
theorem Qsx (w:World):(ReflectliteType.method ReflectliteType.elem #[rty 145]).run Tryz.prog w=.ok (rtv 143) w:=by kernel_rfl
theorem Qgs (w : World) : (ReflectliteType.relation "Implements" ReflectliteType.implements_ #[rty 143, Qnk]).run Tryz.prog w = .ok (.bool true) w := by kernel_rfl
theorem Quq (w:World):(Rtype.elem? 145).run Tryz.prog w=.ok (some 143) w:=by kernel_rfl
theorem as_mkF (p:Addr)(w:World):(ReflectliteValue.mk 143 p ReflectliteValue.flagAddr).run Tryz.prog w=.ok (rvl 143 p 406) w:=by kernel_rfl
theorem Qvu (a p:Addr)(W:World) (ha:W.cell? a=some (.pointer (some p))) :
 (ReflectliteValue.method (ReflectliteValue.valueError "reflectlite.Value.Elem" 0) ReflectliteValue.elem #[rvl 145 a 150]).run Tryz.prog W = .ok (rvl 143 p 406) W := by
 rw [Qse];simp only [Sem.run_bind,Qlu,Result.andThen];simp [ReflectliteValue.elem,loadVar,isAgg,underlying,Tryz.underlying145,ha,Result.andThen,Quq,as_mkF]
theorem Qup (v:Value)(w:World):(ReflectliteType.typeOf #[.iface 143 v]).run Tryz.prog w=.ok (rtv 143) w:=by kernel_rfl
theorem Qli (w : World) : (ReflectliteType.relation "AssignableTo" ReflectliteType.assignableTo #[rty 143, rtv 143]).run Tryz.prog w = .ok (.bool true) w := by kernel_rfl
theorem Qqo (e:Addr)(w:World):(ReflectliteValue.unpack (.iface 143 (.pointer (some e)))).run Tryz.prog w=.ok (rvl 143 ⟨w.heap.size,0,none⟩ 150) (w.alloc (.cells #[.pointer (some e)] 143)):=by kernel_rfl
theorem Qug (a:Addr)(w:World):(ReflectliteValue.parts (rvl 143 a 406)).run Tryz.prog w=.ok (some (143,a,406)) w:=by kernel_rfl
theorem Qwn (a:Addr)(w:World):(ReflectliteValue.parts (rvl 143 a 150)).run Tryz.prog w=.ok (some (143,a,150)) w:=by kernel_rfl
theorem Quu (w:World):(Rtype.directlyAssignable 143 143).run Tryz.prog w=.ok true w:=by kernel_rfl
theorem as_setF (ta b:Addr)(e:Addr)(old:Value)(W:World) (hb:W.cell? b=some (.pointer (some e))) (ht:W.cell? ta=some old) (hf:W.frozen? ta=false) :
 (ReflectliteValue.set #[rvl 143 ta 406,rvl 143 b 150]).run Tryz.prog W=.ok (.tuple #[]) (W.setCell ta (.pointer (some e))):=by
 rw [as_rls];simp only [Sem.run_bind,Qug,Qwn,Result.andThen];simp [ReflectliteValue.flagAddr,loadVar,isAgg,underlying,Tryz.underlying143,hb,Result.andThen,Quu,storeVar,Value.cells,storeCells,Addr.add];rw [run_store Tryz.prog W ta _ _ (by rfl)];simp [ht,hf]
/-! ### at *api.Errno -/
theorem Qoi (t:Addr)(w:World):(ReflectliteValue.unpack (.iface 150 (.pointer (some t)))).run Tryz.prog w=.ok (rvl 150 ⟨w.heap.size,0,none⟩ 150) (w.alloc (.cells #[.pointer (some t)] 150)):=by kernel_rfl
theorem Qwa (a : Addr) (w : World) : (ReflectliteValue.methodAny (ReflectliteValue.valueError "reflectlite.Value.Type" 0) (fun t _ _ _ => ReflectliteType.toType t) #[rvl 150 a 150]).run Tryz.prog w = .ok (rtv 150) w := by kernel_rfl
theorem Qxx (w:World):((ReflectliteType.abiMethod fun t=>(fun a:Nat=>Value.int IntKind.u8 (a:Int)) <$> Rtype.kind t) #[.pointer (some ⟨1,150,none⟩)]).run Tryz.prog w=.ok (.int .u8 22) w:=by kernel_rfl
theorem as_kindE (w:World):((ReflectliteType.abiMethod fun t=>(fun a:Nat=>Value.int IntKind.u8 (a:Int)) <$> Rtype.kind t) #[.pointer (some ⟨1,142,none⟩)]).run Tryz.prog w=.ok (.int .u8 2) w:=by kernel_rfl
theorem Qlo (a:Addr)(w:World):(ReflectliteValue.parts (rvl 150 a 150)).run Tryz.prog w=.ok (some (150,a,150)) w:=by kernel_rfl
theorem Qxl (a p:Addr)(W:World) (ha:W.cell? a=some (.pointer (some p))) :
 (ReflectliteValue.method (ReflectliteValue.valueError "reflectlite.Value.IsNil" 0) ReflectliteValue.isNil #[rvl 150 a 150]).run Tryz.prog W = .ok (.bool false) W := by
 rw [Qse];simp only [Sem.run_bind,Qlo,Result.andThen];simp [ReflectliteValue.isNil,loadVar,isAgg,underlying,Tryz.underlying150,ha,Result.andThen]
theorem as_elemE (w:World):(ReflectliteType.method ReflectliteType.elem #[rty 150]).run Tryz.prog w=.ok (rtv 142) w:=by kernel_rfl
theorem Qlf (w : World) : (ReflectliteType.relation "Implements" ReflectliteType.implements_ #[rty 142, Qnk]).run Tryz.prog w = .ok (.bool true) w := by kernel_rfl
theorem Qvc (w:World):(Rtype.elem? 150).run Tryz.prog w=.ok (some 142) w:=by kernel_rfl
theorem as_mkE (p:Addr)(w:World):(ReflectliteValue.mk 142 p ReflectliteValue.flagAddr).run Tryz.prog w=.ok (rvl 142 p 386) w:=by kernel_rfl
theorem Qwi (a p:Addr)(W:World) (ha:W.cell? a=some (.pointer (some p))) :
 (ReflectliteValue.method (ReflectliteValue.valueError "reflectlite.Value.Elem" 0) ReflectliteValue.elem #[rvl 150 a 150]).run Tryz.prog W = .ok (rvl 142 p 386) W := by
 rw [Qse];simp only [Sem.run_bind,Qlo,Result.andThen];simp [ReflectliteValue.elem,loadVar,isAgg,underlying,Tryz.underlying150,ha,Result.andThen,Qvc,as_mkE]
theorem Qlw (v:Value)(w:World):(ReflectliteType.typeOf #[.iface 142 v]).run Tryz.prog w=.ok (rtv 142) w:=by kernel_rfl
theorem Qlh (w : World) : (ReflectliteType.relation "AssignableTo" ReflectliteType.assignableTo #[rty 142, rtv 142]).run Tryz.prog w = .ok (.bool true) w := by kernel_rfl
theorem Qry (c:Int)(w:World):(ReflectliteValue.unpack (.iface 142 (.int .i64 c))).run Tryz.prog w=.ok (rvl 142 ⟨w.heap.size,0,none⟩ 130) (w.alloc (.cells #[.int .i64 c] 142)):=by kernel_rfl
theorem Quo (a:Addr)(w:World):(ReflectliteValue.parts (rvl 142 a 386)).run Tryz.prog w=.ok (some (142,a,386)) w:=by kernel_rfl
theorem Qwr (a:Addr)(w:World):(ReflectliteValue.parts (rvl 142 a 130)).run Tryz.prog w=.ok (some (142,a,130)) w:=by kernel_rfl
theorem Qtq (w:World):(Rtype.directlyAssignable 142 142).run Tryz.prog w=.ok true w:=by kernel_rfl
theorem as_setE (ta b:Addr)(c:Int)(old:Value)(W:World) (hb:W.cell? b=some (.int .i64 c)) (ht:W.cell? ta=some old) (hf:W.frozen? ta=false) :
 (ReflectliteValue.set #[rvl 142 ta 386,rvl 142 b 130]).run Tryz.prog W=.ok (.tuple #[]) (W.setCell ta (.int .i64 c)):=by
 rw [as_rls];simp only [Sem.run_bind,Quo,Qwr,Result.andThen];simp [ReflectliteValue.flagAddr,loadVar,isAgg,underlying,Tryz.underlying142,hb,Result.andThen,Qtq,storeVar,Value.cells,storeCells,Addr.add];rw [run_store Tryz.prog W ta _ _ (by rfl)];simp [ht,hf]
set_option maxHeartbeats 4000000 in
theorem as_hitF (e:Addr)(t:Addr)(old:Value)(w:World)(hg:w.cell? ⟨0,0,none⟩=some Qnk)(ht0:w.cell? t=some old)(hf0:w.frozen? t=false) :
 Calls Tryz.prog 66 #[.iface 143 (.pointer (some e)),.iface 145 (.pointer (some t))] w fun ev w'=>ev=.returned (.bool true)∧w'=((asX t 145 w).alloc (.cells #[.pointer (some e)] 143)).setCell t (.pointer (some e)):=by
 have h6:=@run_callFunc_extern Tryz.prog 129 _ (fun args=>ReflectliteValue.unpack (args.getD 0 (.tuple #[]))) Tryz.func129 (by kernel_rfl) (by kernel_rfl) (by kernel_rfl) (by kernel_rfl)
 have h7 := @run_callFunc_extern Tryz.prog 130 _ (ReflectliteValue.methodAny (ReflectliteValue.valueError "reflectlite.Value.Type" 0) (fun t _ _ _ => ReflectliteType.toType t)) Tryz.func130 (by kernel_rfl) (by kernel_rfl) (by kernel_rfl) (by kernel_rfl)
 have h8 := @run_callFunc_extern Tryz.prog 131 _ (ReflectliteValue.method (ReflectliteValue.valueError "reflectlite.Value.IsNil" 0) ReflectliteValue.isNil) Tryz.func131 (by kernel_rfl) (by kernel_rfl) (by kernel_rfl) (by kernel_rfl)
 have h27:=@run_callFunc_extern Tryz.prog 257 _ (ReflectliteType.abiMethod fun t=>do pure (.int .u8 (←Rtype.kind t))) Tryz.func257 (by kernel_rfl) (by kernel_rfl) (by kernel_rfl) (by kernel_rfl);have h37:=@run_callFunc_extern Tryz.prog 269 _ (ReflectliteType.method ReflectliteType.elem) Tryz.func269 (by kernel_rfl) (by kernel_rfl) (by kernel_rfl) (by kernel_rfl)
 have h38 := @run_callFunc_extern Tryz.prog 270 _ (ReflectliteType.relation "Implements" ReflectliteType.implements_) Tryz.func270 (by kernel_rfl) (by kernel_rfl) (by kernel_rfl) (by kernel_rfl)
 have h10:=@run_callFunc_extern Tryz.prog 127 _ ReflectliteType.typeOf Tryz.func127 (by kernel_rfl) (by kernel_rfl) (by kernel_rfl) (by kernel_rfl)
 have h35 := @run_callFunc_extern Tryz.prog 267 _ (ReflectliteType.relation "AssignableTo" ReflectliteType.assignableTo) Tryz.func267 (by kernel_rfl) (by kernel_rfl) (by kernel_rfl) (by kernel_rfl)
 have h11 := @run_callFunc_extern Tryz.prog 178 _ (ReflectliteValue.method (ReflectliteValue.valueError "reflectlite.Value.Elem" 0) ReflectliteValue.elem) Tryz.func178 (by kernel_rfl) (by kernel_rfl) (by kernel_rfl) (by kernel_rfl)
 have h12:=@run_callFunc_extern Tryz.prog 179 _ ReflectliteValue.set Tryz.func179 (by kernel_rfl) (by kernel_rfl) (by kernel_rfl) (by kernel_rfl);have mA:=Qdr;have mK:=Qna;have mE:=Qmy;have mI:=Qer;have tO:=Qup;have aS:=Qli;have vO:=Qqo;have f6:=Qja;have f7:=Qpk;have kP:=Qpg;have kE:=Qtm;have eL:=Qsx;have iM:=Qgs;have n8:=Qnu ⟨w.heap.size,0,none⟩ t (asW t 145 w) (by simp);have hlt:0<w.heap.size:=Qak hg
 have htl:t.block<w.heap.size:=Qak ht0
 have hg2:(asW t 145 w).cell? ⟨0,0,none⟩=some Qnk:=by
  rw [World.cell?_alloc_lt _ _ ⟨0,0,none⟩ (by simp),World.cell?_alloc_lt _ _ ⟨0,0,none⟩ hlt]; exact hg
 have el:=Qvu ⟨w.heap.size,0,none⟩ t (asX t 145 w) (by rw [World.cell?_alloc_lt _ _ ⟨w.heap.size,0,none⟩ (by simp; omega)]; simp)
 have st:=as_setF t ⟨w.heap.size+1+1+1,0,none⟩ e old ((asX t 145 w).alloc (.cells #[.pointer (some e)] 143))
  (by rw [World.cell?_alloc_at _ _ _ _ (by simp)]; rfl)
  (by rw [World.cell?_alloc_lt _ _ t (by simp; omega),World.cell?_alloc_lt _ _ t (by simp; omega),World.cell?_alloc_lt _ _ t (by simp; omega),World.cell?_alloc_lt _ _ t htl]; exact ht0)
  (by rw [World.frozen?_alloc_old _ _ t (by simp; omega),World.frozen?_alloc_old _ _ t (by simp; omega),World.frozen?_alloc_old _ _ t (by simp; omega),World.frozen?_alloc_old _ _ t (Nat.ne_of_lt htl)]; exact hf0)
 go_enter Tryz.func66,Tryz.ntmps66
 go_wp2
 refine wp_loop_rounds 1 ?_;rw [rounds_succ]
 go_wp2
 go_ret
 exact ⟨rfl,rfl⟩
set_option maxHeartbeats 4000000 in
theorem as_hitE (c:Int)(t:Addr)(old:Value)(w:World)(hg:w.cell? ⟨0,0,none⟩=some Qnk)(ht0:w.cell? t=some old)(hf0:w.frozen? t=false) :
 Calls Tryz.prog 66 #[.iface 142 (.int .i64 c),.iface 150 (.pointer (some t))] w fun ev w'=>ev=.returned (.bool true)∧w'=((asX t 150 w).alloc (.cells #[.int .i64 c] 142)).setCell t (.int .i64 c):=by
 have h6:=@run_callFunc_extern Tryz.prog 129 _ (fun args=>ReflectliteValue.unpack (args.getD 0 (.tuple #[]))) Tryz.func129 (by kernel_rfl) (by kernel_rfl) (by kernel_rfl) (by kernel_rfl)
 have h7 := @run_callFunc_extern Tryz.prog 130 _ (ReflectliteValue.methodAny (ReflectliteValue.valueError "reflectlite.Value.Type" 0) (fun t _ _ _ => ReflectliteType.toType t)) Tryz.func130 (by kernel_rfl) (by kernel_rfl) (by kernel_rfl) (by kernel_rfl)
 have h8 := @run_callFunc_extern Tryz.prog 131 _ (ReflectliteValue.method (ReflectliteValue.valueError "reflectlite.Value.IsNil" 0) ReflectliteValue.isNil) Tryz.func131 (by kernel_rfl) (by kernel_rfl) (by kernel_rfl) (by kernel_rfl)
 have h27:=@run_callFunc_extern Tryz.prog 257 _ (ReflectliteType.abiMethod fun t=>do pure (.int .u8 (←Rtype.kind t))) Tryz.func257 (by kernel_rfl) (by kernel_rfl) (by kernel_rfl) (by kernel_rfl);have h37:=@run_callFunc_extern Tryz.prog 269 _ (ReflectliteType.method ReflectliteType.elem) Tryz.func269 (by kernel_rfl) (by kernel_rfl) (by kernel_rfl) (by kernel_rfl)
 have h38 := @run_callFunc_extern Tryz.prog 270 _ (ReflectliteType.relation "Implements" ReflectliteType.implements_) Tryz.func270 (by kernel_rfl) (by kernel_rfl) (by kernel_rfl) (by kernel_rfl)
 have h10:=@run_callFunc_extern Tryz.prog 127 _ ReflectliteType.typeOf Tryz.func127 (by kernel_rfl) (by kernel_rfl) (by kernel_rfl) (by kernel_rfl)
 have h35 := @run_callFunc_extern Tryz.prog 267 _ (ReflectliteType.relation "AssignableTo" ReflectliteType.assignableTo) Tryz.func267 (by kernel_rfl) (by kernel_rfl) (by kernel_rfl) (by kernel_rfl)
 have h11 := @run_callFunc_extern Tryz.prog 178 _ (ReflectliteValue.method (ReflectliteValue.valueError "reflectlite.Value.Elem" 0) ReflectliteValue.elem) Tryz.func178 (by kernel_rfl) (by kernel_rfl) (by kernel_rfl) (by kernel_rfl)
 have h12:=@run_callFunc_extern Tryz.prog 179 _ ReflectliteValue.set Tryz.func179 (by kernel_rfl) (by kernel_rfl) (by kernel_rfl) (by kernel_rfl);have mA:=Qdr;have mK:=Qna;have mE:=Qmy;have mI:=Qer;have tO:=Qlw;have aS:=Qlh;have vO:=Qry;have f6:=Qoi;have f7:=Qwa;have kP:=Qxx;have kE:=as_kindE;have eL:=as_elemE;have iM:=Qlf;have n8:=Qxl ⟨w.heap.size,0,none⟩ t (asW t 150 w) (by simp);have hlt:0<w.heap.size:=Qak hg
 have htl:t.block<w.heap.size:=Qak ht0
 have hg2:(asW t 150 w).cell? ⟨0,0,none⟩=some Qnk:=by
  rw [World.cell?_alloc_lt _ _ ⟨0,0,none⟩ (by simp),World.cell?_alloc_lt _ _ ⟨0,0,none⟩ hlt]; exact hg
 have el:=Qwi ⟨w.heap.size,0,none⟩ t (asX t 150 w) (by rw [World.cell?_alloc_lt _ _ ⟨w.heap.size,0,none⟩ (by simp; omega)]; simp)
 have st:=as_setE t ⟨w.heap.size+1+1+1,0,none⟩ c old ((asX t 150 w).alloc (.cells #[.int .i64 c] 142))
  (by rw [World.cell?_alloc_at _ _ _ _ (by simp)]; rfl)
  (by rw [World.cell?_alloc_lt _ _ t (by simp; omega),World.cell?_alloc_lt _ _ t (by simp; omega),World.cell?_alloc_lt _ _ t (by simp; omega),World.cell?_alloc_lt _ _ t htl]; exact ht0)
  (by rw [World.frozen?_alloc_old _ _ t (by simp; omega),World.frozen?_alloc_old _ _ t (by simp; omega),World.frozen?_alloc_old _ _ t (by simp; omega),World.frozen?_alloc_old _ _ t (Nat.ne_of_lt htl)]; exact hf0)
 go_enter Tryz.func66,Tryz.ntmps66
 go_wp2
 refine wp_loop_rounds 1 ?_;rw [rounds_succ]
 go_wp2
 go_ret
 exact ⟨rfl,rfl⟩
theorem Qlj (w : World) : (ReflectliteType.relation "AssignableTo" ReflectliteType.assignableTo #[rty 142, rtv 143]).run Tryz.prog w = .ok (.bool false) w := by kernel_rfl
set_option maxHeartbeats 4000000 in
theorem as_miss (c:Int)(t:Addr)(w:World)(hg:w.cell? ⟨0,0,none⟩=some Qnk) :
 Calls Tryz.prog 66 #[Qqa c,.iface 145 (.pointer (some t))] w fun ev w'=>ev=.returned (.bool false)∧w'=asX t 145 w:=by
 have h6:=@run_callFunc_extern Tryz.prog 129 _ (fun args=>ReflectliteValue.unpack (args.getD 0 (.tuple #[]))) Tryz.func129 (by kernel_rfl) (by kernel_rfl) (by kernel_rfl) (by kernel_rfl)
 have h7 := @run_callFunc_extern Tryz.prog 130 _ (ReflectliteValue.methodAny (ReflectliteValue.valueError "reflectlite.Value.Type" 0) (fun t _ _ _ => ReflectliteType.toType t)) Tryz.func130 (by kernel_rfl) (by kernel_rfl) (by kernel_rfl) (by kernel_rfl)
 have h8 := @run_callFunc_extern Tryz.prog 131 _ (ReflectliteValue.method (ReflectliteValue.valueError "reflectlite.Value.IsNil" 0) ReflectliteValue.isNil) Tryz.func131 (by kernel_rfl) (by kernel_rfl) (by kernel_rfl) (by kernel_rfl)
 have h27:=@run_callFunc_extern Tryz.prog 257 _ (ReflectliteType.abiMethod fun t=>do pure (.int .u8 (←Rtype.kind t))) Tryz.func257 (by kernel_rfl) (by kernel_rfl) (by kernel_rfl) (by kernel_rfl);have h37:=@run_callFunc_extern Tryz.prog 269 _ (ReflectliteType.method ReflectliteType.elem) Tryz.func269 (by kernel_rfl) (by kernel_rfl) (by kernel_rfl) (by kernel_rfl)
 have h38 := @run_callFunc_extern Tryz.prog 270 _ (ReflectliteType.relation "Implements" ReflectliteType.implements_) Tryz.func270 (by kernel_rfl) (by kernel_rfl) (by kernel_rfl) (by kernel_rfl)
 have h10:=@run_callFunc_extern Tryz.prog 127 _ ReflectliteType.typeOf Tryz.func127 (by kernel_rfl) (by kernel_rfl) (by kernel_rfl) (by kernel_rfl)
 have h35 := @run_callFunc_extern Tryz.prog 267 _ (ReflectliteType.relation "AssignableTo" ReflectliteType.assignableTo) Tryz.func267 (by kernel_rfl) (by kernel_rfl) (by kernel_rfl) (by kernel_rfl)
 have h11 := @run_callFunc_extern Tryz.prog 178 _ (ReflectliteValue.method (ReflectliteValue.valueError "reflectlite.Value.Elem" 0) ReflectliteValue.elem) Tryz.func178 (by kernel_rfl) (by kernel_rfl) (by kernel_rfl) (by kernel_rfl)
 have h12:=@run_callFunc_extern Tryz.prog 179 _ ReflectliteValue.set Tryz.func179 (by kernel_rfl) (by kernel_rfl) (by kernel_rfl) (by kernel_rfl);have mA:=Qdr;have mK:=Qna;have mE:=Qmy;have mI:=Qer;have tO:=Qlw;have aS:=Qlj;have f6:=Qja;have f7:=Qpk;have kP:=Qpg;have kE:=Qtm;have eL:=Qsx;have iM:=Qgs;have nA:=er_noAs;have nU:=Qrs;have nV:=Qoa;have n8:=Qnu ⟨w.heap.size,0,none⟩ t (asW t 145 w) (by simp);have hlt:0<w.heap.size:=Qak hg
 have hg2:(asW t 145 w).cell? ⟨0,0,none⟩=some Qnk:=by
  rw [World.cell?_alloc_lt _ _ ⟨0,0,none⟩ (by simp),World.cell?_alloc_lt _ _ ⟨0,0,none⟩ hlt]; exact hg
 go_enter Tryz.func66,Tryz.ntmps66
 go_wp2
 refine wp_loop_rounds 1 ?_;rw [rounds_succ]
 go_wp2
 go_ret
 exact ⟨rfl,rfl⟩
end Go.Proofs.YteaoiabikjnkeaaGreatDoor
namespace Go.Proofs.YteaoiabikjnkeaaGreatDoor
open Go.RowKit Go.Extern.Stop Go.Stop Go.Extern
theorem Qef (t:Addr)(p:Nat)(w:World):Below w.heap.size w (asX t p w):=Qah
theorem as_fault (b o g:Nat)(old:Value)(w:World)(hg:w.cell? ⟨0,0,none⟩=some Qnk)(ht0:w.cell? ⟨g,0,none⟩=some old)(hf0:w.frozen? ⟨g,0,none⟩=false) :
 Calls Tryz.prog 66 #[fltV b o,.iface 145 (.pointer (some ⟨g,0,none⟩))] w fun ev w'=>ev=.returned (.bool true)∧w'.cell? ⟨g,0,none⟩=some (.pointer (some ⟨b,o,none⟩))∧Below g w w' :=
 (as_hitF ⟨b,o,none⟩ ⟨g,0,none⟩ old w hg ht0 hf0).mono fun e w' ⟨he,hw⟩=>by
  have hlt:=Qak ht0;have hb:Below g w (asX ⟨g,0,none⟩ 145 w):=(Qef _ _ w).mono (Nat.le_of_lt hlt);have hb2:Below g w ((asX ⟨g,0,none⟩ 145 w).alloc (.cells #[.pointer (some ⟨b,o,none⟩)] 143)):=hb.alloc (Nat.le_trans (Nat.le_of_lt hlt) (Qef _ _ w).size) _;refine ⟨he,?_,?_⟩
  · rw [hw]
    have hc:((asX ⟨g,0,none⟩ 145 w).alloc (.cells #[.pointer (some ⟨b,o,none⟩)] 143)).cell? ⟨g,0,none⟩=some old :=
     Zc (Bel.alloc (Qef ⟨g,0,none⟩ 145 w)) (Zn _) ht0
    exact World.cell?_setCell_same _ _ _ hc
  · rw [hw]; exact hb2.setCell (Zn _) _
theorem as_errno (c:Int)(g:Nat)(old:Value)(w:World)(hg:w.cell? ⟨0,0,none⟩=some Qnk)(ht0:w.cell? ⟨g,0,none⟩=some old)(hf0:w.frozen? ⟨g,0,none⟩=false) :
 Calls Tryz.prog 66 #[Qqa c,.iface 150 (.pointer (some ⟨g,0,none⟩))] w fun ev w'=>ev=.returned (.bool true)∧w'.cell? ⟨g,0,none⟩=some (.int .i64 c)∧Below g w w' :=
 (as_hitE c ⟨g,0,none⟩ old w hg ht0 hf0).mono fun e w' ⟨he,hw⟩=>by
  have hlt:=Qak ht0;have hb:Below g w (asX ⟨g,0,none⟩ 150 w):=(Qef _ _ w).mono (Nat.le_of_lt hlt);have hb2:Below g w ((asX ⟨g,0,none⟩ 150 w).alloc (.cells #[.int .i64 c] 142)):=hb.alloc (Nat.le_trans (Nat.le_of_lt hlt) (Qef _ _ w).size) _;refine ⟨he,?_,?_⟩
  · rw [hw]
    have hc:((asX ⟨g,0,none⟩ 150 w).alloc (.cells #[.int .i64 c] 142)).cell? ⟨g,0,none⟩=some old :=
     Zc (Bel.alloc (Qef ⟨g,0,none⟩ 150 w)) (Zn _) ht0
    exact World.cell?_setCell_same _ _ _ hc
  · rw [hw]; exact hb2.setCell (Zn _) _
theorem as_none (c:Int)(g:Nat)(w:World)(hg:w.cell? ⟨0,0,none⟩=some Qnk) :
 Calls Tryz.prog 66 #[Qqa c,.iface 145 (.pointer (some ⟨g,0,none⟩))] w fun ev w'=>ev=.returned (.bool false)∧Below w.heap.size w w' :=
 (as_miss c ⟨g,0,none⟩ w hg).mono fun e w' ⟨he,hw⟩=>⟨he,by rw [hw]; exact Qef _ _ w⟩
set_option maxHeartbeats 1000000 in
theorem Qxi (A:Option Addr)(n c:Nat)(w:World) :
 Calls Tryz.prog 21 #[.nilIface,.agg #[.slice A n c,.int .i64 0]] w fun e w'=>e=.returned (.bool true)∧Below w.heap.size w w':=by
 go_enter Tryz.func21,Tryz.ntmps21
 go_wp2
 go_ret
 exact ⟨rfl,Qah⟩
theorem Quf {w:World}{v:Value} {ps:List (ByteArray×Int)} {c:Int} {k:Nat} {p:ByteArray×Int} (hk:ps[k]?=some p) (h:Qcz w v (ps.drop k) c) :
 ∃ b o u,v=fltV b o∧w.cell? ⟨b,o,none⟩=some (.string p.1)∧w.cell? ⟨b,o+1,none⟩=some (.int .i64 p.2)∧w.cell? ⟨b,o+2,none⟩=some u∧Qcz w u (ps.drop (k+1)) c:=by
 have hlt:=(Zs hk).1;rw [List.drop_eq_getElem_cons hlt] at h;have e:ps[k]=p:=(Zs hk).2;rw [e] at h;exact h
attribute [local go_sem ↓] Go.wp_at_zero Go.wp_at_succ
set_option maxHeartbeats 4000000 in
theorem Qhs (v:Value)(A:Option Addr)(n c:Nat) (ps:List (ByteArray×Int)) (c0:Int) (w:World) (h:Qcz w v ps c0) (hr:RdW w A n ps) (hc0:c0≠0) (hg:w.cell? ⟨0,0,none⟩=some Qnk) (hn:n≤4000000000000000000) :
 Calls Tryz.prog 21 #[v,.agg #[.slice A n c,.int .i64 c0]] w fun e w'=>e=.returned (.bool true)∧Below w.heap.size w w':=by
 have HI:∀ (W:World),Below w.heap.size w W→Calls Tryz.prog 65 #[v,Qqa c0] W fun e w'=>e=.returned (.bool true)∧w'=W:=fun W hb=>errorsIs v ps c0 W (Qcz.below hb h)
 have HI':=Zh HI; clear HI;obtain ⟨tvv,xv,hv⟩:=Qbq h;have hlt0:=Qak hg;have HC:=Zh hc0;have HCH:=Zh h;subst hv;clear h
 go_enter Tryz.func21,Tryz.ntmps21
 go_wp2_with fail
 with_reducible refine (HI'.out _ Qah).mono ?_
 rintro e w' ⟨rfl,rfl⟩;clear HI'
 go_wp2_with fail
 (refine Qaj ?_; intro w1 hw1)
 have hb1:Below w.heap.size w w1:=by rw [hw1]; exact Qah
 have hx0:w1.cell? ⟨w.heap.size,0,none⟩=some (.slice A n c):=by rw [hw1]; simp
 have hx1:w1.cell? ⟨w.heap.size,1,none⟩=some (.int .i64 c0):=by rw [hw1]; simp
 have hg1:w1.cell? ⟨0,0,none⟩=some Qnk:=Zc hb1 (Zn _) hg;have hr1:=hr.below hb1;have hch:=Qcz.below hb1 HCH.out;have HCH1:=Zh hch;clear hch HCH hr hw1 hg
 go_loopw [0,5] (fun u i W=>∃ (k:Nat),k≤n∧i=.int .i64 k∧Qcz W u (ps.drop k) c0∧Below w1.heap.size w1 W) (fun _ i _=>n-(intOf i).toNat)
 case atStart=>exact ⟨0,Nat.zero_le _,rfl,HCH1.out,Zr _ _⟩
 case round =>
  obtain ⟨k,hk,rfl,hch,hbl⟩:=hrel;have y0:=Zc hbl (Zn _) hx0
  by_cases hlt:k<n
  · have hlen:=hr1.1
    obtain ⟨p,hp⟩:∃ p,ps[k]?=some p:=⟨ps[k],Zg (by omega)⟩;obtain ⟨pb,po,rfl,hp1,hp2⟩:=hr1.2 k p hp;obtain ⟨b,o,u,rfl,hc1,hc2,hc3,hc4⟩:=Quf hp hch;obtain ⟨tu,xu,hu⟩:=Qbq hc4;have HP:=Zh hp;have H4:=Zh hc4;have z:=hbl.size;clear hp hch hlen hc4;subst hu;obtain ⟨s,q0⟩:=p
    go_wp2_with fail
    (refine Qaj ?_; intro W5 hW5)
    have hb5:Below w1.heap.size w1 W5:=by rw [hW5]; exact Qah
    have hbr:Below wr.heap.size wr W5:=by rw [hW5]; exact Qah
    have ht5:W5.cell? ⟨wr.heap.size,0,none⟩=some (.pointer none):=by rw [hW5]; simp
    have hf5:W5.frozen? ⟨wr.heap.size,0,none⟩=false:=by rw [hW5]; simp
    have hg5:=Zc hb5 (Zn _) hg1;have hz5:=Qak ht5
    have HA:∀ V,Below W5.heap.size W5 V→Calls Tryz.prog 66 #[fltV b o,.iface 145 (.pointer (some ⟨wr.heap.size,0,none⟩))] V fun ev w'=>ev=.returned (.bool true)∧w'.cell? ⟨wr.heap.size,0,none⟩=some (.pointer (some ⟨b,o,none⟩))∧Below wr.heap.size W5 w':=fun V hV =>
     (as_fault b o wr.heap.size _ V (Zc hV (Zn _) hg5) (Zc hV (Zn _) ht5) ((Below.frozenOf hV hz5).trans hf5)).mono fun _ _ ⟨h1,h2,h3⟩=>⟨h1,h2,(hV.mono (Nat.le_of_lt hz5)).trans h3⟩
    have HA':=Zh HA; clear HA;clear hW5 hf5 hg5;refine wp_region_held_drew (S:=fun _=>True) (by kernel_rfl) trivial (fun _=>?_);refine tz 0 31 ?_;refine tz 1 32 ?_;refine Zk 2 (fun K hK=>?_);go_simp
    go_at_call 66
    with_reducible refine (HA'.out _ Qah).mono ?_
    rintro e w6 ⟨rfl,ht6,hb6⟩;have hb7:Below wr.heap.size wr w6:=hbr.trans hb6;have c6:=Zc hb7 (Zn _) hc1;have d6:=Zc hb7 (Zn _) hc2;have e6:=Zc hb7 (Zn _) hc3;have y6:=Zc hb7 (Zn _) y0;have p6:=Zc hb7 (Zn _) (Zc hbl (Zn _) hp1);have q6:=Zc hb7 (Zn _) (Zc hbl (Zn _) hp2)
    go_wp2_with fail
    refine hK.out _ _ trivial (fun _=>?_);clear hK K;refine Qjz (S':=fun V=>V=w6) (fun _ _=>trivial) _ _ _ _ ?_;have i1:(0:Int)≤(k:Int):=by omega
    have i2:(k:Int)<(n:Int):=by omega
    clear hc1 hc2 hc3 y0 hp1 hp2 HA' hx1 hb5 hbr ht5 hz5;refine tz 3 34 ?_;refine tz 4 35 ?_;refine tz 5 36 ?_;refine tz 6 37 ?_;refine tz 7 38 ?_;refine tz 8 39 ?_;refine tz 9 40 ?_;refine tz 10 41 ?_;refine tz 11 42 ?_;refine tz 12 43 ?_;refine tz 13 44 ?_;refine tz 14 45 ?_;refine tz 15 46 ?_;refine tz 16 47 ?_;refine tz 17 48 ?_;refine tz 18 49 ?_;refine tz 19 50 ?_;refine tz 20 51 ?_;refine tz 21 52 ?_;refine tz 22 53 ?_;refine tz 23 54 ?_;refine tz 24 55 ?_;refine tz 25 56 ?_;refine tz 26 57 ?_;refine tz 27 58 ?_;refine tz 28 59 ?_;refine tz 29 60 ?_;refine tz 30 61 ?_;refine tz 31 62 ?_;refine tz 32 63 ?_;refine tz 33 64 ?_;refine wpAnyH_done (by kernel_rfl) ?_ _
    go_wp2_with fail
    exact ⟨⟨k+1,by omega,by go_num,Qcz.below hb7 H4.out,Zb hbl hb7⟩,by simp [intOf]; omega⟩
  · obtain rfl:k=n:=by omega
    rw [List.drop_of_length_le (by have:=hr1.1; omega)] at hch;unfold Qcz at hch;subst hch;have x1:=Zc hbl (Zn _) hx1;have gr:=Zc hbl (Zn _) hg1;have z:=hbl.size;clear hx0 hr1 hx1
    go_wp2_with fail
    (refine Qad ?_; intro W5 hW5)
    have hbr:Below wr.heap.size wr W5:=by rw [hW5]; exact Qah
    have ht5:W5.cell? ⟨wr.heap.size+1,0,none⟩=some (.int .i64 0):=by rw [hW5]; simp
    have hf5:W5.frozen? ⟨wr.heap.size+1,0,none⟩=false:=by rw [hW5]; simp
    have g5:=Zc hbr (Zn _) gr;have z5:=Qak ht5;clear hW5;with_reducible refine (as_none c0 wr.heap.size _ g5).mono ?_
    rintro e w6 ⟨rfl,hb6⟩;have hb56:=hbr.trans (hb6.mono hbr.size)
    go_wp2_with fail
    with_reducible refine (as_errno c0 (wr.heap.size+1) _ _ (Zc hb6 (Zn _) g5) (Zc hb6 (Zn _) ht5) ((Below.frozenOf hb6 z5).trans hf5)).mono ?_
    rintro e w7 ⟨rfl,ht7,hb7⟩;have hb8:Below wr.heap.size wr w7:=hb56.trans (hb7.mono (Nat.le_succ _));have x7:=Zc hb8 (Zn _) x1;clear hb6 hb7 hb56 ht5 hf5
    go_wp2_with fail
    go_ret
    exact ⟨rfl,Qah⟩
end Go.Proofs.YteaoiabikjnkeaaGreatDoor
