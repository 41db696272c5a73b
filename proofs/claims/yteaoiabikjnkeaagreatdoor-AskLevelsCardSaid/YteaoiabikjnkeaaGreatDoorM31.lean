/- Parts of the proof: Err, Ft, AsF, AsD. -/
import Derived.Test.YteaoiabikjnkeaaGreatDoorM1
import Derived.Test.YteaoiabikjnkeaaGreatDoorM24
import Derived.Test.YteaoiabikjnkeaaGreatDoorM28
import Derived.Test.YteaoiabikjnkeaaGreatDoorM30
import Derived.LaidEql
import Derived.Stop.Asserts
import Derived.RowKitTokens
import Derived.Lib.IfaceEq
import Derived.Stop.IfaceNil
namespace Go.Proofs.YteaoiabikjnkeaaGreatDoor
open Go.RowKit Go.Extern.Stop Go.Stop Go.Extern
abbrev Qqa (c:Int):Value:=.iface 142 (.int .i64 c)
abbrev fltV (b o:Nat):Value:=.iface 143 (.pointer (some ⟨b,o,none⟩))
def Qcz (w:World):Value→List (ByteArray×Int)→Int→Prop
 | v,[],c=>v=Qqa c
 | v,p::ps,c=>∃ b o u,v=fltV b o∧w.cell? ⟨b,o,none⟩=some (.string p.1)∧w.cell? ⟨b,o+1,none⟩=some (.int .i64 p.2)∧w.cell? ⟨b,o+2,none⟩=some u∧Qcz w u ps c
theorem Qcz.below {w w':World}(hb:Below w.heap.size w w'):∀ {ps:List (ByteArray×Int)} {v:Value} {c:Int},Qcz w v ps c→Qcz w' v ps c
 | [],_,_,h=>h
 | _::_,_,_,h=>by
  obtain ⟨b,o,u,h1,h2,h3,h4,h5⟩:=h;exact ⟨b,o,u,h1,Zc hb (Zn _) h2,Zc hb (Zn _) h3,Zc hb (Zn _) h4,Qcz.below hb h5⟩
/-! closed facts -/
theorem Qym (v:Value)(w:World):(ReflectliteType.typeOf #[.iface 142 v]).run Tryz.prog w=.ok (.iface 300 (.agg #[.pointer (some ⟨1,142,none⟩)])) w:=by kernel_rfl
def erComp : Array Value → Sem Value := ReflectliteType.method fun t => do Rtype.noPackHeld "Comparable" t; pure (.bool (← typeInfo t).comparable)
theorem Qmt (w:World):(erComp #[.agg #[.pointer (some ⟨1,142,none⟩)]]).run Tryz.prog w=.ok (.bool true) w:=by kernel_rfl
theorem Qld (v : Value) (w : World) : (Go.method 497 300 v "Comparable").run Tryz.prog w = .ok (268, v) w := by kernel_rfl
theorem er_noIs (v:Value)(xT:TypeId)(w:World):(Instr.typeAssert (.iface 142 v) xT 302 true).run Tryz.prog w=.ok (.tuple #[.nilIface,.bool false]) w:=run_typeAssert_lacksB Tryz.underlying302 (by kernel_rfl) (by kernel_rfl) v xT w
theorem er_noIsF (v:Value)(xT:TypeId)(w:World):(Instr.typeAssert (.iface 143 v) xT 302 true).run Tryz.prog w=.ok (.tuple #[.nilIface,.bool false]) w:=run_typeAssert_lacksB Tryz.underlying302 (by kernel_rfl) (by kernel_rfl) v xT w
theorem Qrs (v:Value)(xT:TypeId)(w:World):(Instr.typeAssert (.iface 142 v) xT 305 true).run Tryz.prog w=.ok (.tuple #[.nilIface,.bool false]) w:=run_typeAssert_lacksB Tryz.underlying305 (by kernel_rfl) (by kernel_rfl) v xT w
theorem Qoa (v:Value)(xT:TypeId)(w:World):(Instr.typeAssert (.iface 142 v) xT 307 true).run Tryz.prog w=.ok (.tuple #[.nilIface,.bool false]) w:=run_typeAssert_lacksB Tryz.underlying307 (by kernel_rfl) (by kernel_rfl) v xT w
theorem er_noAs (v:Value)(xT:TypeId)(w:World):(Instr.typeAssert (.iface 142 v) xT 312 true).run Tryz.prog w=.ok (.tuple #[.nilIface,.bool false]) w:=run_typeAssert_lacksB Tryz.underlying312 (by kernel_rfl) (by kernel_rfl) v xT w
theorem Qnb (v:Value)(xT:TypeId)(w:World):(Instr.typeAssert (.iface 143 v) xT 305 true).run Tryz.prog w=.ok (.tuple #[.iface 143 v,.bool true]) w:=run_typeAssert_hasB Tryz.underlying305 (by kernel_rfl) v xT w
theorem Que (v : Value) (w : World) : (Go.method 497 143 v "Unwrap").run Tryz.prog w = .ok (262, v) w := by kernel_rfl
theorem er_comp:(Tryz.prog.info? 142).map (·.comparable)=some true:=by kernel_rfl
theorem er_eq (a b:Int)(w:World):(binOp .eql 43 (Qqa a) (Qqa b)).run Tryz.prog w=.ok (.bool (a == b)) w:=Lib.run_eql_iface_int w a b Tryz.underlying43 er_comp Tryz.underlying142
theorem er_ne (p:Value)(b:Int)(w:World):(binOp .eql 43 (.iface 143 p) (Qqa b)).run Tryz.prog w=.ok (.bool false) w:=run_eql_iface_types (P:=Tryz.prog) 143 142 p (.int .i64 b) Tryz.underlying43 (by decide) w
theorem Qku {w:World}{v:Value} {ps:List (ByteArray×Int)} {c:Int} (h:Qcz w v ps c):v=Qqa c∧ps=[]∨∃ b o u p t,v=fltV b o∧ps=p::t∧w.cell? ⟨b,o,none⟩=some (.string p.1)∧w.cell? ⟨b,o+1,none⟩=some (.int .i64 p.2)∧w.cell? ⟨b,o+2,none⟩=some u∧Qcz w u t c:=by
 cases ps with
 | nil=>exact .inl ⟨h,rfl⟩
 | cons p t=>obtain ⟨b,o,u,h1,h2,h3,h4,h5⟩:=h; exact .inr ⟨b,o,u,p,t,h1,rfl,h2,h3,h4,h5⟩
theorem Qbq {w:World}{v:Value} {ps:List (ByteArray×Int)} {c:Int} (h:Qcz w v ps c):∃ t x,v=.iface t x:=by
 rcases Qku h with ⟨h,_⟩ | ⟨b,o,u,p,t,h,_⟩ <;> exact ⟨_,_,h⟩
theorem Qpb {w:World}:∀ {ps qs:List (ByteArray×Int)} {v:Value} {c d:Int},Qcz w v ps c→Qcz w v qs d→ps.length=qs.length
 | [],[],_,_,_,_,_=>rfl
 | [],_::_,_,_,_,h,g=>by obtain ⟨b,o,u,h1,_⟩:=g; unfold Qcz at h; rw [h] at h1; cases h1
 | _::_,[],_,_,_,g,h=>by obtain ⟨b,o,u,h1,_⟩:=g; unfold Qcz at h; rw [h] at h1; cases h1
 | _::_,_::_,_,_,_,h,g=>by
  obtain ⟨b,o,u,h1,_,_,h2,h3⟩:=h;obtain ⟨b',o',u',g1,_,_,g2,g3⟩:=g;rw [h1] at g1
  cases g1
  rw [h2] at g2
  cases g2
  simp [Qpb h3 g3]
noncomputable def Qjl (w:World) (v:Value):Nat:=by
 classical exact if h:∃ n c,∃ ps,Qcz w v ps c∧ps.length=n then h.choose else 0
theorem Qqi {w:World} {ps:List (ByteArray×Int)} {v:Value} {c:Int} (h:Qcz w v ps c):Qjl w v=ps.length:=by
 have hex:∃ n c,∃ ps,Qcz w v ps c∧ps.length=n:=⟨_,c,ps,h,rfl⟩;unfold Qjl;rw [dif_pos hex];obtain ⟨d,qs,g,hl⟩:=hex.choose_spec;rw [←hl];exact Qpb g h
theorem Qub (b o:Nat)(u:Value)(w:World)(h:w.cell? ⟨b,o+2,none⟩=some u) :
 Calls Tryz.prog 262 #[.pointer (some ⟨b,o,none⟩)] w fun e w'=>e=.returned u∧w'=w:=by
 go_enter Tryz.func262,Tryz.ntmps262
 go_wp2
 go_ret
 exact ⟨rfl,rfl⟩
set_option maxHeartbeats 1000000 in
theorem is_loop (v:Value) (ps:List (ByteArray×Int)) (c:Int) (w:World) (h:Qcz w v ps c) :
 Calls Tryz.prog 128 #[v,Qqa c,.bool true] w fun e w'=>e=.returned (.bool true)∧w'=w:=by
 have nE:=er_noIs;have nF:=er_noIsF;have uF:=Qnb;have mU:=Que;have heq:=er_eq;have hne:=er_ne;have hCL:∀ (ps:List (ByteArray×Int)) (v:Value) (c:Int),Qcz w v ps c→Qjl w v=ps.length:=fun _ _ _ h=>Qqi h
 have HCL:=Zh hCL; clear hCL;have HU:∀ (b o:Nat) (u:Value),w.cell? ⟨b,o+2,none⟩=some u→Calls Tryz.prog 262 #[.pointer (some ⟨b,o,none⟩)] w fun e w'=>e=.returned u∧w'=w:=fun b o u h=>Qub b o u w h
 have HU':=Zh HU; clear HU
 go_enter Tryz.func128,Tryz.ntmps128
 go_wp2
 go_loop [0] (fun i=>∃ qs,Qcz w i qs c) (fun i=>Qjl w i)
 case atStart=>exact ⟨ps,h⟩
 case round =>
  obtain ⟨qs,hq⟩:=hrel
  rcases Qku hq with ⟨rfl,rfl⟩ | ⟨b,o,u,p,t,rfl,rfl,h1,h2,h3,h4⟩
  · clear hq h
    go_wp2
    go_ret
    exact ⟨rfl,rfl⟩
  · obtain ⟨tu,xu,rfl⟩:=Qbq h4
    have e1:=HCL.out _ _ _ hq;have e2:=HCL.out _ _ _ h4;have E1:=Zh e1; clear e1;have E2:=Zh e2; clear e2;have H4:=Zh h4; clear h4;have h3':=h3;clear hq h
    go_wp2_with (go_at_call 262; refine (HU'.out b o _ h3).mono ?_; rintro e w' ⟨rfl,rfl⟩)
    go_round
    case rel=>exact ⟨t,H4.out⟩
    case measure=>rw [E1.out,E2.out]; simp
set_option maxHeartbeats 1000000 in
theorem errorsIs (v:Value) (ps:List (ByteArray×Int)) (c:Int) (w:World) (h:Qcz w v ps c) :
 Calls Tryz.prog 65 #[v,Qqa c] w fun e w'=>e=.returned (.bool true)∧w'=w:=by
 have h10:=@run_callFunc_extern Tryz.prog 127 _ ReflectliteType.typeOf Tryz.func127 (by kernel_rfl) (by kernel_rfl) (by kernel_rfl) (by kernel_rfl);have h32:=@run_callFunc_extern Tryz.prog 268 _ erComp Tryz.func268 (by kernel_rfl) (by kernel_rfl) (by kernel_rfl) (by kernel_rfl);have tT:=Qym;have cT:=Qmt;have mR:=Qld;have HL:=Zh (is_loop v ps c w h);obtain ⟨tv,xv,rfl⟩:=Qbq h;clear h
 go_enter Tryz.func65,Tryz.ntmps65
 go_wp2_with (go_at_call 128; refine (HL.out).mono ?_; rintro e w' ⟨rfl,rfl⟩)
 go_ret
 exact ⟨rfl,rfl⟩
end Go.Proofs.YteaoiabikjnkeaaGreatDoor
namespace Go.Proofs.YteaoiabikjnkeaaGreatDoor
open Go.RowKit
def RdW (w:World)(A:Option Addr)(n:Nat) (l:List (ByteArray×Int)):Prop :=
 l.length=n∧∀ i x,l[i]?=some x→∃ b o,A=some ⟨b,o,none⟩∧w.cell? ⟨b,o+i*2,none⟩=some (.string x.1)∧w.cell? ⟨b,o+i*2+1,none⟩=some (.int .i64 x.2)
theorem RdW.below {w w':World}{A:Option Addr}{n:Nat} {l:List (ByteArray×Int)} (h:RdW w A n l) (hb:Below w.heap.size w w'):RdW w' A n l :=
 ⟨h.1,fun i x hx=>by obtain ⟨b,o,e,hc,hd⟩:=h.2 i x hx; exact ⟨b,o,e,Zc hb (Zn _) hc,Zc hb (Zn _) hd⟩⟩
def Wrg (w:World)(v:Value) (ps:List (ByteArray×Int)) (c:Int):Prop:=∃ A n m,v=.agg #[.slice A n m,.int .i64 c]∧RdW w A n ps∧n≤1000000
theorem Qvq (s:ByteArray)(k c:Int)(w:World):Calls Tryz.prog 50 #[.string s,.int .i64 k,.int .i64 c] w fun e w'=>∃ v,e=.returned v∧Wrg w' v [(s,k)] c∧Below w.heap.size w w':=by
 go_enter Tryz.func50,Tryz.ntmps50
 go_wp2
 refine bodyPost_ret (v:=.agg #[.slice (some ⟨w.heap.size+1,0,none⟩) 1 1,.int .i64 c]) (by simp [results,Tryz.results50,go_sem]) rfl ?_;refine ⟨_,rfl,⟨_,1,1,rfl,⟨rfl,fun i x hx=>?_⟩,by omega⟩,Qah⟩
 match i,hx with
 | 0,hx=>cases hx; exact ⟨_,_,rfl,by simp,by simp⟩
 | i+1,hx=>simp at hx
attribute [local go_sem ↓] Go.wp_at_zero Go.wp_at_succ
def FromP (N:Qao)(s:Nat)(dl:List Int):Prop:=(wV N s=1152921504606846976∧dl=List.replicate N.ar.length 1152921504606846976)∨(wV N s≠1152921504606846976∧BfF N s dl∧BfG N dl N.ar.length 0)
def FromPost (w:World)(N:Qao)(m s:Nat)(r:Ending)(w':World):Prop:=(∃ (D:Nat) (dl:List Int),r=.returned (.slice (some ⟨D,0,none⟩) m m)∧Blk w' D 2 (Qcb dl)∧dl.length=m∧FromP N s dl)∧Below w.heap.size w w'
set_option maxRecDepth 20000 in
set_option maxHeartbeats 4000000 in
theorem Qus (A B C NX TX:Option Addr)(n m k c d e cx ct s:Nat)(N:Qao)(w:World)(h:Qbv w A B C n m k N)(hok:Qau N) (hnx:RdT w NX m (Qmi N)) (htx:RdT w TX m (Qmd N)) (hs:s<m) :
 Calls Tryz.prog 68 #[.agg #[.slice A n c,.slice B m d,.slice C k e,.slice NX m cx,.slice TX m ct],.int .i64 s] w (FromPost w N m s):=by
 have HH:=Zh h;have hlm:N.ar.length=m:=h.2.1.1;have hln:N.vs.length=n:=h.1.1;have hm:m≤16384:=by rw [←hlm]; exact hok.la
 have HNX:=Zh hnx;have HTX:=Zh htx;have HLM:=Zh hlm;have i1:(0:Int)≤(s:Int):=by omega
 have i2:(s:Int)<(m:Int):=by omega
 have HTB:=Zh (fun a b:Nat=>Qdb hok a b);obtain ⟨ys,hys⟩:∃ y,N.ar[s]?=some y:=⟨_,Zg (by omega)⟩;have HYS:=Zh hys
 have HRW:=Zh (show ∀ a,a<m→∃ nb no na nc tb to_ ta tc,NX=some ⟨nb,no,none⟩∧TX=some ⟨tb,to_,none⟩∧∀ V,Below w.heap.size w V→V.cell? ⟨nb,no+a,none⟩=some (.slice na (Qgt N a).length nc)∧V.cell? ⟨tb,to_+a,none⟩=some (.slice ta (Qgt N a).length tc)∧RdI V na (Qgt N a).length (Qgt N a)∧RdI V ta (Qgt N a).length (Qpx N a) from fun a ha=>by
  obtain ⟨nb,no,na,n1,nc,l1,e1,g1,g2,g3,_,_⟩:=HNX.out.at_ ha;obtain ⟨tb,to_,ta,n2,tc,l2,e2,f1,f2,f3,_,_⟩:=HTX.out.at_ ha;rw [Quj (by rw [HLM.out]; exact ha)] at g1
  cases g1
  rw [Qvf (by rw [HLM.out]; exact ha)] at f1
  cases f1
  have q1:n1=(Qgt N a).length:=g3.1.symm;have q2:n2=(Qgt N a).length:=by rw [←trn_len]; exact f3.1.symm
  subst q1;rw [q2] at f2 f3;exact ⟨nb,no,na,nc,tb,to_,ta,tc,e1,e2,fun V hV=>⟨Zc hV (Zn _) g2,Zc hV (Zn _) f2,g3.below hV,f3.below hV⟩⟩)
 obtain ⟨nb0,no0,_,_,tb0,to0,_,_,rfl,rfl,_⟩:=HRW.out s hs;clear h hnx htx hlm hln hys
 go_enter Tryz.func68,Tryz.ntmps68
 go_wp2_with fail
 (refine Qad ?_; intro w1 hw1)
 have hb1:Below w.heap.size w w1:=by rw [hw1]; exact Qah
 have hX1:Blk w1 w.heap.size 53 #[.slice A n c,.slice B m d,.slice C k e,.slice (some ⟨nb0,no0,none⟩) m cx,.slice (some ⟨tb0,to0,none⟩) m ct]:=by rw [hw1]; refine Blk.new' _ _ _ ?_; rfl
 clear hw1;with_reducible refine (never_ok m w1 (by omega)).mono ?_
 rintro r w2 ⟨rfl,hD2,hb2⟩;obtain ⟨D,hDe⟩:∃ D,D=w1.heap.size:=⟨_,rfl⟩;rw [←hDe] at hD2 ⊢;have HW2:=Zh (show BfW w D #[.slice A n c,.slice B m d,.slice C k e,.slice (some ⟨nb0,no0,none⟩) m cx,.slice (some ⟨tb0,to0,none⟩) m ct] w2 (List.replicate m 1152921504606846976) from ⟨Zb hb1 hb2,hX1.below hb2 hX1.lt,hD2,by rw [hDe]; exact hX1.lt⟩)
 clear hDe hD2 hb1 hb2 hX1;have x0:w2.cell? ⟨w.heap.size,0,none⟩=some (.slice A n c):=by rw [HW2.out.box.cell]; rfl
 have x1:w2.cell? ⟨w.heap.size,1,none⟩=some (.slice B m d):=by rw [HW2.out.box.cell]; rfl
 have x2:w2.cell? ⟨w.heap.size,2,none⟩=some (.slice C k e):=by rw [HW2.out.box.cell]; rfl
 have xl:=HW2.out.box.lt
 go_wp2_with fail
 with_reducible refine (Qcd A B C n m k c d e (s:Int) w2 i1 i2).mono ?_
 rintro r w3 ⟨rfl,hb3⟩;have HW3:=Zh (HW2.out.below hb3);clear x0 x1 x2 xl hb3 HW2;obtain ⟨yb,yo,rfl,y0,y1,y2⟩:=(HH.out.below HW3.out.bel).2.1.2 s _ HYS.out;have x1:w3.cell? ⟨w.heap.size,1,none⟩=some (.slice (some ⟨yb,yo,none⟩) m d):=by rw [HW3.out.box.cell]; rfl
 have hw3l:=(Qbn HYS.out).2.2;obtain ⟨z0,hz0⟩:∃ z,z=ys.2.2:=⟨_,rfl⟩;rw [←hz0] at y2 hw3l;have HZS:=Zh hw3l;clear y0 y1 hz0 hw3l
 by_cases hinf:z0=1152921504606846976
 · have e1:(z0 == 1152921504606846976)=true:=by simp [hinf]
   go_wp2_with fail
   go_ret
   exact ⟨⟨D,_,rfl,HW3.out.row,by simp,.inl ⟨by rw [HZS.out]; exact hinf,by rw [HLM.out]⟩⟩,HW3.out.bel⟩
 have e1:(z0 == 1152921504606846976)=false:=by simp [hinf]
 have HNI:=Zh (show wV N s≠1152921504606846976 by rw [HZS.out]; exact hinf)
 have d0:=HW3.out.row.cellI (i:=s) (x:=1152921504606846976) (by rw [List.getElem?_replicate,if_pos hs]);have df:=HW3.out.row.frozen s;have HW4:=Zh (HW3.out.set s 0);have HF0:=Zh (BfF.start (N:=N) (s:=s) (by rw [HLM.out]; exact hs));rw [HLM.out] at HF0;clear hinf
 go_wp2_with fail
 clear x1 y2 d0 df
 go_loopw [6] (fun um V=>∃ (dl:List Int) (more:Bool),um=.bool more∧BfW w D #[.slice A n c,.slice (some ⟨yb,yo,none⟩) m d,.slice C k e,.slice (some ⟨nb0,no0,none⟩) m cx,.slice (some ⟨tb0,to0,none⟩) m ct] V dl∧BfF N s dl∧(more=false→BfG N dl m 0)) (fun um V=>2*Qty (rowOf V D)+(match um with | .bool true=>1 | _=>0))
 case atStart=>exact ⟨_,true,rfl,HW4.out,HF0.out,fun h=>by cases h⟩
 case round =>
  clear HW4 HF0 HW3;obtain ⟨dl,more,rfl,hW,hF,hG⟩:=hrel;have HW:=Zh hW;have HF:=Zh hF
  cases more with
  | false =>
   have hg:=hG rfl;clear hW hF hG
   go_wp2_with fail
   go_ret
   exact ⟨⟨D,dl,rfl,HW.out.row,by rw [HF.out.len,HLM.out],.inr ⟨HNI.out,HF.out,by rw [HLM.out]; exact hg⟩⟩,HW.out.bel⟩
  | true =>
   clear hW hF hG
   go_wp2_with fail
   go_loopw [6,7] (fun um ua V=>∃ (dl2:List Int) (more:Bool) (a:Nat),a≤m∧um=.bool more∧ua=.int .i64 a∧BfW w D #[.slice A n c,.slice (some ⟨yb,yo,none⟩) m d,.slice C k e,.slice (some ⟨nb0,no0,none⟩) m cx,.slice (some ⟨tb0,to0,none⟩) m ct] V dl2∧BfF N s dl2∧Qty dl2≤Qty dl∧(more=true→Qty dl2<Qty dl)∧(more=false→BfG N dl2 a 0)) (fun _ ua _=>m-(intOf ua).toNat)
   case atStart=>exact ⟨dl,false,0,Nat.zero_le _,rfl,rfl,HW.out,HF.out,Zn _,(fun h=>by cases h),fun _ p j b hp=>by omega⟩
   case round =>
    obtain ⟨dl2,more,a,ha,rfl,rfl,hW2,hF2,hle2,hlt2,hG2⟩:=hrel;have HW2:=Zh hW2;have HF2:=Zh hF2;have HG2:=Zh hG2;have HLT2:=Zh hlt2
    by_cases ham:a<m
    rotate_left
    · obtain rfl:a=m:=by omega
      have j2:¬((a:Int)<(a:Int)):=by omega
      have hm1:=Qpd HW.out.row;have hm2:=Qpd hW2.row;clear hW2 hF2 hG2 hlt2
      go_wp2_with fail
      go_roundw
      case rel=>exact ⟨dl2,more,rfl,HW2.out,HF2.out,HG2.out⟩
      case measure =>
       rw [hm1,hm2]
       cases more with
       | false=>simp; omega
       | true=>have:=HLT2.out rfl; simp; omega
    obtain ⟨nb2,no2,na2,nc2,tb2,to2,ta2,tc2,e2,e3,hrow⟩:=HRW.out a ham
    cases e2
    cases e3
    have HS3:=Zh hrow;obtain ⟨ln2,hlne⟩:∃ ln2,ln2=(Qgt N a).length:=⟨_,rfl⟩;rw [←hlne] at HS3;have hln5:ln2≤16384:=by rw [hlne]; have:=nxt_len N a; have:=HLM.out; omega
    have HLE2:=Zh hlne;have j1:(a:Int)<(m:Int):=by omega
    have j0:(0:Int)≤(a:Int):=by omega
    clear hrow hlne hW2 hF2 hG2 hlt2
    go_wp2_with fail
    go_loopw [6,8] (fun um uk V=>∃ (kk:Nat) (dl3:List Int) (more3:Bool),kk≤ln2∧uk=.int .i64 kk∧um=.bool more3∧BfW w D #[.slice A n c,.slice (some ⟨yb,yo,none⟩) m d,.slice C k e,.slice (some ⟨nb0,no0,none⟩) m cx,.slice (some ⟨tb0,to0,none⟩) m ct] V dl3∧BfF N s dl3∧Qty dl3≤Qty dl∧(more3=true→Qty dl3<Qty dl)∧(more3=false→BfG N dl3 a kk)) (fun _ uk _=>ln2-(intOf uk).toNat)
    case atStart=>exact ⟨0,dl2,more,Nat.zero_le _,rfl,rfl,HW2.out,HF2.out,hle2,HLT2.out,HG2.out⟩
    case round =>
     obtain ⟨kk,dl3,more3,hkk,rfl,rfl,hW3,hF3,hle3,hlt3,hG3⟩:=hrel;have HW3:=Zh hW3;have HF3:=Zh hF3;have HLE3:=Zh hle3;have HLT3:=Zh hlt3;have HG3:=Zh hG3;obtain ⟨r1,r2,r3,r4⟩:=HS3.out wr hW3.bel;have x3:wr.cell? ⟨w.heap.size,3,none⟩=some (.slice (some ⟨nb0,no0,none⟩) m cx):=by rw [hW3.box.cell]; rfl
     have x4:wr.cell? ⟨w.heap.size,4,none⟩=some (.slice (some ⟨tb0,to0,none⟩) m ct):=by rw [hW3.box.cell]; rfl
     have x1:wr.cell? ⟨w.heap.size,1,none⟩=some (.slice (some ⟨yb,yo,none⟩) m d):=by rw [hW3.box.cell]; rfl
     have hXl:=hW3.box.lt;obtain ⟨da,hda⟩:∃ da,dl3[a]?=some da:=⟨_,Zg (by rw [HF3.out.len,HLM.out]; exact ham)⟩;have d0:=hW3.row.cellI hda;have HDA:=Zh hda;clear hW3 hF3 hle3 hlt3 hG3 hda HW2 HF2 HG2 HLT2 hle2
     by_cases hlt:kk<ln2
     rotate_left
     · obtain rfl:kk=ln2:=by omega
       have j2:¬((kk:Int)<(kk:Int)):=by omega
       have HEX:=Zh (fun h=>(HG3.out h).up (.inl (by rw [←HLE2.out]; exact Zn _)));clear r3 r4
       go_wp2_with fail
       go_roundw
       case rel=>exact ⟨dl3,more3,a+1,by omega,rfl,by go_num,HW3.out,HF3.out,HLE3.out,HLT3.out,HEX.out⟩
       case measure=>simp [intOf]; omega
     have j2:(kk:Int)<(ln2:Int):=by omega
     by_cases hdl:da<1152921504606846976
     rotate_left
     · have HEX:=Zh (fun h=>(HG3.out h).up (.inr (by rw [Qfr HDA.out]; exact hdl)))
       clear r3 r4
       go_wp2_with fail
       go_roundw
       case rel=>exact ⟨dl3,more3,a+1,by omega,rfl,by go_num,HW3.out,HF3.out,HLE3.out,HLT3.out,HEX.out⟩
       case measure=>simp [intOf]; omega
     obtain ⟨b,hb1,hb2,hb3,hb4⟩:=nxt_at (N:=N) (a:=a) (k:=kk) (by rw [←HLE2.out]; exact hlt);obtain ⟨ab,ao,z1,rfl,hz1,c1⟩:=r3.at_ hlt;rw [hb1] at hz1
     cases hz1
     obtain ⟨bb,bo,z2,rfl,hz2,c2⟩:=r4.at_ hlt;rw [hb2] at hz2
     cases hz2
     obtain ⟨y,hy⟩:∃ y,N.ar[b]?=some y:=⟨_,Zg hb4⟩;have hzw:=Qdu (hok.arcs _ (Zm hy)).w;obtain ⟨_,_,ey,y0,y1,y2⟩:=(HH.out.below HW3.out.bel).2.1.2 b _ hy
     cases ey
     obtain ⟨z,hze⟩:∃ z,z=y.2.2:=⟨_,rfl⟩;rw [←hze] at y2 hzw;have j3:(0:Int)≤(kk:Int):=by omega
     have j4:(b:Int)<(m:Int):=by have:=HLM.out; omega
     have j5:(0:Int)≤(b:Int):=by omega
     have hz0:0≤z:=by omega
     have hz9:z≤1152921504606846976:=by omega
     have hda0:0≤da:=by
      rcases HF3.out.at_ a with h | ⟨h,_,_⟩ <;> rw [Qfr HDA.out] at h <;> omega
     have hub:=(HTB.out a b).resolve_left hb3;have hub9:Qat N a b≤1152921504606846976:=by omega
     have hcb:=Qik hda0 hub.1;have HAD:=Zh (fun V=>Qgb da (Qat N a b) V ⟨hda0,by omega⟩ ⟨hub.1,hub9⟩);obtain ⟨cc,hcc⟩:∃ cc,cc=Qdw da (Qat N a b):=⟨_,rfl⟩;rw [←hcc] at hcb;have HAZ:=Zh (fun V=>Qgb cc z V ⟨hcb.1,hcb.2.1⟩ ⟨hz0,hz9⟩);obtain ⟨cz,hcz⟩:∃ cz,cz=Qdw cc z:=⟨_,rfl⟩;have HCC:=Zh hcc;have HCZ:=Zh hcz;have HCD:=Zh (show Qdw (Qdw (dAt dl3 a) (Qat N a b)) y.2.2=cz by rw [Qfr HDA.out,←hcc,←hze]; exact hcz.symm)
     have HDI:=Zh (show dAt dl3 a<1152921504606846976 by rw [Qfr HDA.out]; exact hdl)
     have HD0:=Zh (show 0≤dAt dl3 a by rw [Qfr HDA.out]; exact hda0)
     obtain ⟨db,hdb⟩:∃ db,dl3[b]?=some db:=⟨_,Zg (by rw [HF3.out.len]; exact hb4)⟩;have HDB:=Zh hdb;have HZ0:=Zh (show 0≤y.2.2 by rw [←hze]; exact hz0)
     have HB1:=Zh hb1;have HB3:=Zh hb3;have HY:=Zh hy;clear hb1 hb2 hb3 hb4 hy r3 r4 hzw hub hub9 hcc hdb hcb hcz hze y0 y1
     go_wp2_with fail
     refine wp_region_held_drew (S:=fun V=>V=wr.drew) (by kernel_rfl) rfl (fun _=>?_);refine tz 0 67 ?_;refine tz 1 68 ?_;refine tz 2 69 ?_;refine tz 3 70 ?_;refine tz 4 71 ?_;refine tz 5 72 ?_;refine tz 6 73 ?_;refine tz 7 74 ?_;refine tz 8 75 ?_;refine tz 9 76 ?_;refine tz 10 77 ?_;refine tz 11 78 ?_;refine tz 13 80 ?_;refine tz 14 81 ?_;refine tz 15 82 ?_;refine tz 16 83 ?_;refine tz 17 84 ?_;refine tz 18 85 ?_;refine tz 19 86 ?_;refine Zk 12 (fun K hK=>?_);go_simp;with_reducible refine (HAD.out _).mono ?_
     rintro r w' ⟨rfl,rfl⟩;rw [←HCC.out];go_simp;refine hK.out _ _ rfl (fun _=>?_);clear hK K;refine Zk 20 (fun K hK=>?_);go_simp;with_reducible refine (HAZ.out _).mono ?_
     rintro r w' ⟨rfl,rfl⟩;rw [←HCZ.out];go_simp;refine hK.out _ _ rfl (fun _=>?_);clear hK K;refine tz 21 10 ?_;refine wpAnyH_done (by kernel_rfl) ?_ _;obtain ⟨w5,hw5⟩:∃ w5,w5=wr.drew:=⟨_,rfl⟩;rw [←hw5];have hb5:Below wr.heap.size wr w5:=by rw [hw5]; exact (Zr _ _).drew
     have HW5:=Zh (HW3.out.below hb5);clear hw5 hb5 HAD HAZ r1 r2 c1 c2 x1 x3 x4 d0 hXl y2;have d0:=HW5.out.row.cellI HDB.out;have df:=HW5.out.row.frozen b
     by_cases hls:cz<db
     rotate_left
     · have HNO:=Zh (show dAt dl3 b≤cz by rw [Qfr HDB.out]; omega)
       have HGN:=Zh (fun h=>BfG.next hok (HG3.out h) HB1.out HY.out HD0.out HB3.out HZ0.out (by rw [HCD.out]; exact HNO.out))
       go_wp2_with fail
       go_roundw
       case rel=>exact ⟨kk+1,dl3,more3,by omega,by go_num,rfl,HW5.out,HF3.out,HLE3.out,HLT3.out,HGN.out⟩
       case measure=>simp [intOf]; omega
     · have hnd:=HF3.out.nd hok (b:=b) (y:=y) HDI.out HB3.out HY.out HZ0.out
       rw [HCD.out,Qfr HDB.out] at hnd;have HND:=Zh (hnd hls);have HSU:=Zh (Qsv dl3 b cz db HDB.out HND.out.2 hls);have HW6:=Zh (HW5.out.set b cz);clear hnd
       go_wp2_with fail
       go_roundw
       case rel=>exact ⟨kk+1,_,true,by omega,by go_num,rfl,HW6.out,HND.out.1,by have:=HSU.out; have:=HLE3.out; omega,fun _=>by have:=HSU.out; have:=HLE3.out; omega,fun h=>by cases h⟩
       case measure=>simp [intOf]; omega
def Qnl (N:Qao)(s t:Nat)(v:Int):Prop:=(wV N s=1152921504606846976∧v=1152921504606846976)∨(wV N s≠1152921504606846976∧Lst (Rch (StW N) s t) v)
theorem Qtr (A B C NX TX:Option Addr)(n m k c d e cx ct s t:Nat)(N:Qao)(w:World)(h:Qbv w A B C n m k N)(hok:Qau N) (hnx:RdT w NX m (Qmi N)) (htx:RdT w TX m (Qmd N)) (hs:s<m) (ht:t<m) :
 Calls Tryz.prog 23 #[.agg #[.slice A n c,.slice B m d,.slice C k e,.slice NX m cx,.slice TX m ct],.int .i64 s,.int .i64 t] w fun r w'=>(∃ v,r=.returned (.int .i64 v)∧Qnl N s t v)∧Below w.heap.size w w':=by
 have HFR:=Zh (fun V (hV:Below w.heap.size w V)=>Qus A B C NX TX n m k c d e cx ct s N V (h.below hV) hok (hnx.below hV) (htx.below hV) hs);have HOK:=Zh hok;have HLM:=Zh h.2.1.1;have hm:m≤16384:=by rw [←h.2.1.1]; exact hok.la
 have i1:(0:Int)≤(t:Int):=by omega
 have i2:(t:Int)<(m:Int):=by omega
 clear h hok hnx htx
 go_enter Tryz.func23,Tryz.ntmps23
 go_wp2_with fail
 (refine Qad ?_; intro w1 hw1)
 have hb1:Below w.heap.size w w1:=by rw [hw1]; exact Qah
 have hX1:Blk w1 w.heap.size 53 #[.slice A n c,.slice B m d,.slice C k e,.slice NX m cx,.slice TX m ct]:=by rw [hw1]; refine Blk.new' _ _ _ ?_; rfl
 clear hw1;with_reducible refine (Qcd A B C n m k c d e (t:Int) w1 i1 i2).mono ?_
 rintro r w2 ⟨rfl,hb2⟩;have hX2:=hX1.below hb2 hX1.lt;have hb2':=Zb hb1 hb2;clear hb1 hb2 hX1;have x0:w2.cell? ⟨w.heap.size,0,none⟩=some (.slice A n c):=by rw [hX2.cell]; rfl
 have x1:w2.cell? ⟨w.heap.size,1,none⟩=some (.slice B m d):=by rw [hX2.cell]; rfl
 have x2:w2.cell? ⟨w.heap.size,2,none⟩=some (.slice C k e):=by rw [hX2.cell]; rfl
 have x3:w2.cell? ⟨w.heap.size,3,none⟩=some (.slice NX m cx):=by rw [hX2.cell]; rfl
 have x4:w2.cell? ⟨w.heap.size,4,none⟩=some (.slice TX m ct):=by rw [hX2.cell]; rfl
 clear hX2
 go_wp2_with fail
 with_reducible refine (HFR.out w2 hb2').mono ?_
 rintro r w3 ⟨⟨D,dl,rfl,hD,hl,hP⟩,hb3⟩;obtain ⟨v,hv⟩:∃ v,dl[t]?=some v:=⟨_,Zg (by omega)⟩;have d0:=hD.cellI hv;have HB3:=Zh (Zb hb2' hb3)
 have HDP:=Zh (show Qnl N s t v from by
  rcases hP with ⟨h1,rfl⟩ | ⟨h1,h2,h3⟩
  · refine .inl ⟨h1,?_⟩
    rw [List.getElem?_replicate] at hv
    split at hv
    · exact (Option.some.inj hv).symm
    · cases hv
  · have:=h2.fin HOK.out h3 t
    rw [Qfr hv] at this;exact .inr ⟨h1,this⟩)
 clear hD hP hv hb3 HFR hl
 go_wp2_with fail
 go_ret
 exact ⟨⟨v,rfl,HDP.out⟩,HB3.out⟩
def Qeo (m NC S:Nat)(s t:Int):Option (Int×Int):=if s<0∨(m:Int)≤s then some (0,5) else if t<0∨(m:Int)≤t then some (1,5) else if NC≠S then some (2,1) else none
def Qky (w:World) (b:Option (Int×Int)) (e:Ending) (w':World):Prop:=(match b with | none=>e=.returned .nilIface | some (k,c)=>∃ v,e=.returned v∧Qcz w' v [((⟨#[97,115,107]⟩:ByteArray),k)] c)∧Below w.heap.size w w'
set_option maxHeartbeats 1000000 in
theorem Qhe (w:World)(g o:Nat)(N:Qao) (ls:List (List Int)) (CA:Option Addr) (NC cC S:Nat) (s t:Int) (hg:Qev w g N) (ho:Qgj w o N.ar ls) (hS:S=Qbx (Qae N.ar ls)) (hS2:S≤1000000000) :
 Calls Tryz.prog 62 #[.pointer (some ⟨g,0,none⟩),.pointer (some ⟨o,0,none⟩),.slice CA NC cC,.int .i64 s,.int .i64 t] w (Qky w (Qeo N.ar.length NC S s t)):=by
 obtain ⟨m,hmm⟩:∃ m,m=N.ar.length:=⟨_,rfl⟩;have HGA:=Zh (show Calls Tryz.prog 85 #[.pointer (some ⟨g,0,none⟩)] w fun e w'=>e=.returned (.int .i64 m)∧w=w' from by rw [hmm]; exact Qhz g N w hg)
 have HSZ:=Zh (show Calls Tryz.prog 84 #[.pointer (some ⟨o,0,none⟩)] w fun e w'=>e=.returned (.int .i64 (S:Nat))∧w=w' from by rw [hS]; exact Qoc o N.ar ls w ho)
 rw [←hmm];clear hg ho hS hmm;unfold Qeo
 by_cases i1:s<0
 · rw [if_pos (.inl i1)]
   unfold Qky
   go_enter Tryz.func62,Tryz.ntmps62
   go_wp2_with fail
   with_reducible refine HGA.out.mono ?_
   rintro r w' ⟨rfl,rfl⟩
   go_wp2_with fail
   go_ret
   refine ⟨⟨_,rfl,w.heap.size,0,Qqa 5,rfl,?_,?_,?_,rfl⟩,Qah⟩
   all_goals simp
 have i1':¬s<0:=i1
 by_cases i2:(m:Int)≤s
 · rw [if_pos (.inr i2)]
   unfold Qky
   go_enter Tryz.func62,Tryz.ntmps62
   go_wp2_with fail
   with_reducible refine HGA.out.mono ?_
   rintro r w' ⟨rfl,rfl⟩
   go_wp2_with fail
   go_ret
   refine ⟨⟨_,rfl,w.heap.size,0,Qqa 5,rfl,?_,?_,?_,rfl⟩,Qah⟩
   all_goals simp
 rw [if_neg (by omega)]
 by_cases i3:t<0
 · rw [if_pos (.inl i3)]
   unfold Qky
   go_enter Tryz.func62,Tryz.ntmps62
   go_wp2_with fail
   with_reducible refine HGA.out.mono ?_
   rintro r w' ⟨rfl,rfl⟩
   go_wp2_with fail
   go_ret
   refine ⟨⟨_,rfl,w.heap.size,0,Qqa 5,rfl,?_,?_,?_,rfl⟩,Qah⟩
   all_goals simp
 by_cases i4:(m:Int)≤t
 · rw [if_pos (.inr i4)]
   unfold Qky
   go_enter Tryz.func62,Tryz.ntmps62
   go_wp2_with fail
   with_reducible refine HGA.out.mono ?_
   rintro r w' ⟨rfl,rfl⟩
   go_wp2_with fail
   go_ret
   refine ⟨⟨_,rfl,w.heap.size,0,Qqa 5,rfl,?_,?_,?_,rfl⟩,Qah⟩
   all_goals simp
 rw [if_neg (by omega)]
 by_cases i5:NC=S
 · rw [if_neg (fun h=>h i5)]
   unfold Qky;subst i5
   go_enter Tryz.func62,Tryz.ntmps62
   go_wp2_with fail
   with_reducible refine HGA.out.mono ?_
   rintro r w' ⟨rfl,rfl⟩
   go_wp2_with fail
   with_reducible refine HSZ.out.mono ?_
   rintro r w' ⟨rfl,rfl⟩
   go_wp2_with fail
   go_ret
   exact ⟨rfl,Zr _ _⟩
 · rw [if_pos i5]
   unfold Qky;have i6:¬(NC:Int)=(S:Int):=by omega
   go_enter Tryz.func62,Tryz.ntmps62
   go_wp2_with fail
   with_reducible refine HGA.out.mono ?_
   rintro r w' ⟨rfl,rfl⟩
   go_wp2_with fail
   with_reducible refine HSZ.out.mono ?_
   rintro r w' ⟨rfl,rfl⟩
   go_wp2_with fail
   go_ret
   refine ⟨⟨_,rfl,w.heap.size,0,Qqa 1,rfl,?_,?_,?_,rfl⟩,Qah⟩
   all_goals simp
theorem Qnl.uniq {N:Qao}{s t:Nat}{a b:Int}(h:Qnl N s t a)(g:Qnl N s t b):a=b:=by
 rcases h with ⟨h1,h2⟩ | ⟨h1,h2⟩ <;> rcases g with ⟨g1,g2⟩ | ⟨g1,g2⟩
 · rw [h2,g2]
 · exact absurd h1 g1
 · exact absurd g1 h1
 · exact h2.uniq g2
theorem RunP.dist {N:Qao} {ls:List (List Int)} {cl:List Int} {s t:Nat} {v:Int} {hs:List (Nat×Nat)} {xs:Tri} (h:RunP N ls [toV N s,frV N t] s t v hs) (hok:Qau N) (hP:Qay N.vs.length ls) (hA:Qdo N ls cl) (hs:N.ar[s]?=some xs):Qnl N s t v:=by
 rcases h with ⟨h1,h2,_⟩ | ⟨h1,h2,_⟩
 · exact .inl ⟨h1,h2⟩
 · exact .inr ⟨h1,Qmj hok hP (hA.ex hok hP) ⟨_,hs⟩ (by simp) (by simp) h2⟩
section
variable (w:World) (g o:Nat) (N:Qao) (ls:List (List Int)) (CA:Option Addr) (NC cC S:Nat) (cl:List Int)
theorem Qgi (s t k c:Int)(hg:Qev w g N)(ho:Qgj w o N.ar ls) (hS:S=Qbx (Qae N.ar ls)) (hS2:S≤1000000000) (hb:Qeo N.ar.length NC S s t=some (k,c)) :
 Calls Tryz.prog 19 #[.pointer (some ⟨g,0,none⟩),.pointer (some ⟨o,0,none⟩),.slice CA NC cC,.int .i64 s,.int .i64 t] w fun e w'=>(∃ v,e=.returned (.tuple #[.int .i64 0,v])∧Qcz w' v [((⟨#[97,115,107]⟩:ByteArray),k)] c)∧Below w.heap.size w w':=by
 have HCK:=Zh (Qhe w g o N ls CA NC cC S s t hg ho hS hS2);rw [hb] at HCK;clear hg ho hS hS2 hb
 go_enter Tryz.func19,Tryz.ntmps19
 go_wp2_with fail
 with_reducible refine HCK.out.mono ?_
 rintro r w1 ⟨⟨v,rfl,hc⟩,hb1⟩;obtain ⟨tv,xv,rfl⟩:=Qbq hc;have HC:=Zh hc;clear hc
 go_wp2_with fail
 refine bodyPost_ret (v:=.tuple #[.int .i64 0,.iface tv xv]) (by simp [results,Tryz.results19,go_sem]) rfl ?_;exact ⟨⟨_,rfl,HC.out⟩,hb1⟩
theorem Qir (s t:Nat)(xs xt:Tri)(hg:Qev w g N)(ho:Qgj w o N.ar ls)(hc:RdI w CA NC cl)(hok:Qau N)(hP:Qay N.vs.length ls)(hA:Qdo N ls cl)(hcc:NC≤cC∧cC≤9223372036854775807) (hSm:Qbx (Qae N.ar ls)≤1000000000) (hxs:N.ar[s]?=some xs) (hxt:N.ar[t]?=some xt) :
 Calls Tryz.prog 19 #[.pointer (some ⟨g,0,none⟩),.pointer (some ⟨o,0,none⟩),.slice CA NC cC,.int .i64 s,.int .i64 t] w fun e w'=>(∃ v,e=.returned (.tuple #[.int .i64 v,.nilIface])∧Qnl N s t v)∧Below w.heap.size w w':=by
 have hsn:=(Zs hxs).1;have htn:=(Zs hxt).1;have hNS:NC=Qbx (Qae N.ar ls):=by rw [←hc.1,hA.1]
 have HCK:=Zh (Qhe w g o N ls CA NC cC _ s t hg ho rfl hSm);rw [show Qeo N.ar.length NC (Qbx (Qae N.ar ls)) s t=none by unfold Qeo; rw [if_neg (by omega),if_neg (by omega),if_neg (by omega)]] at HCK
 have HNQ:=Zh (fun V (hV:Below w.heap.size w V)=>Qki V g o N ls s t CA NC cC cl (hg.below hV) (ho.below hV) (hc.below hV) hok hP);have HRN:=Zh (fun (V:World) (qb:Nat) (Q:Option Addr) (L cq mb bb B:Nat) h hm hB hBB=>run_ok V qb g o N ls s t CA NC cC cl Q L cq mb bb N.ar.length B xs xt h hm hB hok hP hA hcc hSm hxs hxt rfl hBB);have HDP:=Zh (fun v hs (h:RunP N ls [toV N s,frV N t] s t v hs)=>h.dist hok hP hA hxs);clear hg ho hc hok hP hA hcc hSm hxs hxt hsn htn hNS
 go_enter Tryz.func19,Tryz.ntmps19
 go_wp2_with fail
 with_reducible refine HCK.out.mono ?_
 rintro r w1 ⟨rfl,hb1⟩;have HB1:=Zh hb1;have HQN:=Zh (HNQ.out w1 hb1);clear hb1
 go_wp2_with fail
 with_reducible refine HQN.out.mono ?_
 rintro r w2 ⟨qb,Q,cq,mb,bb,rfl,hq,hm,hB,⟨m1,m2,m3⟩,hb2⟩;have HR2:=Zh (HRN.out w2 qb Q ls.length cq mb bb w.heap.size hq hm hB ⟨Nat.le_trans HB1.out.size m1,Nat.le_trans HB1.out.size m2,m3⟩);have HB2:=Zh (Zb HB1.out hb2);clear hq hm hB m1 m2 m3 hb2
 go_wp2_with fail
 with_reducible refine HR2.out.mono ?_
 rintro r w3 ⟨⟨v,A,n,c,hs,rfl,hr,_,_,_⟩,hb3⟩;have HV:=Zh (HDP.out v hs hr);have HB3:=Zh (HB2.out.trans hb3);clear hr hb3
 go_wp2_with fail
 refine bodyPost_ret (v:=.tuple #[.int .i64 v,.nilIface]) (by simp [results,Tryz.results19,go_sem]) rfl ?_;exact ⟨⟨v,rfl,HV.out⟩,HB3.out⟩
def SrcP (w':World)(N:Qao) (ls:List (List Int)) (s t:Nat) (e:Ending):Prop:=∃ v A n c hs,e=.returned (.tuple #[.agg #[.int .i64 v,.slice A n c],.nilIface])∧Qnl N s t v∧RunP N ls [toV N s,frV N t] s t v hs∧RdH w' A n (hs.map (Qsn N ls [toV N s,frV N t]))∧n≤16384
theorem RdH.far {w:World}{A:Option Addr}{n g i:Nat}{L:List Qma}(h:RdH w A n L)(hg:∀ b,Qac A=some b→b≠g)(v:Value):RdH (w.setCell ⟨g,i,none⟩ v) A n L :=
 ⟨h.1,fun k x hx=>by
  obtain ⟨b,o,e,h1,h2,h3⟩:=h.2 k x hx;have hb:=hg b (by rw [e]; rfl);refine ⟨b,o,e,?_,?_,?_⟩ <;> rw [World.cell?_setCell_other _ _ _ _ (by intro h; simp only [Addr.mk.injEq] at h; omega)] <;> assumption⟩
theorem Qnv (s t:Nat)(xs xt:Tri)(hg:Qev w g N)(ho:Qgj w o N.ar ls)(hc:RdI w CA NC cl)(hok:Qau N)(hP:Qay N.vs.length ls)(hA:Qdo N ls cl)(hcc:NC≤cC∧cC≤9223372036854775807) (hSm:Qbx (Qae N.ar ls)≤1000000000) (hxs:N.ar[s]?=some xs) (hxt:N.ar[t]?=some xt) :
 Calls Tryz.prog 54 #[.pointer (some ⟨g,0,none⟩),.pointer (some ⟨o,0,none⟩),.slice CA NC cC,.int .i64 s,.int .i64 t] w fun e w'=>SrcP w' N ls s t e∧Below w.heap.size w w':=by
 have hsn:=(Zs hxs).1;have htn:=(Zs hxt).1;have hNS:NC=Qbx (Qae N.ar ls):=by rw [←hc.1,hA.1]
 have HCK:=Zh (fun V (hV:Below w.heap.size w V)=>Qhe V g o N ls CA NC cC _ s t (hg.below hV) (ho.below hV) rfl hSm);rw [show Qeo N.ar.length NC (Qbx (Qae N.ar ls)) s t=none by unfold Qeo; rw [if_neg (by omega),if_neg (by omega),if_neg (by omega)]] at HCK
 have HNQ:=Zh (fun V (hV:Below w.heap.size w V)=>Qki V g o N ls s t CA NC cC cl (hg.below hV) (ho.below hV) (hc.below hV) hok hP);have HRN:=Zh (fun (V:World) (qb:Nat) (Q:Option Addr) (L cq mb bb B:Nat) h hm hB hBB=>run_ok V qb g o N ls s t CA NC cC cl Q L cq mb bb N.ar.length B xs xt h hm hB hok hP hA hcc hSm hxs hxt rfl hBB);have HDP:=Zh (fun v hs (h:RunP N ls [toV N s,frV N t] s t v hs)=>h.dist hok hP hA hxs);clear hg ho hc hok hP hA hcc hSm hxs hxt hsn htn hNS
 go_enter Tryz.func54,Tryz.ntmps54
 go_wp2_with fail
 (refine Qad ?_; intro w0 hw0)
 have hb0:Below w.heap.size w w0:=by rw [hw0]; exact Qah
 have hF0:Blk w0 w.heap.size 124 #[.int .i64 0,.slice none 0 0]:=by rw [hw0]; exact Blk.new _ _ _
 clear hw0;with_reducible refine (HCK.out w0 hb0).mono ?_
 rintro r w1 ⟨rfl,hb1⟩;have HF1:=Zh (hF0.below hb1 hF0.lt);have HB1:=Zh (Zb hb0 hb1);have HQN:=Zh (HNQ.out w1 HB1.out);clear hb1 hb0 hF0
 go_wp2_with fail
 with_reducible refine HQN.out.mono ?_
 rintro r w2 ⟨qb,Q,cq,mb,bb,rfl,hq,hm,hB,⟨m1,m2,m3⟩,hb2⟩;have HF2:=Zh (HF1.out.below hb2 HF1.out.lt);have HZ:=Zh (show w1.heap.size≤mb∧w1.heap.size≤bb from ⟨m1,m2⟩)
 have HR2:=Zh (HRN.out w2 qb Q ls.length cq mb bb w1.heap.size hq hm hB ⟨m1,m2,m3⟩);have HB2:=Zh (Zb HB1.out hb2);have HS2:=Zh hb2.size;clear hq hm hB m1 m2 m3 hb2
 go_wp2_with fail
 with_reducible refine HR2.out.mono ?_
 rintro r w3 ⟨⟨v,A,n,c,hs,rfl,hr,hh,hn,hlo⟩,hb3⟩;have HV:=Zh (HDP.out v hs hr);have HR:=Zh hr;have hF3:Blk w3 w.heap.size 124 #[.int .i64 0,.slice none 0 0]:=HF2.out.below hb3 HF1.out.lt;have HB3:=Zh (HB2.out.trans (hb3.mono HB1.out.size));have HLO:=Zh (show ∀ b,Qac A=some b→b≠w.heap.size from fun b hb e=>by have:=hlo b hb; have:=HS2.out; have:=HF1.out.lt; omega)
 obtain ⟨c0,c1,f0,f1⟩:=hF3.two;have HH:=Zh ((hh.far (i:=0) HLO.out (.int .i64 v)).far (i:=1) HLO.out (.slice A n c));have HBB:=Zh ((HB3.out.setCell (p:=⟨w.heap.size,0,none⟩) (Zn _) (.int .i64 v)).setCell (p:=⟨w.heap.size,1,none⟩) (Zn _) (.slice A n c));clear hr hb3 hh hlo hF3
 go_wp2_with fail
 refine bodyPost_ret (v:=.tuple #[.agg #[.int .i64 v,.slice A n c],.nilIface]) (by simp [results,Tryz.results54,go_sem,c0,c1]) rfl ?_;exact ⟨⟨v,A,n,c,hs,rfl,HV.out,HR.out,HH.out,hn⟩,HBB.out⟩
end
set_option maxRecDepth 20000 in
theorem Qhb (w:World)(o:Nat)(ar:List Tri) (ls:List (List Int)) (n:Nat) (v a b:Int) (ho:Qgj w o ar ls) (hP:Qay n ls) (hn:n≤8192) :
 Calls Tryz.prog 24 #[.pointer (some ⟨o,0,none⟩),.int .i64 v,.int .i64 a,.int .i64 b] w fun e w'=>e=.returned (.int .i64 (lvI n ls v a b))∧Below w.heap.size w w':=by
 have HPT:=Zh (Qhr o ar ls w ho (by have:=hP.l6; omega) (fun l hl=>by have:=(hP.lvl l hl).len; omega));have HLV:=Zh (fun V Q L cq (h:RdT V Q L ls)=>Qlr Q L cq n ls v a b V h hP);clear ho hP
 go_enter Tryz.func24,Tryz.ntmps24
 go_wp2_with fail
 with_reducible refine HPT.out.mono ?_
 rintro r w1 ⟨Q,cq,rfl,hQ,hb1⟩;have hfl:∀ V,(Instr.field 87 (.agg #[.slice Q ls.length cq]) 0).run Tryz.prog V=.ok (.slice Q ls.length cq) V:=fun V=>by rfl
 have HL:=Zh (HLV.out w1 Q ls.length cq (hQ.le (Qbd _ _)));clear hQ HPT
 go_wp2_with fail
 with_reducible refine HL.out.mono ?_
 rintro r w2 ⟨rfl,hb2⟩;have HB2:=Zh (Zb hb1 hb2);clear hb1 hb2
 go_wp2_with fail
 go_ret
 exact ⟨rfl,HB2.out⟩
end Go.Proofs.YteaoiabikjnkeaaGreatDoor
