/- Parts of the proof: Err, Ft, AsF, AsD, MnY, AsK, TaP. -/
import Derived.Test.YteaoiabikjnkeaaGreatDoorR1
import Derived.Test.YteaoiabikjnkeaaGreatDoorR19
import Derived.Test.YteaoiabikjnkeaaGreatDoorR24
import Derived.Test.YteaoiabikjnkeaaGreatDoorR26
import Derived.Test.YteaoiabikjnkeaaGreatDoorR28
import Derived.Test.YteaoiabikjnkeaaGreatDoorR29
import Derived.LaidEql
import Derived.Stop.Asserts
import Derived.RowKitTokens
import Derived.Lib.IfaceEq
import Derived.Stop.IfaceNil
namespace Go.Proofs.YteaoiabikjnkeaaGreatDoor
open Go.RowKit Go.Extern.Stop Go.Stop Go.Extern Go.Proofs.Tryz
abbrev Quv (c:Int):Value:=.iface 142 (.int .i64 c)
abbrev fltV (b o:Nat):Value:=.iface 143 (.pointer (some ⟨b,o,none⟩))
def Qcl (w:World):Value→List (ByteArray×Int)→Int→Prop
 | v,[],c=>v=Quv c
 | v,p::ps,c=>∃ b o u,v=fltV b o∧w.cell? ⟨b,o,none⟩=some (.string p.1)∧w.cell? ⟨b,o+1,none⟩=some (.int .i64 p.2)∧w.cell? ⟨b,o+2,none⟩=some u∧Qcl w u ps c
theorem Qcl.below {w w':World}(hb:Below w.heap.size w w'):∀ {ps:List (ByteArray×Int)} {v:Value} {c:Int},Qcl w v ps c→Qcl w' v ps c
 | [],_,_,h=>h
 | _::_,_,_,h=>by
  obtain ⟨b,o,u,h1,h2,h3,h4,h5⟩:=h;exact ⟨b,o,u,h1,Zc hb (Zn _) h2,Zc hb (Zn _) h3,Zc hb (Zn _) h4,Qcl.below hb h5⟩
/-! closed facts -/
theorem Qwu (v:Value)(w:World):(ReflectliteType.typeOf #[.iface 142 v]).run prog w=.ok (.iface 300 (.agg #[.pointer (some ⟨1,142,none⟩)])) w:=by kernel_rfl
def erComp : Array Value → Sem Value := ReflectliteType.method fun t => do Rtype.noPackHeld "Comparable" t; pure (.bool (← typeInfo t).comparable)
theorem Qmk (w:World):(erComp #[.agg #[.pointer (some ⟨1,142,none⟩)]]).run prog w=.ok (.bool true) w:=by kernel_rfl
theorem Qky (v : Value) (w : World) : (Go.method 497 300 v "Comparable").run Tryz.prog w = .ok (268, v) w := by kernel_rfl
theorem er_noIs (v:Value)(xT:TypeId)(w:World):(Instr.typeAssert (.iface 142 v) xT 302 true).run prog w=.ok (.tuple #[.nilIface,.bool false]) w:=run_typeAssert_lacksB underlying302 (by kernel_rfl) (by kernel_rfl) v xT w
theorem er_noIsF (v:Value)(xT:TypeId)(w:World):(Instr.typeAssert (.iface 143 v) xT 302 true).run prog w=.ok (.tuple #[.nilIface,.bool false]) w:=run_typeAssert_lacksB underlying302 (by kernel_rfl) (by kernel_rfl) v xT w
theorem Qqa (v:Value)(xT:TypeId)(w:World):(Instr.typeAssert (.iface 142 v) xT 305 true).run prog w=.ok (.tuple #[.nilIface,.bool false]) w:=run_typeAssert_lacksB underlying305 (by kernel_rfl) (by kernel_rfl) v xT w
theorem Qoh (v:Value)(xT:TypeId)(w:World):(Instr.typeAssert (.iface 142 v) xT 307 true).run prog w=.ok (.tuple #[.nilIface,.bool false]) w:=run_typeAssert_lacksB underlying307 (by kernel_rfl) (by kernel_rfl) v xT w
theorem er_noAs (v:Value)(xT:TypeId)(w:World):(Instr.typeAssert (.iface 142 v) xT 312 true).run prog w=.ok (.tuple #[.nilIface,.bool false]) w:=run_typeAssert_lacksB underlying312 (by kernel_rfl) (by kernel_rfl) v xT w
theorem Qnl (v:Value)(xT:TypeId)(w:World):(Instr.typeAssert (.iface 143 v) xT 305 true).run prog w=.ok (.tuple #[.iface 143 v,.bool true]) w:=run_typeAssert_hasB underlying305 (by kernel_rfl) v xT w
theorem Qtv (v : Value) (w : World) : (Go.method 497 143 v "Unwrap").run Tryz.prog w = .ok (262, v) w := by kernel_rfl
theorem er_comp:(Tryz.prog.info? 142).map (·.comparable)=some true:=by kernel_rfl
theorem er_eq (a b:Int)(w:World):(binOp .eql 43 (Quv a) (Quv b)).run prog w=.ok (.bool (a == b)) w:=Lib.run_eql_iface_int w a b underlying43 er_comp underlying142
theorem er_ne (p:Value)(b:Int)(w:World):(binOp .eql 43 (.iface 143 p) (Quv b)).run prog w=.ok (.bool false) w:=run_eql_iface_types (P:=prog) 143 142 p (.int .i64 b) underlying43 (by decide) w
theorem Qka {w:World}{v:Value} {ps:List (ByteArray×Int)} {c:Int} (h:Qcl w v ps c):v=Quv c∧ps=[]∨∃ b o u p t,v=fltV b o∧ps=p::t∧w.cell? ⟨b,o,none⟩=some (.string p.1)∧w.cell? ⟨b,o+1,none⟩=some (.int .i64 p.2)∧w.cell? ⟨b,o+2,none⟩=some u∧Qcl w u t c:=by
 cases ps with
 | nil=>exact .inl ⟨h,rfl⟩
 | cons p t=>obtain ⟨b,o,u,h1,h2,h3,h4,h5⟩:=h;exact .inr ⟨b,o,u,p,t,h1,rfl,h2,h3,h4,h5⟩
theorem Qam {w:World}{v:Value} {ps:List (ByteArray×Int)} {c:Int} (h:Qcl w v ps c):∃ t x,v=.iface t x:=by
 rcases Qka h with ⟨h,_⟩|⟨b,o,u,p,t,h,_⟩ <;> exact ⟨_,_,h⟩
theorem Qov {w:World}:∀ {ps qs:List (ByteArray×Int)} {v:Value} {c d:Int},Qcl w v ps c→Qcl w v qs d→ps.length=qs.length
 | [],[],_,_,_,_,_=>rfl
 | [],_::_,_,_,_,h,g=>by obtain ⟨b,o,u,h1,_⟩:=g;unfold Qcl at h;rw [h] at h1;cases h1
 | _::_,[],_,_,_,g,h=>by obtain ⟨b,o,u,h1,_⟩:=g;unfold Qcl at h;rw [h] at h1;cases h1
 | _::_,_::_,_,_,_,h,g=>by
  obtain ⟨b,o,u,h1,_,_,h2,h3⟩:=h;obtain ⟨b',o',u',g1,_,_,g2,g3⟩:=g;rw [h1] at g1
  cases g1
  rw [h2] at g2
  cases g2
  simp [Qov h3 g3]
noncomputable def Qiz (w:World) (v:Value):Nat:=by
 classical exact if h:∃ n c,∃ ps,Qcl w v ps c∧ps.length=n then h.choose else 0
theorem Qqm {w:World} {ps:List (ByteArray×Int)} {v:Value} {c:Int} (h:Qcl w v ps c):Qiz w v=ps.length:=by
 have hex:∃ n c,∃ ps,Qcl w v ps c∧ps.length=n:=⟨_,c,ps,h,rfl⟩;unfold Qiz;rw [dif_pos hex];obtain ⟨d,qs,g,hl⟩:=hex.choose_spec;rw [←hl];exact Qov g h
theorem Quh (b o:Nat)(u:Value)(w:World)(h:w.cell? ⟨b,o+2,none⟩=some u) :
 Calls prog 262 #[.pointer (some ⟨b,o,none⟩)] w fun e w'=>e=.returned u∧w'=w:=by
 go_enter func262,ntmps262
 go_wp2
 go_ret
 exact ⟨rfl,rfl⟩
set_option maxHeartbeats 1000000 in
theorem is_loop (v:Value) (ps:List (ByteArray×Int)) (c:Int) (w:World) (h:Qcl w v ps c) :
 Calls prog 128 #[v,Quv c,.bool true] w fun e w'=>e=.returned (.bool true)∧w'=w:=by
 have nE:=er_noIs;have nF:=er_noIsF;have uF:=Qnl;have mU:=Qtv;have heq:=er_eq;have hne:=er_ne;have hCL:∀ (ps:List (ByteArray×Int)) (v:Value) (c:Int),Qcl w v ps c→Qiz w v=ps.length:=fun _ _ _ h=>Qqm h
 have HCL:=Zh hCL;clear hCL;have HU:∀ (b o:Nat) (u:Value),w.cell? ⟨b,o+2,none⟩=some u→Calls prog 262 #[.pointer (some ⟨b,o,none⟩)] w fun e w'=>e=.returned u∧w'=w:=fun b o u h=>Quh b o u w h
 have HU':=Zh HU;clear HU
 go_enter func128,ntmps128
 go_wp2
 go_loop [0] (fun i=>∃ qs,Qcl w i qs c) (fun i=>Qiz w i)
 case atStart=>exact ⟨ps,h⟩
 case round =>
  obtain ⟨qs,hq⟩:=hrel
  rcases Qka hq with ⟨rfl,rfl⟩|⟨b,o,u,p,t,rfl,rfl,h1,h2,h3,h4⟩
  · clear hq h
    go_wp2
    go_ret
    exact ⟨rfl,rfl⟩
  · obtain ⟨tu,xu,rfl⟩:=Qam h4
    have e1:=HCL.out _ _ _ hq;have e2:=HCL.out _ _ _ h4;have E1:=Zh e1;clear e1;have E2:=Zh e2;clear e2;have H4:=Zh h4;clear h4;have h3':=h3;clear hq h
    go_wp2_with (go_at_call 262;refine (HU'.out b o _ h3).mono ?_;rintro e w' ⟨rfl,rfl⟩)
    go_round
    case rel=>exact ⟨t,H4.out⟩
    case measure=>rw [E1.out,E2.out];simp
set_option maxHeartbeats 1000000 in
theorem errorsIs (v:Value) (ps:List (ByteArray×Int)) (c:Int) (w:World) (h:Qcl w v ps c) :
 Calls prog 65 #[v,Quv c] w fun e w'=>e=.returned (.bool true)∧w'=w:=by
 have h10:=@run_callFunc_extern prog 127 _ ReflectliteType.typeOf func127 (by kernel_rfl) (by kernel_rfl) (by kernel_rfl) (by kernel_rfl);have h32:=@run_callFunc_extern prog 268 _ erComp func268 (by kernel_rfl) (by kernel_rfl) (by kernel_rfl) (by kernel_rfl);have tT:=Qwu;have cT:=Qmk;have mR:=Qky;have HL:=Zh (is_loop v ps c w h);obtain ⟨tv,xv,rfl⟩:=Qam h;clear h
 go_enter func65,ntmps65
 go_wp2_with (go_at_call 128;refine (HL.out).mono ?_;rintro e w' ⟨rfl,rfl⟩)
 go_ret
 exact ⟨rfl,rfl⟩
end Go.Proofs.YteaoiabikjnkeaaGreatDoor
namespace Go.Proofs.YteaoiabikjnkeaaGreatDoor
open Go.RowKit Go.Proofs.Tryz
def RdW (w:World)(A:Option Addr)(n:Nat) (l:List (ByteArray×Int)):Prop :=
 l.length=n∧∀ i x,l[i]?=some x→∃ b o,A=some ⟨b,o,none⟩∧w.cell? ⟨b,o+i*2,none⟩=some (.string x.1)∧w.cell? ⟨b,o+i*2+1,none⟩=some (.int .i64 x.2)
theorem RdW.below {w w':World}{A:Option Addr}{n:Nat} {l:List (ByteArray×Int)} (h:RdW w A n l) (hb:Below w.heap.size w w'):RdW w' A n l :=
 ⟨h.1,fun i x hx=>by obtain ⟨b,o,e,hc,hd⟩:=h.2 i x hx;exact ⟨b,o,e,Zc hb (Zn _) hc,Zc hb (Zn _) hd⟩⟩
def Wrg (w:World)(v:Value) (ps:List (ByteArray×Int)) (c:Int):Prop:=∃ A n m,v=.agg #[.slice A n m,.int .i64 c]∧RdW w A n ps∧n≤1000000
theorem Qvv (s:ByteArray)(k c:Int)(w:World):Calls prog 50 #[.string s,.int .i64 k,.int .i64 c] w fun e w'=>∃ v,e=.returned v∧Wrg w' v [(s,k)] c∧Below w.heap.size w w':=by
 go_enter func50,ntmps50
 go_wp2
 refine bodyPost_ret (v:=.agg #[.slice (some ⟨w.heap.size+1,0,none⟩) 1 1,.int .i64 c]) (by simp [results,results50,go_sem]) rfl ?_;refine ⟨_,rfl,⟨_,1,1,rfl,⟨rfl,fun i x hx=>?_⟩,by omega⟩,Qah⟩
 match i,hx with
 | 0,hx=>cases hx;exact ⟨_,_,rfl,by simp,by simp⟩
 | i+1,hx=>simp at hx
attribute [local go_sem ↓] Go.wp_at_zero Go.wp_at_succ
def FromP (N:Qap)(s:Nat)(dl:List Int):Prop:=(wV N s=1152921504606846976∧dl=List.replicate N.ar.length 1152921504606846976)∨(wV N s≠1152921504606846976∧BfF N s dl∧BfG N dl N.ar.length 0)
def FromPost (w:World)(N:Qap)(m s:Nat)(r:Ending)(w':World):Prop:=(∃ (D:Nat) (dl:List Int),r=.returned (.slice (some ⟨D,0,none⟩) m m)∧Blk w' D 2 (Qbu dl)∧dl.length=m∧FromP N s dl)∧Below w.heap.size w w'
set_option maxRecDepth 20000 in
set_option maxHeartbeats 4000000 in
theorem Qtk (A B C NX TX:Option Addr)(n m k c d e cx ct s:Nat)(N:Qap)(w:World)(h:Qcj w A B C n m k N)(hok:Qaz N) (hnx:RdT w NX m (Qou N)) (htx:RdT w TX m (Qns N)) (hs:s<m) :
 Calls prog 68 #[.agg #[.slice A n c,.slice B m d,.slice C k e,.slice NX m cx,.slice TX m ct],.int .i64 s] w (FromPost w N m s):=by
 have HH:=Zh h;have hlm:N.ar.length=m:=h.2.1.1;have hln:N.vs.length=n:=h.1.1;have hm:m≤16384:=by rw [←hlm];exact hok.la
 have HNX:=Zh hnx;have HTX:=Zh htx;have HLM:=Zh hlm;have i1:(0:Int)≤(s:Int):=by omega
 have i2:(s:Int)<(m:Int):=by omega
 have HTB:=Zh (fun a b:Nat=>Qdt hok a b);obtain ⟨ys,hys⟩:∃ y,N.ar[s]?=some y:=⟨_,Zg (by omega)⟩;have HYS:=Zh hys
 have HRW:=Zh (show ∀ a,a<m→∃ nb no na nc tb to_ ta tc,NX=some ⟨nb,no,none⟩∧TX=some ⟨tb,to_,none⟩∧∀ V,Below w.heap.size w V→V.cell? ⟨nb,no+a,none⟩=some (.slice na (Qgj N a).length nc)∧V.cell? ⟨tb,to_+a,none⟩=some (.slice ta (Qgj N a).length tc)∧RdI V na (Qgj N a).length (Qgj N a)∧RdI V ta (Qgj N a).length (Qps N a) from fun a ha=>by
  obtain ⟨nb,no,na,n1,nc,l1,e1,g1,g2,g3,_,_⟩:=HNX.out.at_ ha;obtain ⟨tb,to_,ta,n2,tc,l2,e2,f1,f2,f3,_,_⟩:=HTX.out.at_ ha;rw [Qun (by rw [HLM.out];exact ha)] at g1
  cases g1
  rw [Qtu (by rw [HLM.out];exact ha)] at f1
  cases f1
  have q1:n1=(Qgj N a).length:=g3.1.symm;have q2:n2=(Qgj N a).length:=by rw [←trn_len];exact f3.1.symm
  subst q1;rw [q2] at f2 f3;exact ⟨nb,no,na,nc,tb,to_,ta,tc,e1,e2,fun V hV=>⟨Zc hV (Zn _) g2,Zc hV (Zn _) f2,g3.below hV,f3.below hV⟩⟩)
 obtain ⟨nb0,no0,_,_,tb0,to0,_,_,rfl,rfl,_⟩:=HRW.out s hs;clear h hnx htx hlm hln hys
 go_enter func68,ntmps68
 go_wp2_with fail
 (refine Qac ?_;intro w1 hw1)
 have hb1:Below w.heap.size w w1:=by rw [hw1];exact Qah
 have hX1:Blk w1 w.heap.size 53 #[.slice A n c,.slice B m d,.slice C k e,.slice (some ⟨nb0,no0,none⟩) m cx,.slice (some ⟨tb0,to0,none⟩) m ct]:=by rw [hw1];refine Blk.new' _ _ _ ?_;rfl
 clear hw1;with_reducible refine (never_ok m w1 (by omega)).mono ?_
 rintro r w2 ⟨rfl,hD2,hb2⟩;obtain ⟨D,hDe⟩:∃ D,D=w1.heap.size:=⟨_,rfl⟩;rw [←hDe] at hD2 ⊢;have HW2:=Zh (show BfW w D #[.slice A n c,.slice B m d,.slice C k e,.slice (some ⟨nb0,no0,none⟩) m cx,.slice (some ⟨tb0,to0,none⟩) m ct] w2 (List.replicate m 1152921504606846976) from ⟨Zb hb1 hb2,hX1.below hb2 hX1.lt,hD2,by rw [hDe];exact hX1.lt⟩)
 clear hDe hD2 hb1 hb2 hX1;have x0:w2.cell? ⟨w.heap.size,0,none⟩=some (.slice A n c):=Zq HW2.out.box;have x1:w2.cell? ⟨w.heap.size,1,none⟩=some (.slice B m d):=Zq HW2.out.box;have x2:w2.cell? ⟨w.heap.size,2,none⟩=some (.slice C k e):=Zq HW2.out.box;have xl:=HW2.out.box.lt
 go_wp2_with fail
 with_reducible refine (Qkl A B C n m k c d e (s:Int) w2 i1 i2).mono ?_
 rintro r w3 ⟨rfl,hb3⟩;have HW3:=Zh (HW2.out.below hb3);clear x0 x1 x2 xl hb3 HW2;obtain ⟨yb,yo,rfl,y0,y1,y2⟩:=(HH.out.below HW3.out.bel).2.1.2 s _ HYS.out;have x1:w3.cell? ⟨w.heap.size,1,none⟩=some (.slice (some ⟨yb,yo,none⟩) m d):=Zq HW3.out.box;have hw3l:=(Qbs HYS.out).2.2;obtain ⟨z0,hz0⟩:∃ z,z=ys.2.2:=⟨_,rfl⟩;rw [←hz0] at y2 hw3l;have HZS:=Zh hw3l;clear y0 y1 hz0 hw3l
 by_cases hinf:z0=1152921504606846976
 · have e1:(z0 == 1152921504606846976)=true:=by simp [hinf]
   go_wp2_with fail
   go_ret
   exact ⟨⟨D,_,rfl,HW3.out.row,by simp,.inl ⟨by rw [HZS.out];exact hinf,by rw [HLM.out]⟩⟩,HW3.out.bel⟩
 have e1:(z0 == 1152921504606846976)=false:=by simp [hinf]
 have HNI:=Zh (show wV N s≠1152921504606846976 by rw [HZS.out];exact hinf)
 have d0:=HW3.out.row.cellI (i:=s) (x:=1152921504606846976) (by rw [List.getElem?_replicate,if_pos hs]);have df:=HW3.out.row.frozen s;have HW4:=Zh (HW3.out.set s 0);have HF0:=Zh (BfF.start (N:=N) (s:=s) (by rw [HLM.out];exact hs));rw [HLM.out] at HF0;clear hinf
 go_wp2_with fail
 clear x1 y2 d0 df
 go_loopw [6] (fun um V=>∃ (dl:List Int) (more:Bool),um=.bool more∧BfW w D #[.slice A n c,.slice (some ⟨yb,yo,none⟩) m d,.slice C k e,.slice (some ⟨nb0,no0,none⟩) m cx,.slice (some ⟨tb0,to0,none⟩) m ct] V dl∧BfF N s dl∧(more=false→BfG N dl m 0)) (fun um V=>2*Qut (rowOf V D)+(match um with|.bool true=>1|_=>0))
 case atStart=>exact ⟨_,true,rfl,HW4.out,HF0.out,fun h=>by cases h⟩
 case round =>
  clear HW4 HF0 HW3;obtain ⟨dl,more,rfl,hW,hF,hG⟩:=hrel;have HW:=Zh hW;have HF:=Zh hF
  cases more with
  | false =>
   have hg:=hG rfl;clear hW hF hG
   go_wp2_with fail
   go_ret
   exact ⟨⟨D,dl,rfl,HW.out.row,by rw [HF.out.len,HLM.out],.inr ⟨HNI.out,HF.out,by rw [HLM.out];exact hg⟩⟩,HW.out.bel⟩
  | true =>
   clear hW hF hG
   go_wp2_with fail
   go_loopw [6,7] (fun um ua V=>∃ (dl2:List Int) (more:Bool) (a:Nat),a≤m∧um=.bool more∧ua=.int .i64 a∧BfW w D #[.slice A n c,.slice (some ⟨yb,yo,none⟩) m d,.slice C k e,.slice (some ⟨nb0,no0,none⟩) m cx,.slice (some ⟨tb0,to0,none⟩) m ct] V dl2∧BfF N s dl2∧Qut dl2≤Qut dl∧(more=true→Qut dl2<Qut dl)∧(more=false→BfG N dl2 a 0)) (fun _ ua _=>m-(intOf ua).toNat)
   case atStart=>exact ⟨dl,false,0,Nat.zero_le _,rfl,rfl,HW.out,HF.out,Zn _,(fun h=>by cases h),fun _ p j b hp=>by omega⟩
   case round =>
    obtain ⟨dl2,more,a,ha,rfl,rfl,hW2,hF2,hle2,hlt2,hG2⟩:=hrel;have HW2:=Zh hW2;have HF2:=Zh hF2;have HG2:=Zh hG2;have HLT2:=Zh hlt2
    by_cases ham:a<m
    rotate_left
    · obtain rfl:a=m:=by omega
      have j2:¬((a:Int)<(a:Int)):=by omega
      have hm1:=Qod HW.out.row;have hm2:=Qod hW2.row;clear hW2 hF2 hG2 hlt2
      go_wp2_with fail
      go_roundw
      case rel=>exact ⟨dl2,more,rfl,HW2.out,HF2.out,HG2.out⟩
      case measure =>
       rw [hm1,hm2]
       cases more with
       | false=>simp;omega
       | true=>have:=HLT2.out rfl;simp;omega
    obtain ⟨nb2,no2,na2,nc2,tb2,to2,ta2,tc2,e2,e3,hrow⟩:=HRW.out a ham
    cases e2
    cases e3
    have HS3:=Zh hrow;obtain ⟨ln2,hlne⟩:∃ ln2,ln2=(Qgj N a).length:=⟨_,rfl⟩;rw [←hlne] at HS3;have hln5:ln2≤16384:=by rw [hlne];have:=nxt_len N a;have:=HLM.out;omega
    have HLE2:=Zh hlne;have j1:(a:Int)<(m:Int):=by omega
    have j0:(0:Int)≤(a:Int):=by omega
    clear hrow hlne hW2 hF2 hG2 hlt2
    go_wp2_with fail
    go_loopw [6,8] (fun um uk V=>∃ (kk:Nat) (dl3:List Int) (more3:Bool),kk≤ln2∧uk=.int .i64 kk∧um=.bool more3∧BfW w D #[.slice A n c,.slice (some ⟨yb,yo,none⟩) m d,.slice C k e,.slice (some ⟨nb0,no0,none⟩) m cx,.slice (some ⟨tb0,to0,none⟩) m ct] V dl3∧BfF N s dl3∧Qut dl3≤Qut dl∧(more3=true→Qut dl3<Qut dl)∧(more3=false→BfG N dl3 a kk)) (fun _ uk _=>ln2-(intOf uk).toNat)
    case atStart=>exact ⟨0,dl2,more,Nat.zero_le _,rfl,rfl,HW2.out,HF2.out,hle2,HLT2.out,HG2.out⟩
    case round =>
     obtain ⟨kk,dl3,more3,hkk,rfl,rfl,hW3,hF3,hle3,hlt3,hG3⟩:=hrel;have HW3:=Zh hW3;have HF3:=Zh hF3;have HLE3:=Zh hle3;have HLT3:=Zh hlt3;have HG3:=Zh hG3;obtain ⟨r1,r2,r3,r4⟩:=HS3.out wr hW3.bel;have x3:wr.cell? ⟨w.heap.size,3,none⟩=some (.slice (some ⟨nb0,no0,none⟩) m cx):=Zq hW3.box;have x4:wr.cell? ⟨w.heap.size,4,none⟩=some (.slice (some ⟨tb0,to0,none⟩) m ct):=Zq hW3.box;have x1:wr.cell? ⟨w.heap.size,1,none⟩=some (.slice (some ⟨yb,yo,none⟩) m d):=Zq hW3.box;have hXl:=hW3.box.lt;obtain ⟨da,hda⟩:∃ da,dl3[a]?=some da:=⟨_,Zg (by rw [HF3.out.len,HLM.out];exact ham)⟩;have d0:=hW3.row.cellI hda;have HDA:=Zh hda;clear hW3 hF3 hle3 hlt3 hG3 hda HW2 HF2 HG2 HLT2 hle2
     by_cases hlt:kk<ln2
     rotate_left
     · obtain rfl:kk=ln2:=by omega
       have j2:¬((kk:Int)<(kk:Int)):=by omega
       have HEX:=Zh (fun h=>(HG3.out h).up (.inl (by rw [←HLE2.out];exact Zn _)));clear r3 r4
       go_wp2_with fail
       go_roundw
       case rel=>exact ⟨dl3,more3,a+1,by omega,rfl,by go_num,HW3.out,HF3.out,HLE3.out,HLT3.out,HEX.out⟩
       case measure=>simp [intOf];omega
     have j2:(kk:Int)<(ln2:Int):=by omega
     by_cases hdl:da<1152921504606846976
     rotate_left
     · have HEX:=Zh (fun h=>(HG3.out h).up (.inr (by rw [Qex HDA.out];exact hdl)))
       clear r3 r4
       go_wp2_with fail
       go_roundw
       case rel=>exact ⟨dl3,more3,a+1,by omega,rfl,by go_num,HW3.out,HF3.out,HLE3.out,HLT3.out,HEX.out⟩
       case measure=>simp [intOf];omega
     obtain ⟨b,hb1,hb2,hb3,hb4⟩:=nxt_at (N:=N) (a:=a) (k:=kk) (by rw [←HLE2.out];exact hlt);obtain ⟨ab,ao,z1,rfl,hz1,c1⟩:=r3.at_ hlt;rw [hb1] at hz1
     cases hz1
     obtain ⟨bb,bo,z2,rfl,hz2,c2⟩:=r4.at_ hlt;rw [hb2] at hz2
     cases hz2
     obtain ⟨y,hy⟩:∃ y,N.ar[b]?=some y:=⟨_,Zg hb4⟩;have hzw:=Qec (hok.arcs _ (Zm hy)).w;obtain ⟨_,_,ey,y0,y1,y2⟩:=(HH.out.below HW3.out.bel).2.1.2 b _ hy
     cases ey
     obtain ⟨z,hze⟩:∃ z,z=y.2.2:=⟨_,rfl⟩;rw [←hze] at y2 hzw;have j3:(0:Int)≤(kk:Int):=by omega
     have j4:(b:Int)<(m:Int):=by have:=HLM.out;omega
     have j5:(0:Int)≤(b:Int):=by omega
     have hz0:0≤z:=by omega
     have hz9:z≤1152921504606846976:=by omega
     have hda0:0≤da:=by
      rcases HF3.out.at_ a with h|⟨h,_,_⟩ <;> rw [Qex HDA.out] at h <;> omega
     have hub:=(HTB.out a b).resolve_left hb3;have hub9:Qau N a b≤1152921504606846976:=by omega
     have hcb:=Qig hda0 hub.1;have HAD:=Zh (fun V=>Qoy da (Qau N a b) V ⟨hda0,by omega⟩ ⟨hub.1,hub9⟩);obtain ⟨cc,hcc⟩:∃ cc,cc=Qet da (Qau N a b):=⟨_,rfl⟩;rw [←hcc] at hcb;have HAZ:=Zh (fun V=>Qoy cc z V ⟨hcb.1,hcb.2.1⟩ ⟨hz0,hz9⟩);obtain ⟨cz,hcz⟩:∃ cz,cz=Qet cc z:=⟨_,rfl⟩;have HCC:=Zh hcc;have HCZ:=Zh hcz;have HCD:=Zh (show Qet (Qet (dAt dl3 a) (Qau N a b)) y.2.2=cz by rw [Qex HDA.out,←hcc,←hze];exact hcz.symm)
     have HDI:=Zh (show dAt dl3 a<1152921504606846976 by rw [Qex HDA.out];exact hdl)
     have HD0:=Zh (show 0≤dAt dl3 a by rw [Qex HDA.out];exact hda0)
     obtain ⟨db,hdb⟩:∃ db,dl3[b]?=some db:=⟨_,Zg (by rw [HF3.out.len];exact hb4)⟩;have HDB:=Zh hdb;have HZ0:=Zh (show 0≤y.2.2 by rw [←hze];exact hz0)
     have HB1:=Zh hb1;have HB3:=Zh hb3;have HY:=Zh hy;clear hb1 hb2 hb3 hb4 hy r3 r4 hzw hub hub9 hcc hdb hcb hcz hze y0 y1
     go_wp2_with fail
     refine wp_region_held_drew (S:=fun V=>V=wr.drew) (by kernel_rfl) rfl (fun _=>?_);refine tz 0 67 ?_;refine tz 1 68 ?_;refine tz 2 69 ?_;refine tz 3 70 ?_;refine tz 4 71 ?_;refine tz 5 72 ?_;refine tz 6 73 ?_;refine tz 7 74 ?_;refine tz 8 75 ?_;refine tz 9 76 ?_;refine tz 10 77 ?_;refine tz 11 78 ?_;refine tz 13 80 ?_;refine tz 14 81 ?_;refine tz 15 82 ?_;refine tz 16 83 ?_;refine tz 17 84 ?_;refine tz 18 85 ?_;refine tz 19 86 ?_;refine Zk 12 (fun K hK=>?_);go_simp;with_reducible refine (HAD.out _).mono ?_
     rintro r w' ⟨rfl,rfl⟩;rw [←HCC.out];go_simp;refine hK.out _ _ rfl (fun _=>?_);clear hK K;refine Zk 20 (fun K hK=>?_);go_simp;with_reducible refine (HAZ.out _).mono ?_
     rintro r w' ⟨rfl,rfl⟩;rw [←HCZ.out];go_simp;refine hK.out _ _ rfl (fun _=>?_);clear hK K;refine tz 21 10 ?_;refine Zd ?_;obtain ⟨w5,hw5⟩:∃ w5,w5=wr.drew:=⟨_,rfl⟩;rw [←hw5];have hb5:Below wr.heap.size wr w5:=by rw [hw5];exact (Zr _ _).drew
     have HW5:=Zh (HW3.out.below hb5);clear hw5 hb5 HAD HAZ r1 r2 c1 c2 x1 x3 x4 d0 hXl y2;have d0:=HW5.out.row.cellI HDB.out;have df:=HW5.out.row.frozen b
     by_cases hls:cz<db
     rotate_left
     · have HNO:=Zh (show dAt dl3 b≤cz by rw [Qex HDB.out];omega)
       have HGN:=Zh (fun h=>BfG.next hok (HG3.out h) HB1.out HY.out HD0.out HB3.out HZ0.out (by rw [HCD.out];exact HNO.out))
       go_wp2_with fail
       go_roundw
       case rel=>exact ⟨kk+1,dl3,more3,by omega,by go_num,rfl,HW5.out,HF3.out,HLE3.out,HLT3.out,HGN.out⟩
       case measure=>simp [intOf];omega
     · have hnd:=HF3.out.nd hok (b:=b) (y:=y) HDI.out HB3.out HY.out HZ0.out
       rw [HCD.out,Qex HDB.out] at hnd;have HND:=Zh (hnd hls);have HSU:=Zh (Qsd dl3 b cz db HDB.out HND.out.2 hls);have HW6:=Zh (HW5.out.set b cz);clear hnd
       go_wp2_with fail
       go_roundw
       case rel=>exact ⟨kk+1,_,true,by omega,by go_num,rfl,HW6.out,HND.out.1,by have:=HSU.out;have:=HLE3.out;omega,fun _=>by have:=HSU.out;have:=HLE3.out;omega,fun h=>by cases h⟩
       case measure=>simp [intOf];omega
def Qjx (N:Qap)(s t:Nat)(v:Int):Prop:=(wV N s=1152921504606846976∧v=1152921504606846976)∨(wV N s≠1152921504606846976∧Lst (Rch (StW N) s t) v)
theorem Qjx.uniq {N:Qap}{s t:Nat}{a b:Int}(h:Qjx N s t a)(g:Qjx N s t b):a=b:=by
 rcases h with ⟨h1,h2⟩|⟨h1,h2⟩ <;> rcases g with ⟨g1,g2⟩|⟨g1,g2⟩
 · rw [h2,g2]
 · exact absurd h1 g1
 · exact absurd g1 h1
 · exact h2.uniq g2
section
variable (w:World) (g o:Nat) (N:Qap) (ls:List (List Int)) (CA:Option Addr) (NC cC S:Nat) (cl:List Int)
end
def Qgm (N:Qap)(s:Nat)(tl row:List Int):Prop:=row.length=tl.length∧∀ (i t:Nat),tl[i]?=some (t:Int)→∃ v,row[i]?=some v∧Qjx N s t v
theorem avM_mem {N:Qap}{s i t nt:Nat}{tl:List Int} (ht:tl[i]?=some (t:Int)) (hi:i<nt):frV N t∈avM N s tl nt:=by
 unfold avM;refine List.mem_cons_of_mem _ (List.mem_map.2 ⟨(t:Int),?_,by simp⟩);exact Zm (i:=i) (by rw [List.getElem?_take_of_lt hi];exact ht)
theorem RowQ.dist {N:Qap} {ls:List (List Int)} {cl:List Int} {s nt:Nat} {tl row:List Int} {xs:Tri} (h:RowQ N ls (avM N s tl nt) s tl row) (hok:Qaz N) (hP:Qbn N.vs.length ls) (hA:Qee N ls cl) (hs:N.ar[s]?=some xs) (hl:tl.length=nt):Qgm N s tl row:=by
 refine ⟨h.1,fun i t ht=>?_⟩;obtain ⟨v,hv,h1⟩:=h.2 i t ht;refine ⟨v,hv,?_⟩
 rcases h1 with ⟨g1,g2⟩|⟨g1,g2⟩
 · exact .inl ⟨g1,g2⟩
 · exact .inr ⟨g1,Qtm hok hP (hA.ex hok hP) ⟨_,hs⟩ (by unfold avM;simp) (avM_mem ht (by have:=(Zs ht).1;omega)) g2⟩
theorem Qgm.uniq {N:Qap}{s:Nat}{tl r r':List Int}(h:Qgm N s tl r)(g:Qgm N s tl r') (hn:∀ (i:Nat) (t:Int),tl[i]?=some t→∃ a:Nat,t=(a:Int)):r=r':=by
 refine List.ext_getElem? (fun i=>?_)
 by_cases hi:i<tl.length
 · obtain ⟨t,ht⟩:∃ t,tl[i]?=some t:=⟨_,Zg hi⟩
   obtain ⟨a,rfl⟩:=hn i t ht;obtain ⟨v,hv,h1⟩:=h.2 i a ht;obtain ⟨v',hv',h2⟩:=g.2 i a ht;rw [hv,hv',h1.uniq h2]
 · rw [List.getElem?_eq_none (by rw [h.1];omega),List.getElem?_eq_none (by rw [g.1];omega)]
def Qax:Qap:=⟨[(0,0,1),(1,0,0),(2,0,0),(3,0,0),(4,0,0),(5,0,2)],[(0,1,10),(1,2,10),(2,3,10),(3,4,10),(4,5,10)],[⟨1,1,[1]⟩,⟨0,1,[]⟩,⟨1,0,[]⟩]⟩
def Qdo:List (List Int):=[[0,0,1,1,2,2]]
theorem Qea:Qaz Qax:=by
 refine ⟨by decide,by decide,by decide,?_,?_,?_,?_⟩
 · intro t ht
   simp only [Qax,List.mem_cons,List.not_mem_nil,or_false] at ht
   rcases ht with rfl|rfl|rfl <;> exact ⟨by decide,by decide,by decide,by decide,by decide,by decide⟩
 · intro t ht
   simp only [Qax,List.mem_cons,List.not_mem_nil,or_false] at ht
   rcases ht with rfl|rfl|rfl|rfl|rfl|rfl <;> exact ⟨by decide,by decide,by decide,by decide⟩
 · intro t ht
   simp only [Qax,List.mem_cons,List.not_mem_nil,or_false] at ht
   rcases ht with rfl|rfl|rfl|rfl|rfl <;> exact ⟨by decide,by decide,by decide,by decide,by decide⟩
 · intro i v t hv ht
   have hi:i<6:=(Zs hv).1
   rcases (by omega:i=0∨i=1∨i=2∨i=3∨i=4∨i=5) with rfl|rfl|rfl|rfl|rfl|rfl
   all_goals
    simp only [Qax,List.getElem?_cons_zero,List.getElem?_cons_succ,Option.some.injEq] at hv;subst hv
    revert ht
    simp only [Qax,show (1:Int).toNat=1 from rfl,show (2:Int).toNat=2 from rfl,show (0:Int).toNat=0 from rfl,List.getElem?_cons_zero,List.getElem?_cons_succ,Option.some.injEq]
    rintro rfl;exact ⟨by decide,by decide⟩
theorem Qdy:Qbn Qax.vs.length Qdo:=by
 refine ⟨by decide,by decide,?_,?_⟩
 · intro l hl
   simp only [Qdo,List.mem_cons,List.not_mem_nil,or_false] at hl;subst hl;refine ⟨by decide,by decide,by decide,?_⟩;intro c hc;have hm:Qaq [0,0,1,1,2,2]=3:=by decide
   rw [hm] at hc
   rcases (by omega:c=0∨c=1∨c=2) with rfl|rfl|rfl <;> decide
 · intro i p l hp hl
   have hi:i+1<1:=(Zs hl).1
   omega
theorem ch_lt {a:Nat}{y:Tri} (h:Qax.ar[a]?=some y):a≤4∧y=((a:Int),(a:Int)+1,10):=by
 match a,h with
 | 0,h=>cases h;exact ⟨by omega,rfl⟩
 | 1,h=>cases h;exact ⟨by omega,rfl⟩
 | 2,h=>cases h;exact ⟨by omega,rfl⟩
 | 3,h=>cases h;exact ⟨by omega,rfl⟩
 | 4,h=>cases h;exact ⟨by omega,rfl⟩
 | k+5,h=>simp [Qax] at h
theorem ch_t (a:Nat)(h:a≤3):Qau Qax a (a+1)=1:=by
 rcases (by omega:a=0∨a=1∨a=2∨a=3) with rfl|rfl|rfl|rfl <;> decide
theorem ch_turn {a b:Nat}(h:Qau Qax a b≠1152921504606846976):a≤3∧b=a+1:=by
 obtain ⟨x,y,hx,hy,e⟩:=Qca h;obtain ⟨h1,rfl⟩:=ch_lt hx;obtain ⟨h2,rfl⟩:=ch_lt hy;simp only at e;exact ⟨by omega,by omega⟩
theorem Qqd {a b:Nat}{d:Int}:StW Qax a b d↔a≤3∧b=a+1∧d=11:=by
 constructor
 · rintro ⟨y,hy,h1,_,rfl⟩
   obtain ⟨h3,rfl⟩:=ch_turn h1;obtain ⟨_,rfl⟩:=ch_lt hy;refine ⟨h3,rfl,?_⟩;rw [ch_t a h3];exact (by decide:(1:Int)+10=11)
 · rintro ⟨h1,rfl,rfl⟩
   refine ⟨((a:Int)+1,(a:Int)+1+1,10),?_,?_,(by decide:(10:Int)≠1152921504606846976),by rw [ch_t a h1];exact (by decide:(11:Int)=1+10)⟩
   · rcases (by omega:a=0∨a=1∨a=2∨a=3) with rfl|rfl|rfl|rfl <;> rfl
   · rw [ch_t a h1]
     decide
theorem ch_rch {s p:Nat}{c:Int} (h:Rch (StW Qax) s p c):s≤p∧c=11*((p:Int)-(s:Int))∧(p=s∨p≤4):=by
 induction h with
 | start=>exact ⟨Zn _,by omega,.inl rfl⟩
 | step _ h2 ih =>
  obtain ⟨h3,rfl,rfl⟩:=Qqd.1 h2;exact ⟨by omega,by omega,.inr (by omega)⟩
theorem ch_gr:Qae Qax.ar [0,0,1,1,2,2]=[([],[1]),([1],[3]),([3],[])]:=by decide
theorem Qsr:Qaf Qax.ar Qdo=[[([],[1]),([1],[3]),([3],[])]]:=by unfold Qaf Qdo;rw [List.map_cons,ch_gr];rfl
theorem Qgp:Qcd (Qaf Qax.ar Qdo)=1:=by rw [Qsr];decide
theorem ch_ent:Qgn Qax (Qel [0,0,1,1,2,2] 1) 1 3 12:=by
 have hst:∀ {a b d},StA Qax (Qel [0,0,1,1,2,2] 1) a b d→a=1∧b=2∧d=11:=fun {a b d} h=>by
  obtain ⟨h1,rfl,rfl⟩:=Qqd.1 h.all;obtain ⟨y,hy,_,_,h3,h4,_⟩:=h
  rcases (by omega:a=0∨a=1∨a=2∨a=3) with rfl|rfl|rfl|rfl
  · cases hy;exact absurd h3 (by decide)
  · exact ⟨rfl,rfl,rfl⟩
  · cases hy;exact absurd h4 (by decide)
  · cases hy;exact absurd h3 (by decide)
 have hr:∀ p c,Rch (StA Qax (Qel [0,0,1,1,2,2] 1)) 1 p c→p=1∧c=0∨p=2∧c=11:=by
  intro p c h
  induction h with
  | start=>exact .inl ⟨rfl,rfl⟩
  | step _ h2 ih =>
   obtain ⟨rfl,rfl,rfl⟩:=hst h2
   rcases ih with ⟨_,rfl⟩|⟨h,_⟩
   · exact .inr ⟨rfl,by decide⟩
   · exact absurd h (by decide)
 refine .inl ⟨⟨2,11,1,?_,⟨by decide,by decide⟩,rfl⟩,fun v hv=>?_⟩
 · exact Rch.start.step (show StA Qax (Qel [0,0,1,1,2,2] 1) 1 2 11 from ⟨(2,3,10),rfl,by decide,by decide,by decide,by decide,by decide⟩)
 · obtain ⟨p,c,d,h1,⟨h2,rfl⟩,rfl⟩:=hv
   rcases hr p c h1 with ⟨rfl,rfl⟩|⟨rfl,rfl⟩
   · exact absurd (by decide) h2
   · rw [ch_t 2 (by omega)];decide
theorem Qkj:Qee Qax Qdo [12]:=by
 refine ⟨by rw [Qgp];rfl,fun k v hk=>?_⟩
 match k,hk with
 | 0,hk =>
  cases hk
  exact ⟨0,[0,0,1,1,2,2],1,([1],[3]),0,0,1,3,⟨rfl,by rw [ch_gr];rfl,rfl,rfl,by rw [Qsr,ch_gr];decide⟩,ch_ent⟩
 | k+1,hk=>simp at hk
theorem FromP.dist {N:Qap}{s t:Nat}{dl:List Int}{v:Int}(hok:Qaz N)(h:FromP N s dl) (hv:dl[t]?=some v):Qjx N s t v:=by
 rcases h with ⟨h1,rfl⟩|⟨h1,h2,h3⟩
 · refine .inl ⟨h1,?_⟩
   rw [List.getElem?_replicate] at hv
   split at hv
   · exact (Option.some.inj hv).symm
   · cases hv
 · have:=h2.fin hok h3 t
   rw [Qex hv] at this;exact .inr ⟨h1,this⟩
theorem Qgm.nil (N:Qap)(s:Nat):Qgm N s [] []:=⟨rfl,fun i t h=>by simp at h⟩
theorem Qgm.cons {N:Qap}{s a:Nat}{tl row:List Int}{v:Int}(h:Qjx N s a v)(g:Qgm N s tl row):Qgm N s ((a:Int)::tl) (v::row):=by
 refine ⟨by simp [g.1],fun i t ht=>?_⟩
 cases i with
 | zero =>
  simp only [List.getElem?_cons_zero,Option.some.injEq] at ht;obtain rfl:a=t:=by omega
  exact ⟨v,rfl,h⟩
 | succ i =>
  rw [List.getElem?_cons_succ] at ht ⊢;exact g.2 i t ht
theorem Qgm.snoc {N:Qap}{s a i:Nat}{tl row:List Int}{v:Int}(h:Qjx N s a v) (ht:tl[i]?=some (a:Int)) (g:Qgm N s (tl.take i) row):Qgm N s (tl.take (i+1)) (row ++[v]):=by
 have hi:=(Zs ht).1;have hl:row.length=i:=by rw [g.1,List.length_take];omega
 refine ⟨by rw [List.length_append,hl,List.length_take,List.length_singleton];omega,fun k t hk=>?_⟩
 by_cases e:k<i
 · rw [List.getElem?_take_of_lt (by omega)] at hk
   obtain ⟨u,hu,h1⟩:=g.2 k t (by rw [List.getElem?_take_of_lt e];exact hk);exact ⟨u,by rw [List.getElem?_append_left (by omega)];exact hu,h1⟩
 · have:=(Zs hk).1
   rw [List.length_take] at this;obtain rfl:k=i:=by omega
   rw [List.getElem?_take_of_lt (by omega),ht] at hk
   obtain rfl:a=t:=by
    simp only [Option.some.injEq] at hk;omega
   exact ⟨v,by rw [List.getElem?_append_right (by omega),hl,Nat.sub_self];rfl,h⟩
theorem ch_toS {s p:Nat}(hs:s≤p)(h:p≤4):Rch (StW Qax) s p (11*((p:Int)-(s:Int))):=by
 induction p with
 | zero =>
  obtain rfl:s=0:=by omega
  exact .start
 | succ p ih =>
  rcases Nat.lt_or_ge p s with h1|h1
  · obtain rfl:s=p+1:=by omega
    rw [show 11*(((p+1:Nat):Int)-((p+1:Nat):Int))=0 by omega]
    exact .start
  · have:=(ih h1 (by omega)).step (Qqd.2 ⟨by omega,rfl,rfl⟩)
    rw [show 11*(((p+1:Nat):Int)-(s:Int))=11*((p:Int)-(s:Int))+11 by omega]
    exact this
theorem ch_wV (s:Nat)(h:s≤4):wV Qax s≠1152921504606846976:=by
 rcases (by omega:s=0∨s=1∨s=2∨s=3∨s=4) with rfl|rfl|rfl|rfl|rfl <;> decide
theorem Qnq {s t:Nat}(hs:s≤t)(ht:t≤4):Qjx Qax s t (11*((t:Int)-(s:Int))):=.inr ⟨ch_wV s (by omega),.inl ⟨ch_toS hs ht,fun c hc=>by have:=ch_rch hc;omega⟩⟩
theorem Qqk {s t:Nat}(hs:t<s)(hs4:s≤4):Qjx Qax s t 1152921504606846976:=.inr ⟨ch_wV s hs4,.inr ⟨rfl,fun c hc=>by have:=ch_rch hc;omega⟩⟩
theorem ch_row1:Qgm Qax 1 [4,1,0] [33,0,1152921504606846976]:=.cons (a:=4) (Qnq (by omega) (by omega)) (.cons (a:=1) (Qnq (by omega) (by omega)) (.cons (a:=0) (Qqk (by omega) (by omega)) (.nil _ _)))
theorem ch_row2:Qgm Qax 0 [2,3] [22,33]:=.cons (a:=2) (Qnq (by omega) (by omega)) (.cons (a:=3) (Qnq (by omega) (by omega)) (.nil _ _))
theorem ch_row3:Qgm Qax 3 [2,3] [1152921504606846976,0]:=.cons (a:=2) (Qqk (by omega) (by omega)) (.cons (a:=3) (Qnq (by omega) (by omega)) (.nil _ _))
theorem ch_row4:Qgm Qax 1 [0,4,2,2] [1152921504606846976,33,11,11]:=.cons (a:=0) (Qqk (by omega) (by omega)) (.cons (a:=4) (Qnq (by omega) (by omega)) (.cons (a:=2) (Qnq (by omega) (by omega)) (.cons (a:=2) (Qnq (by omega) (by omega)) (.nil _ _))))
def Qdc (m:Nat)(l:List Int):Option Nat:=l.findIdx? (fun a=>decide (a<0) || decide ((m:Int)≤a))
theorem Qdx {m:Nat}{l:List Int}(h:Qdc m l=none)(i:Nat)(a:Int) (hi:l[i]?=some a):0≤a∧a<(m:Int):=by
 unfold Qdc at h;rw [List.findIdx?_eq_none_iff] at h;have:=h a (Zm hi);simp only [Bool.or_eq_false_iff,decide_eq_false_iff_not] at this;omega
theorem Qhw {m:Nat}{l:List Int} (h:∀ (i:Nat) (a:Int),l[i]?=some a→0≤a∧a<(m:Int)):Qdc m l=none:=by
 unfold Qdc;rw [List.findIdx?_eq_none_iff];intro x hx;obtain ⟨i,hi⟩:=List.getElem?_of_mem hx;have:=h i x hi;simp only [Bool.or_eq_false_iff,decide_eq_false_iff_not];omega
theorem Qjq {m i:Nat}{l:List Int}{a:Int} (h:∀ (k:Nat) (b:Int),k<i→l[k]?=some b→0≤b∧b<(m:Int)) (hi:l[i]?=some a) (ha:a<0∨(m:Int)≤a):Qdc m l=some i:=by
 unfold Qdc;have hl:=(Zs hi);rw [List.findIdx?_eq_some_iff_getElem];refine ⟨hl.1,?_,fun k hk=>?_⟩
 · rw [hl.2]
   simp only [Bool.or_eq_true,decide_eq_true_eq];exact ha
 · have h1:k<l.length:=Nat.lt_trans hk hl.1
   have:=h k l[k] hk (Zg h1);simp only [Bool.not_eq_true,Bool.or_eq_false_iff,decide_eq_false_iff_not];omega
theorem Qjx.bd {N:Qap}{s t:Nat}{v:Int}(hok:Qaz N)(h:Qjx N s t v):0≤v∧v≤1152921504606846976:=by
 rcases h with ⟨_,rfl⟩|⟨_,⟨h1,h2⟩|⟨rfl,_⟩⟩
 · omega
 · obtain ⟨e,h3,h4⟩:=Qql hok h1
   have h5:=h2 e h3;have h6:=h1.pos (fun p q d h=>(h.bd hok).1);unfold MB at h4;omega
 · exact ⟨by decide,by decide⟩
theorem Qgm.bd {N:Qap}{s:Nat}{tl row:List Int}(hok:Qaz N)(h:Qgm N s tl row) (hn:∀ (i:Nat) (t:Int),tl[i]?=some t→∃ a:Nat,t=(a:Int)) (i:Nat) (v:Int) (hv:row[i]?=some v):0≤v∧v≤1152921504606846976:=by
 have hi:=(Zs hv).1;rw [h.1] at hi;obtain ⟨t,ht⟩:∃ t,tl[i]?=some t:=⟨_,Zg hi⟩;obtain ⟨a,rfl⟩:=hn i t ht;obtain ⟨u,hu,h1⟩:=h.2 i a ht;rw [hv] at hu
 cases hu
 exact h1.bd hok
def Qbj (l:List Int):Nat→Int×Int
 | 0=>(-1,1152921504606846976)
 | i+1=>if (Qbj l i).1<0∨l.getD i 0<(Qbj l i).2 then ((i:Int),l.getD i 0) else Qbj l i
theorem Qki {l:List Int} (hl:∀ (i:Nat) (v:Int),l[i]?=some v→0≤v∧v≤1152921504606846976):∀ i,i≤l.length→(-1≤(Qbj l i).1∧(Qbj l i).1<(i:Int))∧0≤(Qbj l i).2∧(Qbj l i).2≤1152921504606846976
 | 0,_=>by simp [Qbj]
 | i+1,h=>by
  have ih:=Qki hl i (by omega);have hv:=hl i (l.getD i 0) (by rw [List.getD_eq_getElem?_getD,Zg (by omega)];rfl);unfold Qbj
  split
  · exact ⟨⟨by omega,by omega⟩,hv⟩
  · exact ⟨⟨ih.1.1,by omega⟩,ih.2⟩
def Qif (l:List Int):Int×Int:=if (Qbj l l.length).2=1152921504606846976 then (-1,1152921504606846976) else Qbj l l.length
def Qcs (nt NC S m:Nat)(s:Int)(tl:List Int):Option (ByteArray×Int×Int) :=
 if 64<nt then some ((⟨#[109,97,110,121]⟩:ByteArray),0,4) else if NC≠S then some ((⟨#[109,97,110,121]⟩:ByteArray),0,1) else if s<0∨(m:Int)≤s then some ((⟨#[102,114,111,109]⟩:ByteArray),0,5) else (Qdc m tl).map (fun (i:Nat)=>((⟨#[116,111]⟩:ByteArray),(i:Int),(5:Int)))
def Qlz (ns nt NC S m:Nat)(sl tl:List Int):Option (ByteArray×Int×Int) :=
 if 64<ns then some ((⟨#[109,97,110,121]⟩:ByteArray),1,4) else if 64<nt then some ((⟨#[109,97,110,121]⟩:ByteArray),0,4) else if NC≠S then some ((⟨#[109,97,110,121]⟩:ByteArray),0,1) else match Qdc m sl with|some i=>some ((⟨#[102,114,111,109]⟩:ByteArray),(i:Int),5)|none=>(Qdc m tl).map (fun (i:Nat)=>((⟨#[116,111]⟩:ByteArray),(i:Int),(5:Int)))
end Go.Proofs.YteaoiabikjnkeaaGreatDoor
