/- Parts of the proof: Err, Ft, AsD, Yn, Yq, AsV, LpG. -/
import Derived.Test.YtdheeddnkdhfeaaGreatDoorA22
import Derived.LaidEql
import Derived.Stop.Asserts
import Derived.RowKitTokens
import Derived.Lib.IfaceEq
import Derived.Stop.IfaceNil
import Derived.Test.YtdheeddnkdhfeaaGreatDoorShelf4
import Derived.Shelf.Spec.SlicesGrow
namespace Go.Proofs.YtdheeddnkdhfeaaGreatDoor
open Go.RowKit Go.Extern.Stop Go.Stop Go.Extern Go.Proofs.Tryz
abbrev Qog (c:Int):Value:=.iface 131 (.int .i64 c)
abbrev fltV (b o:Nat):Value:=.iface 146 (.pointer (some ⟨b,o,none⟩))
def Qcq (w:World):Value→List (ByteArray×Int)→Int→Prop
 | v,[],c=>v=Qog c
 | v,p::ps,c=>∃ b o u,v=fltV b o∧w.cell? ⟨b,o,none⟩=some (.string p.1)∧w.cell? ⟨b,o+1,none⟩=some (.int .i64 p.2)∧w.cell? ⟨b,o+2,none⟩=some u∧Qcq w u ps c
theorem Qcq.below {w w':World}(hb:Below w.heap.size w w'):∀ {ps:List (ByteArray×Int)} {v:Value} {c:Int},Qcq w v ps c→Qcq w' v ps c
 | [],_,_,h=>h
 | _::_,_,_,h=>by
  obtain ⟨b,o,u,h1,h2,h3,h4,h5⟩:=h;exact ⟨b,o,u,h1,Zc hb (Zn _) h2,Zc hb (Zn _) h3,Zc hb (Zn _) h4,Qcq.below hb h5⟩
/-! closed facts -/
theorem Qxi (v:Value)(w:World):(ReflectliteType.typeOf #[.iface 131 v]).run prog w=.ok (.iface 281 (.agg #[.pointer (some ⟨1,131,none⟩)])) w:=by kernel_rfl
def erComp : Array Value → Sem Value := ReflectliteType.method fun t => do Rtype.noPackHeld "Comparable" t; pure (.bool (← typeInfo t).comparable)
theorem Qnk (w:World):(erComp #[.agg #[.pointer (some ⟨1,131,none⟩)]]).run prog w=.ok (.bool true) w:=by kernel_rfl
theorem Qld (v : Value) (w : World) : (Go.method 463 281 v "Comparable").run Tryz.prog w = .ok (242, v) w := by kernel_rfl
theorem er_noIs (v:Value)(xT:TypeId)(w:World):(Instr.typeAssert (.iface 131 v) xT 283 true).run prog w=.ok (.tuple #[.nilIface,.bool false]) w:=run_typeAssert_lacksB underlying283 (by kernel_rfl) (by kernel_rfl) v xT w
theorem er_noIsF (v:Value)(xT:TypeId)(w:World):(Instr.typeAssert (.iface 146 v) xT 283 true).run prog w=.ok (.tuple #[.nilIface,.bool false]) w:=run_typeAssert_lacksB underlying283 (by kernel_rfl) (by kernel_rfl) v xT w
theorem Qqu (v:Value)(xT:TypeId)(w:World):(Instr.typeAssert (.iface 131 v) xT 286 true).run prog w=.ok (.tuple #[.nilIface,.bool false]) w:=run_typeAssert_lacksB underlying286 (by kernel_rfl) (by kernel_rfl) v xT w
theorem Qnu (v:Value)(xT:TypeId)(w:World):(Instr.typeAssert (.iface 131 v) xT 288 true).run prog w=.ok (.tuple #[.nilIface,.bool false]) w:=run_typeAssert_lacksB underlying288 (by kernel_rfl) (by kernel_rfl) v xT w
theorem er_noAs (v:Value)(xT:TypeId)(w:World):(Instr.typeAssert (.iface 131 v) xT 293 true).run prog w=.ok (.tuple #[.nilIface,.bool false]) w:=run_typeAssert_lacksB underlying293 (by kernel_rfl) (by kernel_rfl) v xT w
theorem Qml (v:Value)(xT:TypeId)(w:World):(Instr.typeAssert (.iface 146 v) xT 286 true).run prog w=.ok (.tuple #[.iface 146 v,.bool true]) w:=run_typeAssert_hasB underlying286 (by kernel_rfl) v xT w
theorem Qvc (v : Value) (w : World) : (Go.method 463 146 v "Unwrap").run Tryz.prog w = .ok (236, v) w := by kernel_rfl
theorem er_comp:(Tryz.prog.info? 131).map (·.comparable)=some true:=by kernel_rfl
theorem er_eq (a b:Int)(w:World):(binOp .eql 44 (Qog a) (Qog b)).run prog w=.ok (.bool (a == b)) w:=Lib.run_eql_iface_int w a b underlying44 er_comp underlying131
theorem er_ne (p:Value)(b:Int)(w:World):(binOp .eql 44 (.iface 146 p) (Qog b)).run prog w=.ok (.bool false) w:=run_eql_iface_types (P:=prog) 146 131 p (.int .i64 b) underlying44 (by decide) w
theorem Qjt {w:World}{v:Value} {ps:List (ByteArray×Int)} {c:Int} (h:Qcq w v ps c):v=Qog c∧ps=[]∨∃ b o u p t,v=fltV b o∧ps=p::t∧w.cell? ⟨b,o,none⟩=some (.string p.1)∧w.cell? ⟨b,o+1,none⟩=some (.int .i64 p.2)∧w.cell? ⟨b,o+2,none⟩=some u∧Qcq w u t c:=by
 cases ps with
 | nil=>exact .inl ⟨h,rfl⟩
 | cons p t=>obtain ⟨b,o,u,h1,h2,h3,h4,h5⟩:=h;exact .inr ⟨b,o,u,p,t,h1,rfl,h2,h3,h4,h5⟩
theorem Qbg {w:World}{v:Value} {ps:List (ByteArray×Int)} {c:Int} (h:Qcq w v ps c):∃ t x,v=.iface t x:=by
 rcases Qjt h with ⟨h,_⟩|⟨b,o,u,p,t,h,_⟩ <;> exact ⟨_,_,h⟩
theorem Qor {w:World}:∀ {ps qs:List (ByteArray×Int)} {v:Value} {c d:Int},Qcq w v ps c→Qcq w v qs d→ps.length=qs.length
 | [],[],_,_,_,_,_=>rfl
 | [],_::_,_,_,_,h,g=>by obtain ⟨b,o,u,h1,_⟩:=g;unfold Qcq at h;rw [h] at h1;cases h1
 | _::_,[],_,_,_,g,h=>by obtain ⟨b,o,u,h1,_⟩:=g;unfold Qcq at h;rw [h] at h1;cases h1
 | _::_,_::_,_,_,_,h,g=>by
  obtain ⟨b,o,u,h1,_,_,h2,h3⟩:=h;obtain ⟨b',o',u',g1,_,_,g2,g3⟩:=g;rw [h1] at g1
  cases g1
  rw [h2] at g2
  cases g2
  simp [Qor h3 g3]
noncomputable def Qjl (w:World) (v:Value):Nat:=by
 classical exact if h:∃ n c,∃ ps,Qcq w v ps c∧ps.length=n then h.choose else 0
theorem Qqr {w:World} {ps:List (ByteArray×Int)} {v:Value} {c:Int} (h:Qcq w v ps c):Qjl w v=ps.length:=by
 have hex:∃ n c,∃ ps,Qcq w v ps c∧ps.length=n:=⟨_,c,ps,h,rfl⟩;unfold Qjl;rw [dif_pos hex];obtain ⟨d,qs,g,hl⟩:=hex.choose_spec;rw [←hl];exact Qor g h
theorem Qtm (b o:Nat)(u:Value)(w:World)(h:w.cell? ⟨b,o+2,none⟩=some u) :
 Calls prog 236 #[.pointer (some ⟨b,o,none⟩)] w fun e w'=>e=.returned u∧w'=w:=by
 go_enter func236,ntmps236
 go_wp2
 exact Kaq
set_option maxHeartbeats 1000000 in
theorem is_loop (v:Value) (ps:List (ByteArray×Int)) (c:Int) (w:World) (h:Qcq w v ps c) :
 Calls prog 122 #[v,Qog c,.bool true] w fun e w'=>e=.returned (.bool true)∧w'=w:=by
 have nE:=er_noIs;have nF:=er_noIsF;have uF:=Qml;have mU:=Qvc;have heq:=er_eq;have hne:=er_ne;have hCL:∀ (ps:List (ByteArray×Int)) (v:Value) (c:Int),Qcq w v ps c→Qjl w v=ps.length:=fun _ _ _ h=>Qqr h
 have HCL:=Zh hCL;clear hCL;have HU:∀ (b o:Nat) (u:Value),w.cell? ⟨b,o+2,none⟩=some u→Calls prog 236 #[.pointer (some ⟨b,o,none⟩)] w fun e w'=>e=.returned u∧w'=w:=fun b o u h=>Qtm b o u w h
 have HU':=Zh HU;clear HU
 go_enter func122,ntmps122
 go_wp2
 go_loop [0] (fun i=>∃ qs,Qcq w i qs c) (fun i=>Qjl w i)
 case atStart=>exact ⟨ps,h⟩
 case round =>
  obtain ⟨qs,hq⟩:=hrel
  rcases Qjt hq with ⟨rfl,rfl⟩|⟨b,o,u,p,t,rfl,rfl,h1,h2,h3,h4⟩
  · clear hq h
    go_wp2
    exact Kaq
  · obtain ⟨tu,xu,rfl⟩:=Qbg h4
    have e1:=HCL.out _ _ _ hq;have e2:=HCL.out _ _ _ h4;have E1:=Zh e1;clear e1;have E2:=Zh e2;clear e2;have H4:=Zh h4;clear h4;have h3':=h3;clear hq h
    go_wp2_with (go_at_call 236;refine (HU'.out b o _ h3).mono ?_;rintro e w' ⟨rfl,rfl⟩)
    go_round
    case rel=>exact ⟨t,H4.out⟩
    case measure=>rw [E1.out,E2.out];simp
set_option maxHeartbeats 1000000 in
theorem errorsIs (v:Value) (ps:List (ByteArray×Int)) (c:Int) (w:World) (h:Qcq w v ps c) :
 Calls prog 70 #[v,Qog c] w fun e w'=>e=.returned (.bool true)∧w'=w:=by
 have h10:=@run_callFunc_extern prog 121 _ ReflectliteType.typeOf func121 (by kernel_rfl) (by kernel_rfl) (by kernel_rfl) (by kernel_rfl);have h32:=@run_callFunc_extern prog 242 _ erComp func242 (by kernel_rfl) (by kernel_rfl) (by kernel_rfl) (by kernel_rfl);have tT:=Qxi;have cT:=Qnk;have mR:=Qld;have HL:=Zh (is_loop v ps c w h);obtain ⟨tv,xv,rfl⟩:=Qbg h;clear h
 go_enter func70,ntmps70
 go_wp2_with (go_at_call 122;refine (HL.out).mono ?_;rintro e w' ⟨rfl,rfl⟩)
 exact Kaq
end Go.Proofs.YtdheeddnkdhfeaaGreatDoor
namespace Go.Proofs.YtdheeddnkdhfeaaGreatDoor
open Go.RowKit Go.Proofs.Tryz
def RdW (w:World)(A:Option Addr)(n:Nat) (l:List (ByteArray×Int)):Prop :=
 l.length=n∧∀ i x,l[i]?=some x→∃ b o,A=some ⟨b,o,none⟩∧w.cell? ⟨b,o+i*2,none⟩=some (.string x.1)∧w.cell? ⟨b,o+i*2+1,none⟩=some (.int .i64 x.2)
theorem RdW.below {w w':World}{A:Option Addr}{n:Nat} {l:List (ByteArray×Int)} (h:RdW w A n l) (hb:Below w.heap.size w w'):RdW w' A n l :=
 ⟨h.1,fun i x hx=>by obtain ⟨b,o,e,hc,hd⟩:=h.2 i x hx;exact ⟨b,o,e,Zc hb (Zn _) hc,Zc hb (Zn _) hd⟩⟩
def Wrg (w:World)(v:Value) (ps:List (ByteArray×Int)) (c:Int):Prop:=∃ A n m,v=.agg #[.slice A n m,.int .i64 c]∧RdW w A n ps∧n≤1000000
theorem Qod (s:ByteArray)(k c:Int)(w:World):Calls prog 27 #[.string s,.int .i64 k,.int .i64 c] w fun e w'=>∃ v,e=.returned v∧Wrg w' v [(s,k)] c∧Below w.heap.size w w':=by
 go_enter func27,ntmps27
 go_wp2
 refine bodyPost_ret (v:=.agg #[.slice (some ⟨w.heap.size+1,0,none⟩) 1 1,.int .i64 c]) (by simp [results,results27,go_sem]) rfl ?_;refine ⟨_,rfl,⟨_,1,1,rfl,⟨rfl,fun i x hx=>?_⟩,by omega⟩,Qah⟩
 match i,hx with
 | 0,hx=>cases hx;exact ⟨_,_,rfl,by simp,by simp⟩
 | i+1,hx=>simp at hx
attribute [local go_sem ↓] Go.wp_at_zero Go.wp_at_succ
def Qlh (m NC S:Nat)(s t:Int):Option (Int×Int):=if s<0∨(m:Int)≤s then some (0,5) else if t<0∨(m:Int)≤t then some (1,5) else if NC≠S then some (2,1) else none
def Qkg (w:World) (b:Option (Int×Int)) (e:Ending) (w':World):Prop:=(match b with|none=>e=.returned .nilIface|some (k,c)=>∃ v,e=.returned v∧Qcq w' v [((⟨#[97,115,107]⟩:ByteArray),k)] c)∧Below w.heap.size w w'
set_option maxHeartbeats 1000000 in
theorem Qkc (w:World)(g o:Nat)(N:Qam) (ls:List (List Int)) (CA:Option Addr) (NC cC S:Nat) (s t:Int) (hg:Qes w g N) (ho:Qfy w o N.ar ls) (hS:S=Qbx (Qac N.ar ls)) (hS2:S≤1000000000) :
 Calls prog 45 #[.pointer (some ⟨g,0,none⟩),.pointer (some ⟨o,0,none⟩),.slice CA NC cC,.int .i64 s,.int .i64 t] w (Qkg w (Qlh N.ar.length NC S s t)):=by
 obtain ⟨m,hmm⟩:∃ m,m=N.ar.length:=⟨_,rfl⟩;have HGA:=Zh (show Calls prog 99 #[.pointer (some ⟨g,0,none⟩)] w fun e w'=>e=.returned (.int .i64 m)∧w=w' from by rw [hmm];exact Qgb g N w hg)
 have HSZ:=Zh (show Calls prog 48 #[.pointer (some ⟨o,0,none⟩)] w fun e w'=>e=.returned (.int .i64 (S:Nat))∧w=w' from by rw [hS];exact Qko o N.ar ls w ho)
 rw [←hmm];clear hg ho hS hmm;unfold Qlh
 by_cases i1:s<0
 · rw [if_pos (.inl i1)]
   exact Kam
 have i1':¬s<0:=i1
 by_cases i2:(m:Int)≤s
 · rw [if_pos (.inr i2)]
   exact Kam
 rw [if_neg (by omega)]
 by_cases i3:t<0
 · rw [if_pos (.inl i3)]
   exact Kam
 by_cases i4:(m:Int)≤t
 · rw [if_pos (.inr i4)]
   exact Kam
 rw [if_neg (by omega)]
 by_cases i5:NC=S
 · rw [if_neg (fun h=>h i5)]
   unfold Qkg;subst i5
   go_enter func45,ntmps45
   go_wp2_with fail
   with_reducible refine HGA.out.mono ?_
   rintro r w' ⟨rfl,rfl⟩
   go_wp2_with fail
   with_reducible refine HSZ.out.mono ?_
   rintro r w' ⟨rfl,rfl⟩
   go_wp2_with fail
   go_ret
   exact ⟨rfl,Zr _ _⟩
 · rw [if_pos i5]
   unfold Qkg;have i6:¬(NC:Int)=(S:Int):=by omega
   go_enter func45,ntmps45
   go_wp2_with fail
   with_reducible refine HGA.out.mono ?_
   rintro r w' ⟨rfl,rfl⟩
   go_wp2_with fail
   with_reducible refine HSZ.out.mono ?_
   rintro r w' ⟨rfl,rfl⟩
   go_wp2_with fail
   go_ret
   refine ⟨⟨_,rfl,w.heap.size,0,Qog 1,rfl,?_,?_,?_,rfl⟩,Qah⟩
   all_goals simp
theorem Qgx.uniq {N:Qam}{s t:Nat}{a b:Int}(h:Qgx N s t a)(g:Qgx N s t b):a=b:=by
 rcases h with ⟨h1,h2⟩|⟨h1,h2⟩ <;> rcases g with ⟨g1,g2⟩|⟨g1,g2⟩
 · rw [h2,g2]
 · exact absurd h1 g1
 · exact absurd g1 h1
 · exact h2.uniq g2
theorem RunP.dist {N:Qam} {ls:List (List Int)} {cl:List Int} {s t:Nat} {v:Int} {hs:List (Nat×Nat)} {xs:Tri} (h:RunP N ls [toV N s,frV N t] s t v hs) (hok:Qap N) (hP:Qaw N.vs.length ls) (hA:Qcy N ls cl) (hs:N.ar[s]?=some xs):Qgx N s t v:=by
 rcases h with ⟨h1,h2,_⟩|⟨h1,h2,_⟩
 · exact .inl ⟨h1,h2⟩
 · exact .inr ⟨h1,Qtx hok hP (hA.ex hok hP) ⟨_,hs⟩ (by simp) (by simp) h2⟩
section
variable (w:World) (g o:Nat) (N:Qam) (ls:List (List Int)) (CA:Option Addr) (NC cC S:Nat) (cl:List Int)
theorem askDist_ok (s t:Nat)(xs xt:Tri)(hg:Qes w g N)(ho:Qfy w o N.ar ls)(hc:RdI w CA NC cl)(hok:Qap N)(hP:Qaw N.vs.length ls)(hA:Qcy N ls cl)(hcc:NC≤cC∧cC≤9223372036854775807) (hSm:Qbx (Qac N.ar ls)≤1000000000) (hxs:N.ar[s]?=some xs) (hxt:N.ar[t]?=some xt) :
 Calls prog 13 #[.pointer (some ⟨g,0,none⟩),.pointer (some ⟨o,0,none⟩),.slice CA NC cC,.int .i64 s,.int .i64 t] w fun e w'=>(∃ v,e=.returned (.tuple #[.int .i64 v,.nilIface])∧Qgx N s t v)∧Below w.heap.size w w':=by
 have hsn:=(Zs hxs).1;have htn:=(Zs hxt).1;have hNS:NC=Qbx (Qac N.ar ls):=by rw [←hc.1,hA.1]
 have HCK:=Zh (Qkc w g o N ls CA NC cC _ s t hg ho rfl hSm);rw [show Qlh N.ar.length NC (Qbx (Qac N.ar ls)) s t=none by unfold Qlh;rw [if_neg (by omega),if_neg (by omega),if_neg (by omega)]] at HCK
 have HNQ:=Zh (fun V (hV:Below w.heap.size w V)=>Qkm V g o N ls s t CA NC cC cl (hg.below hV) (ho.below hV) (hc.below hV) hok hP);have HRN:=Zh (fun (V:World) (qb:Nat) (Q:Option Addr) (L cq mb bb B:Nat) h hm hB hBB=>run_ok V qb g o N ls s t CA NC cC cl Q L cq mb bb N.ar.length B xs xt h hm hB hok hP hA hcc hSm hxs hxt rfl hBB);have HDP:=Zh (fun v hs (h:RunP N ls [toV N s,frV N t] s t v hs)=>h.dist hok hP hA hxs);clear hg ho hc hok hP hA hcc hSm hxs hxt hsn htn hNS
 go_enter func13,ntmps13
 go_wp2_with fail
 with_reducible refine HCK.out.mono ?_
 rintro r w1 ⟨rfl,hb1⟩;have HB1:=Zh hb1;have HQN:=Zh (HNQ.out w1 hb1);clear hb1
 go_wp2_with fail
 with_reducible refine HQN.out.mono ?_
 rintro r w2 ⟨qb,Q,cq,mb,bb,rfl,hq,hm,hB,⟨m1,m2,m3⟩,hb2⟩;have HR2:=Zh (HRN.out w2 qb Q ls.length cq mb bb w.heap.size hq hm hB ⟨Yx HB1.out.size m1,Yx HB1.out.size m2,m3⟩);have HB2:=Zh (Zb HB1.out hb2);clear hq hm hB m1 m2 m3 hb2
 go_wp2_with fail
 with_reducible refine HR2.out.mono ?_
 rintro r w3 ⟨⟨v,A,n,c,hs,rfl,hr,_,_,_⟩,hb3⟩;have HV:=Zh (HDP.out v hs hr);have HB3:=Zh (HB2.out.trans hb3);clear hr hb3
 go_wp2_with fail
 refine bodyPost_ret (v:=.tuple #[.int .i64 v,.nilIface]) (by simp [results,results13,go_sem]) rfl ?_;exact ⟨⟨v,rfl,HV.out⟩,HB3.out⟩
def SrcP (w':World)(N:Qam) (ls:List (List Int)) (s t:Nat) (e:Ending):Prop:=∃ v A n c hs,e=.returned (.tuple #[.agg #[.int .i64 v,.slice A n c],.nilIface])∧Qgx N s t v∧RunP N ls [toV N s,frV N t] s t v hs∧RdH w' A n (hs.map (Qse N ls [toV N s,frV N t]))∧n≤16384
theorem RdH.far {w:World}{A:Option Addr}{n g i:Nat}{L:List Qsk}(h:RdH w A n L)(hg:∀ b,Qab A=some b→b≠g)(v:Value):RdH (w.setCell ⟨g,i,none⟩ v) A n L :=
 ⟨h.1,fun k x hx=>by
  obtain ⟨b,o,e,h1,h2,h3⟩:=h.2 k x hx;have hb:=hg b (by rw [e];rfl);refine ⟨b,o,e,?_,?_,?_⟩ <;> rw [World.cell?_setCell_other _ _ _ _ (by intro h;simp only [Addr.mk.injEq] at h;omega)] <;> assumption⟩
theorem Qpt (s t:Nat)(xs xt:Tri)(hg:Qes w g N)(ho:Qfy w o N.ar ls)(hc:RdI w CA NC cl)(hok:Qap N)(hP:Qaw N.vs.length ls)(hA:Qcy N ls cl)(hcc:NC≤cC∧cC≤9223372036854775807) (hSm:Qbx (Qac N.ar ls)≤1000000000) (hxs:N.ar[s]?=some xs) (hxt:N.ar[t]?=some xt) :
 Calls prog 32 #[.pointer (some ⟨g,0,none⟩),.pointer (some ⟨o,0,none⟩),.slice CA NC cC,.int .i64 s,.int .i64 t] w fun e w'=>SrcP w' N ls s t e∧Below w.heap.size w w':=by
 have hsn:=(Zs hxs).1;have htn:=(Zs hxt).1;have hNS:NC=Qbx (Qac N.ar ls):=by rw [←hc.1,hA.1]
 have HCK:=Zh (fun V (hV:Below w.heap.size w V)=>Qkc V g o N ls CA NC cC _ s t (hg.below hV) (ho.below hV) rfl hSm);rw [show Qlh N.ar.length NC (Qbx (Qac N.ar ls)) s t=none by unfold Qlh;rw [if_neg (by omega),if_neg (by omega),if_neg (by omega)]] at HCK
 have HNQ:=Zh (fun V (hV:Below w.heap.size w V)=>Qkm V g o N ls s t CA NC cC cl (hg.below hV) (ho.below hV) (hc.below hV) hok hP);have HRN:=Zh (fun (V:World) (qb:Nat) (Q:Option Addr) (L cq mb bb B:Nat) h hm hB hBB=>run_ok V qb g o N ls s t CA NC cC cl Q L cq mb bb N.ar.length B xs xt h hm hB hok hP hA hcc hSm hxs hxt rfl hBB);have HDP:=Zh (fun v hs (h:RunP N ls [toV N s,frV N t] s t v hs)=>h.dist hok hP hA hxs);clear hg ho hc hok hP hA hcc hSm hxs hxt hsn htn hNS
 go_enter func32,ntmps32
 go_wp2_with fail
 (refine Qae ?_;intro w0 hw0)
 have hb0:Below w.heap.size w w0:=by rw [hw0];exact Qah
 have hF0:Blk w0 w.heap.size 91 #[.int .i64 0,.slice none 0 0]:=by rw [hw0];exact Blk.new _ _ _
 clear hw0;with_reducible refine (HCK.out w0 hb0).mono ?_
 rintro r w1 ⟨rfl,hb1⟩;have HF1:=Zh (hF0.below hb1 hF0.lt);have HB1:=Zh (Zb hb0 hb1);have HQN:=Zh (HNQ.out w1 HB1.out);clear hb1 hb0 hF0
 go_wp2_with fail
 with_reducible refine HQN.out.mono ?_
 rintro r w2 ⟨qb,Q,cq,mb,bb,rfl,hq,hm,hB,⟨m1,m2,m3⟩,hb2⟩;have HF2:=Zh (HF1.out.below hb2 HF1.out.lt);have HZ:=Zh (show w1.heap.size≤mb∧w1.heap.size≤bb from ⟨m1,m2⟩)
 have HR2:=Zh (HRN.out w2 qb Q ls.length cq mb bb w1.heap.size hq hm hB ⟨m1,m2,m3⟩);have HB2:=Zh (Zb HB1.out hb2);have HS2:=Zh hb2.size;clear hq hm hB m1 m2 m3 hb2
 go_wp2_with fail
 with_reducible refine HR2.out.mono ?_
 rintro r w3 ⟨⟨v,A,n,c,hs,rfl,hr,hh,hn,hlo⟩,hb3⟩;have HV:=Zh (HDP.out v hs hr);have HR:=Zh hr;have hF3:Blk w3 w.heap.size 91 #[.int .i64 0,.slice none 0 0]:=HF2.out.below hb3 HF1.out.lt;have HB3:=Zh (HB2.out.trans (hb3.mono HB1.out.size));have HLO:=Zh (show ∀ b,Qab A=some b→b≠w.heap.size from fun b hb e=>by have:=hlo b hb;have:=HS2.out;have:=HF1.out.lt;omega)
 obtain ⟨c0,c1,f0,f1⟩:=hF3.two;have HH:=Zh ((hh.far (i:=0) HLO.out (.int .i64 v)).far (i:=1) HLO.out (.slice A n c));have HBB:=Zh ((HB3.out.setCell (p:=⟨w.heap.size,0,none⟩) (Zn _) (.int .i64 v)).setCell (p:=⟨w.heap.size,1,none⟩) (Zn _) (.slice A n c));clear hr hb3 hh hlo hF3
 go_wp2_with fail
 refine bodyPost_ret (v:=.tuple #[.agg #[.int .i64 v,.slice A n c],.nilIface]) (by simp [results,results32,go_sem,c0,c1]) rfl ?_;exact ⟨⟨v,A,n,c,hs,rfl,HV.out,HR.out,HH.out,hn⟩,HBB.out⟩
end
theorem Qgx.fin {N:Qam}(hok:Qap N){s t:Nat}{v:Int}(h:Qgx N s t v)(hv:v≠1152921504606846976):0≤v∧v≤70373039144960:=by
 rcases h with ⟨_,h2⟩|⟨_,⟨h2,h3⟩|⟨h2,_⟩⟩
 · exact absurd h2 hv
 · obtain ⟨e,he,hb⟩:=Qrp hok h2
   have:=h3 e he;unfold MB at hb;exact ⟨h2.pos (fun p q d h=>(h.bd hok).1),by omega⟩
 · exact absurd h2 hv
theorem RunP.hopC {N:Qam} {ls:List (List Int)} {av:List Int} {s t:Nat} {v:Int} {hs:List (Nat×Nat)} (h:RunP N ls av s t v hs) (hv:v≠1152921504606846976):Qvv N ls av s 0 hs t v:=by
 rcases h with ⟨_,h2,_⟩|⟨_,_,⟨h3,_⟩|h3⟩
 · exact absurd h2 hv
 · exact absurd h3 hv
 · exact h3.hopC
theorem Qvv.next {N:Qam} {ls:List (List Int)} {av:List Int} {p t i:Nat} {c v:Int} {hs:List (Nat×Nat)} (h:Qvv N ls av p c (hs.drop i) t v) (hi:i<hs.length):∃ q d,hs[i]?=some (p,q)∧HSt N ls av p q d∧Qvv N ls av q (c+d) (hs.drop (i+1)) t v:=by
 rw [List.drop_eq_getElem_cons hi] at h;generalize hx:hs[i]=x at h
 cases h with
 | @cons _ q _ _ d _ _ h1 h2=>exact ⟨q,d,by rw [Zg hi,hx],h1,h2⟩
def PtR (B:Nat)(N:Qam) (ls:List (List Int)) (s t:Nat) (e:Ending) (w':World):Prop :=
 ∃ (v:Int) (A:Option Addr) (n c:Nat) (L:List Nat) (k:Int),e=.returned (.tuple #[.agg #[.slice A n c,.int .i64 v,.int .i64 k],.nilIface])∧PthP N s t ls.length v L k∧RdI w' A n (nis L)∧n≤1000000000∧n≤c∧c≤9223372036854775807∧∀ q,Qab A=some q→B≤q∧q<w'.heap.size
set_option maxRecDepth 20000 in
set_option maxHeartbeats 4000000 in
theorem Qfq (w:World)(g o:Nat)(N:Qam) (ls:List (List Int)) (CA:Option Addr) (NC cC:Nat) (cl:List Int) (s t:Nat) (xs xt:Tri) (hg:Qes w g N) (ho:Qfy w o N.ar ls) (hc:RdI w CA NC cl) (hok:Qap N) (hP:Qaw N.vs.length ls) (hA:Qcy N ls cl) (hcc:NC≤cC∧cC≤9223372036854775807) (hSm:Qbx (Qac N.ar ls)≤1000000000) (hxs:N.ar[s]?=some xs) (hxt:N.ar[t]?=some xt) :
 Calls prog 28 #[.pointer (some ⟨g,0,none⟩),.pointer (some ⟨o,0,none⟩),.slice CA NC cC,.int .i64 s,.int .i64 t] w fun e w'=>PtR w.heap.size N ls s t e w'∧Below w.heap.size w w':=by
 have HSR:=Zh (fun V (hV:Below w.heap.size w V)=>Qpt V g o N ls CA NC cC cl s t xs xt (hg.below hV) (ho.below hV) (hc.below hV) hok hP hA hcc hSm hxs hxt)
 have HNO:=Zh (fun (V:World) (B0:Nat) (hB:B0≤V.heap.size) (hV:Below w.heap.size w V) (hw:w.heap.size≤B0) =>
  have hle:Le w (msk V (fun b=>b<B0)):=Le.mskBelow hV (fun b hb=>Yu hb hw)
  Qiq V B0 g o N ls CA NC cC cl hB (hg.le hle) (ho.le hle) (hc.le hle) hok hP hA hcc hSm)
 have HFN:=Zh (fun v (h:Qgx N s t v) (hv:v≠1152921504606846976)=>h.fin hok hv);have HOK:=Zh hok;have HPT:=Zh hP;have HSX:=Zh hxs;have HL6:=Zh hP.l6;have hna4:=hok.la;clear hg ho hc hok hP hA hcc hSm hxs hxt
 go_enter func28,ntmps28
 go_wp2_with fail
 (refine Qae ?_;intro w0 hw0)
 have hb0:Below w.heap.size w w0:=by rw [hw0];exact Qah
 have HR0:=Zh (show Blk w0 w.heap.size 80 #[.slice none 0 0,.int .i64 0,.int .i64 0] by rw [hw0];exact Blk.new _ _ _)
 clear hw0;with_reducible refine (HSR.out w0 hb0).mono ?_
 rintro r w1 ⟨⟨v,A,n,c,hs,rfl,hd,hrun,hh,hn⟩,hb1⟩;have HR1:=Zh (HR0.out.below hb1 HR0.out.lt);have HB1:=Zh (Zb hb0 hb1);have HD:=Zh hd;have HRN:=Zh hrun;have HH:=Zh hh;have HNN:=Zh (show hs.length=n by have:=hh.1;simpa using this)
 have HRL:=Zh (show w.heap.size<w1.heap.size from HR1.out.lt)
 clear hb0 hb1 hd hrun hh HR0
 by_cases hv:v=1152921504606846976
 · subst hv
   have e1:(1152921504606846976:Int)≤1152921504606846976:=by omega
   have r0:=HR1.out.three;obtain ⟨c0,c1,c2⟩:=r0;have f0:=HR1.out.frozen 0;have f1:=HR1.out.frozen 1;have f2:=HR1.out.frozen 2;have hrl:=HRL.out
   go_wp2_with fail
   obtain ⟨w2,hw2⟩:∃ W,W=(((w1.setCell ⟨w.heap.size,0,none⟩ (.slice none 0 0)).setCell ⟨w.heap.size,1,none⟩ (.int .i64 1152921504606846976)).setCell ⟨w.heap.size,2,none⟩ (.int .i64 0)).alloc (.cells #[.int .i64 1152921504606846976,.slice A n c] 91):=⟨_,rfl⟩;rw [←hw2];have hb3:=Zi (o:=2) (u:=.int .i64 0) (Zi (o:=1) (u:=.int .i64 1152921504606846976) (Zi (o:=0) (u:=.slice none 0 0) HB1.out (Zn _)) (Zn _)) (Zn _);have hb2:Below w.heap.size w w2:=by rw [hw2];exact hb3.alloc hb3.size _
   have hr2:Blk w2 w.heap.size 80 #[.slice none 0 0,.int .i64 1152921504606846976,.int .i64 0]:=by rw [hw2];exact (((HR1.out.set_ 0 _).set_ 1 _).set_ 2 _).alloc _
   obtain ⟨k0,k1,k2⟩:=hr2.three;clear hw2 c0 c1 c2 f0 f1 f2;refine bodyPost_ret (v:=.tuple #[.agg #[.slice none 0 0,.int .i64 1152921504606846976,.int .i64 0],.nilIface]) (by simp [results,results28,go_sem,k0,k1,k2]) rfl ?_;exact ⟨⟨_,none,0,0,[],0,rfl,⟨HD.out,fun e=>absurd rfl e,fun _=>⟨rfl,rfl⟩,by omega,by simp⟩,⟨rfl,fun i x h=>by simp [nis] at h⟩,by omega,by omega,by omega,fun q h=>by cases h⟩,hb2⟩
 obtain ⟨hv0,hv9⟩:=HFN.out v HD.out hv;have e1:¬(1152921504606846976:Int)≤v:=by omega
 have HHC0:=Zh (HRN.out.hopC hv);have HVN:=Zh hv;clear hv hv0 HFN HSR
 go_wp2_with fail
 (refine Qae ?_;intro w3 hw3)
 obtain ⟨w2,hw2⟩:∃ w2,w2=w1.alloc (.cells #[.int .i64 v,.slice A n c] 91):=⟨_,rfl⟩;have hb2:Below w1.heap.size w1 w2:=by rw [hw2];exact Qah
 have hz2:w2.heap.size=w1.heap.size+1:=by rw [hw2,World.size_alloc]
 have HW12:=Zh (show w.heap.size≤w2.heap.size from Yx HB1.out.size hb2.size)
 have hF2:Blk w2 w1.heap.size 91 #[.int .i64 v,.slice A n c]:=by rw [hw2];exact Blk.new _ _ _
 rw [←hw2] at hw3;clear hw2;have hb3:Below w2.heap.size w2 w3:=by rw [hw3];exact (Zr _ _).alloc (Zn _) _
 have hz3:w3.heap.size=w2.heap.size+1:=by rw [hw3,World.size_alloc]
 have hO3:Own w3 w2.heap.size 3 1 (some ⟨w2.heap.size,0,none⟩) 1 1 (Qag (nis [s])):=by rw [hw3];exact Own.lit w2 #[.int .i64 (s:Nat)] 1 (Zn _) (by omega) rfl
 have hb03:=Zb HB1.out (Zb hb2 hb3);rw [←hz2];clear hw3;obtain ⟨fb,hfb⟩:∃ b,b=w1.heap.size:=⟨_,rfl⟩;rw [←hfb] at hF2 hz2 ⊢
 have HF:=Zh (show ∀ V,Below w2.heap.size w2 V→V.cell? ⟨fb,0,none⟩=some (.int .i64 v)∧V.cell? ⟨fb,1,none⟩=some (.slice A n c) from fun V hV=>by
  have:=hF2.below hV hF2.lt;exact ⟨Zq this,Zq this⟩)
 have HRW:=Zh (show ∀ V,Below w2.heap.size w2 V→Blk V w.heap.size 80 #[.slice none 0 0,.int .i64 0,.int .i64 0] from fun V hV=>HR1.out.below (Zb hb2 hV) HR1.out.lt)
 have HRH:=Zh (show ∀ V,Below w2.heap.size w2 V→RdH V A n (hs.map (Qse N ls [toV N s,frV N t])) from fun V hV=>HH.out.le (Le.below (Zb hb2 hV)))
 have HB2:=Zh (Zb HB1.out hb2);have HZ:=Zh (show fb<w2.heap.size∧w.heap.size<w2.heap.size from ⟨by omega,by have:=HRL.out;omega⟩)
 have HNO3:=Zh (HNO.out w3 w2.heap.size (by omega) hb03 (by have:=HRL.out;omega));have HB3:=Zh hb3;have HO3:=Zh hO3;have HZ3:=Zh hz3;have HR1L:=Zh (show w.heap.size<fb by rw [hfb];exact HRL.out)
 clear hb2 hz2 hF2 hb3 hz3 hO3 hb03 hfb HNO HH HR1;with_reducible refine HNO3.out.mono ?_
 rintro r w4 ⟨E,G,f,bf,dl,rfl,⟨_,_,eN,els,_⟩,hE,hW,hD,hG,hG2,hb4⟩;have HE:=Zh hE;have HEN:=Zh eN;have HELS:=Zh els;have HO4:=Zh (HO3.out.below hb4)
 have HW4:=Zh (hW.holds (Zr _ _) (X':=fun q=>Qab (some ⟨w2.heap.size,0,none⟩)=some q) (fun q hq=>.inl (by
  have h1:w2.heap.size=q:=Yv hq;have:=HZ3.out;exact ⟨by omega,by omega⟩)))
 have HD4:=Zh hD;have HG:=Zh hG
 have HNG4:=Zh (show ∀ q,Qab (some ⟨w2.heap.size,0,none⟩)=some q→¬G q from fun q hq hg=>by
  have h1:w2.heap.size=q:=Yv hq;have:=HZ3.out
  rcases hG2 q hg with h|h <;> omega)
 have HB4:=Zh (Zb HB3.out hb4);have x1:=(HF.out w4 HB4.out).2;have HQ9:=Zh (show ∀ (V:World) (G' X':Nat→Prop) n f bf dl hp R Lp,OpW V G' X' E n f bf dl hp R Lp→V.cell? ⟨E.qb,9,none⟩=some (.int .i64 Lp) from fun V G' X' n f bf dl hp R Lp h=>h.c9)
 clear eN els hE hW hD hG hG2 hb4 HNO3 HO3 HB3
 go_wp2_with fail
 go_loopw [14,46] (fun ua ui W=>∃ (i p:Nat) (c1:Int) (l:List Nat) (A1:Option Addr) (n1 k1 m:Nat) (G':Nat→Prop) (n':Nat) (f':Nat→Nat→Option Value) (bf' dl':List Int) (hp':Nat→Option Int),i≤n∧ui=.int .i64 i∧ua=.slice A1 n1 k1∧n1=l.length+1∧Qdg (StW N) s p c1 l∧Qvv N ls [toV N s,frV N t] p c1 (hs.drop i) t v∧Own W w2.heap.size 3 1 A1 n1 k1 (Qag (nis (s::l))) ∧
  OpW W G' (fun q=>Qab A1=some q) E n' f' bf' dl' hp' m m∧OpD E dl' bf' m n'∧m≤ls.length*l.length∧l.length≤i*16384∧(∀ q,Qab A1=some q→¬G' q)∧(∀ q,q<w2.heap.size→G' q)∧Below w2.heap.size w2 W) (fun _ ui _=>n-(intOf ui).toNat)
 case atStart=>exact ⟨0,s,0,[],_,1,1,0,G,0,f,bf,dl,_,Nat.zero_le _,rfl,rfl,rfl,.start,HHC0.out,HO4.out,HW4.out,HD4.out,Nat.zero_le _,Nat.zero_le _,HNG4.out,HG.out,HB4.out⟩
 case round =>
  clear HO4 HW4 HD4 HNG4 HB4 HG x1 HHC0;obtain ⟨i,p,c1,l,A1,n1,k1,m,G1,n',f',bf',dl',hp',hin,rfl,rfl,hn1,hrl,hhc,hown,hW,hD,hm,hll,hng,hga,hb⟩:=hrel;have HN1:=Zh hn1;have HRLi:=Zh hrl;have HOi:=Zh hown;have HWi:=Zh hW;have HDi:=Zh hD;have HMi:=Zh hm;have HLi:=Zh hll;have HNGi:=Zh hng;have HBi:=Zh hb;have HGAi:=Zh hga
  have hll2:l.length≤268435456:=by
   have:i*16384≤16384*16384:=Nat.mul_le_mul_right _ (by omega);omega
  have hm2:m≤1610612736:=by
   have:ls.length*l.length≤6*268435456:=Nat.mul_le_mul HL6.out hll2;omega
  have hn9:n1≤268435457:=by omega
  clear hn1 hrl hown hW hD hm hll hng hga
  by_cases hlt:i<n
  rotate_left
  · obtain rfl:i=n:=by omega
    have j2:¬((i:Int)<(i:Int)):=by omega
    have hend:p=t∧c1=v:=by
     rw [List.drop_of_length_le (by rw [HNN.out];exact Zn _)] at hhc
     cases hhc with
     | nil=>exact ⟨rfl,rfl⟩
    obtain ⟨rfl,rfl⟩:=hend;have HCLN:=Zh (fun (V:World) (hV:Below wr.heap.size wr V)=>Qih A1 n1 k1 (Qag (nis (s::l))) V (HOi.out.below hV).rds (Qao _) (by omega));have HS1:=Zh (show ∀ V,Below wr.heap.size wr V→V.cell? ⟨fb,0,none⟩=some (.int .i64 c1)∧V.cell? ⟨E.qb,9,none⟩=some (.int .i64 (m:Int)) from fun V hV=>⟨(HF.out V (Zb HBi.out hV)).1,(HWi.out.below hV).c9⟩)
    have HSX2:=Zh hll2;have hne:w.heap.size≠fb:=by have:=HR1L.out;omega
    have hnq:w.heap.size≠E.qb:=(HWi.out.nG _ (.inl (HGAi.out _ HZ.out.2))).2.2.2;have HNE:=Zh (show w.heap.size≠fb∧w.heap.size≠E.qb from ⟨hne,hnq⟩)
    have HRR:=Zh (show ∀ V,Below wr.heap.size wr V→Blk V w.heap.size 80 #[.slice none 0 0,.int .i64 0,.int .i64 0] from fun V hV=>HRW.out V (Zb HBi.out hV))
    have HSX2:=Zh hll2;have s1:=HS1.out wr (Zr _ _);clear hhc hb hm2 hn9 hne hnq
    go_wp2_with fail
    refine wp_region_held_drew (S:=fun V=>V.cell? ⟨fb,0,none⟩=some (.int .i64 c1)∧V.cell? ⟨E.qb,9,none⟩=some (.int .i64 (m:Int))) (by kernel_rfl) s1 (fun _=>?_);refine tz 0 76 ?_;refine tz 2 78 ?_;refine tz 3 79 ?_;refine tz 4 80 ?_;refine tz 5 81 ?_;refine tz 6 82 ?_;refine tz 7 83 ?_;refine Zk 1 (fun K hK=>?_);go_simp;with_reducible refine (HCLN.out _ (Zr _ _).drew).mono ?_
    rintro e w6 ⟨A6,k6,rfl,ho6,hb6⟩;have hbr6:Below wr.heap.size wr w6:=(Zr _ _).drew.trans hb6;go_simp;refine hK.out _ _ (HS1.out w6 hbr6) (fun _=>?_);clear hK K;refine tz 8 84 ?_;have hr6:=HRR.out w6 hbr6;obtain ⟨k0,k1,k2⟩:=hr6.three;have f0:=hr6.frozen 0;have f1:=hr6.frozen 1;have f2:=hr6.frozen 2;have HO6:=Zh ho6;have HB6:=Zh hbr6;have HR6:=Zh hr6;clear ho6 hb6 hbr6 hr6;refine Zk 9 (fun K hK=>?_);go_simp;refine hK.out _ _ ?_ (fun _=>?_)
    · have h1:=HS1.out w6 HB6.out
      have h2:=HNE.out;refine ⟨?_,?_⟩
      · rw [World.cell?_setCell_other _ _ _ _ (by simp only [ne_eq,Addr.mk.injEq];omega),World.cell?_setCell_other _ _ _ _ (by simp only [ne_eq,Addr.mk.injEq];omega),World.cell?_setCell_other _ _ _ _ (by simp only [ne_eq,Addr.mk.injEq];omega)]
        exact h1.1
      · rw [World.cell?_setCell_other _ _ _ _ (by simp only [ne_eq,Addr.mk.injEq];omega),World.cell?_setCell_other _ _ _ _ (by simp only [ne_eq,Addr.mk.injEq];omega),World.cell?_setCell_other _ _ _ _ (by simp only [ne_eq,Addr.mk.injEq];omega)]
        exact h1.2
    clear hK K;refine tz 10 11 ?_;refine Zd ?_;obtain ⟨w7,hw7⟩:∃ W,W=((w6.setCell ⟨w.heap.size,0,none⟩ (.slice A6 n1 k6)).setCell ⟨w.heap.size,1,none⟩ (.int .i64 c1)).setCell ⟨w.heap.size,2,none⟩ (.int .i64 (m:Int)):=⟨_,rfl⟩;rw [←hw7];have hr7:Blk w7 w.heap.size 80 #[.slice A6 n1 k6,.int .i64 c1,.int .i64 (m:Int)]:=by rw [hw7];exact ((HR6.out.set_ 0 _).set_ 1 _).set_ 2 _
    have HB7:=Zh (show Below w.heap.size w w7 by
     rw [hw7];have hb:=HB2.out.trans ((Zb HBi.out HB6.out).mono (Nat.le_of_lt HZ.out.2));exact Zi (Zi (Zi hb (Zn _)) (Zn _)) (Zn _))
    have HO7:=Zh (show Own w7 wr.heap.size 3 1 A6 n1 k6 (Qag (nis (s::l))) by
     have hne:∀ q,Qab A6=some q→q≠w.heap.size:=fun q hq e=>by have h9:wr.heap.size≤q:=(HO6.out.lt q hq).1;have:=HBi.out.size;have:=HZ.out.2;omega
     have hf:∀ (W:World) (i:Nat) (v:Value),Own W wr.heap.size 3 1 A6 n1 k6 (Qag (nis (s::l)))→Own (W.setCell ⟨w.heap.size,i,none⟩ v) wr.heap.size 3 1 A6 n1 k6 (Qag (nis (s::l))):=fun W i v h=>h.far (Qad W _ i v) (.inr (fun e=>hne _ e rfl))
     rw [hw7];exact hf _ _ _ (hf _ _ _ (hf _ _ _ HO6.out)))
    obtain ⟨r0,r1,r2⟩:=hr7.three;clear hw7 k0 k1 k2 f0 f1 f2
    go_wp2_with fail
    refine bodyPost_ret (v:=.tuple #[.agg #[.slice A6 n1 k6,.int .i64 c1,.int .i64 (m:Int)],.nilIface]) (by simp [results,results28,go_sem,r0,r1,r2]) rfl ?_;have hmm:=HMi.out;refine ⟨⟨c1,A6,n1,k6,s::l,(m:Int),rfl,⟨HD.out,fun _=>⟨l,rfl,HRLi.out,HSX2.out⟩,fun e=>absurd e HVN.out,by omega,?_⟩,HO7.out.rds.rdI,?_,HO7.out.cap,HO7.out.capMax,fun q hq=>⟨Yx HW12.out (Yx HBi.out.size (HO7.out.lt q hq).1),(HO7.out.lt q hq).2⟩⟩,HB7.out⟩
    · have h1:ls.length*l.length≤ls.length*(s::l).length:=Nat.mul_le_mul_left _ (by simp)
      have h2:m≤ls.length*(s::l).length:=Yx hmm h1
      exact_mod_cast h2
    · have:=HN1.out;have:=HSX2.out;omega
  obtain ⟨q,d,hsi,hst,hhc2⟩:=hhc.next (by rw [HNN.out];exact hlt);have hx:(hs.map (Qse N ls [toV N s,frV N t]))[i]?=some (Qgt ls (toV N p) [toV N s,frV N t],p,q):=by rw [Yt,hsi];rfl
  obtain ⟨b9,o9,hA9,k0,k1x,k2⟩:=(HRH.out wr hb).2 i _ hx;simp only at k0 k1x k2;have HST:=Zh hst;have HHC:=Zh hhc2;obtain ⟨lv,hlv⟩:∃ lv,lv=Qgt ls (toV N p) [toV N s,frV N t]:=⟨_,rfl⟩;rw [←hlv] at k0;have HLV:=Zh hlv;have j1:(i:Int)<(n:Int):=by omega
  have j0:(0:Int)≤(i:Int):=by omega
  subst hA9;clear hhc hhc2 hst hsi hx hlv hb
  by_cases hl0:lv=0
  · have hfl:=HST.out.flat (by rw [←HLV.out];exact hl0)
    subst hl0;have k0:wr.cell? ⟨b9,o9+i*3,none⟩=some (.int .i64 0):=k0;obtain ⟨W2,hW2⟩:∃ W2,W2=(wr.alloc (.cells #[.int .i64 0,.int .i64 (p:Nat),.int .i64 (q:Nat)] 100)).alloc (.cells #[.int .i64 (q:Nat)] 3):=⟨_,rfl⟩;have hbW:Below wr.heap.size wr W2:=by rw [hW2];exact Qah
    have hrdW:Rds W2 1 (some ⟨wr.heap.size+1,0,none⟩) 1 (Qag (nis [q])):=by rw [hW2];exact (Blk.new' (wr.alloc (.cells #[.int .i64 0,.int .i64 (p:Nat),.int .i64 (q:Nat)] 100)) 3 #[.int .i64 (q:Nat)] (by simp [World.size_alloc])).rds rfl
    have hownW:=HOi.out.below hbW;have hszW:w2.heap.size≤W2.heap.size:=Yx HBi.out.size hbW.size;have HBX:=Zh (Zb HBi.out hbW);have HWX:=Zh (HWi.out.below hbW);obtain ⟨GX,hGX⟩:∃ GX,GX=G1:=⟨_,rfl⟩;rw [←hGX] at HWX;have HNX:=Zh (show ∀ q,Qab A1=some q→¬GX q by rw [hGX];exact HNGi.out)
    have HXA:=Zh (show ∀ q,Qab A1=some q→(fun q=>Qab A1=some q) q from fun _ h=>h)
    have HGAX:=Zh (show ∀ q,q<w2.heap.size→GX q by rw [hGX];exact HGAi.out)
    have HRN2:=Zh (show Qdg (StW N) s q (c1+d) (l ++[q]) from HRLi.out.step hfl)
    have HW2:=Zh hW2;clear hW2 hbW hGX hfl
    go_wp2_with (at_builtin;rw [←HW2.out];with_reducible refine Qal rfl (.tmp 53) (.tmp 56) 61 rfl 3 _ 1 8 Qbm underlying61 rfl (by omega) rfl rfl hownW hrdW (Qao _) (by omega) (by omega) hszW ?_)
    intro A3 k3 w5 ho5 hg5 hat5;have HO5:=Zh ho5;have hlt4:=hownW.lt;have hlt5:=ho5.lt
    have HX5:=Zh (HWX.out.grow (X':=fun q=>Qab A3=some q) hg5 (fun q hq=>⟨HXA.out q hq,HNX.out q hq⟩) (fun q hq=>by
     rcases hat5 with h2|h2
     · exact .inl (HXA.out q (h2▸hq))
     · have h3:=(hlt5 q hq).2
       rw [h2] at hq
       cases hq
       exact .inr ⟨Zn _,h3⟩))
    have HB5:=Zh (Zo HBX.out hg5 hownW hszW)
    have HNG5:=Zh (show ∀ q,Qab A3=some q→¬GX q from fun q hq hg=>by
     rcases hat5 with h2|h2
     · rw [h2] at hq
       exact HNX.out q hq hg
     · rw [h2] at hq
       cases hq
       have:=HWX.out.gl _ (.inl hg);omega)
    clear hlt4 hlt5 hownW hrdW hszW ho5 hg5 hat5
    go_wp2_with fail
    go_roundw
    case rel=>exact ⟨i+1,q,c1+d,l ++[q],A3,n1+1,k3,m,GX,n',f',bf',dl',hp',by omega,by go_num,rfl,by rw [Yp,HN1.out];rfl,HRN2.out,HHC.out,by rw [show s::(l ++[q])=(s::l) ++[q] from rfl,Qfj,Qbj];exact HO5.out,HX5.out,HDi.out,by
     have h1:=HMi.out;rw [Yp,Nat.mul_add];omega,by have h1:=HLi.out;rw [Yp,List.length_singleton,Nat.add_mul];omega,HNG5.out,HGAX.out,HB5.out⟩
    case measure=>simp [intOf];omega
  · obtain ⟨j,hj⟩:∃ j,lv=j+1:=⟨lv-1,by omega⟩
    obtain ⟨l0,y,z,v0,hl1,hy,hz,hlp,hwz,hd⟩:=HST.out.lp (j:=j) (by rw [←HLV.out];exact hj);obtain ⟨_,u,_,e2,_,hu⟩:=Qdi HOK.out hy;obtain ⟨c,hc,_,_⟩:=Qcl (HPT.out.lvl l0 (Zm hl1)) hu;rw [←e2] at hc;rw [hc] at hlp;have hlv6:lv≤6:=by have:=(Zs hl1).1;have:=HL6.out;omega
    have hlvL:lv≤ls.length:=by have:=(Zs hl1).1;omega
    obtain ⟨W2,hW2⟩:∃ W2,W2=wr.alloc (.cells #[.int .i64 (lv:Nat),.int .i64 (p:Nat),.int .i64 (q:Nat)] 100):=⟨_,rfl⟩;have hbW:Below wr.heap.size wr W2:=by rw [hW2];exact Qah
    have HOPN:=Zh (Qrz E HE.out j W2 G1 _ n' f' bf' dl' hp' m m lv p q c l0 v0 (HWi.out.below hbW) hj (by rw [HELS.out];exact hl1) (by rw [HEN.out];exact hlp) HDi.out (by omega) (by omega) (by omega) (by omega));have hown2:=HOi.out.below hbW;have HBW:=Zh (Zb HBi.out hbW);have HOW2:=Zh hown2;have HW2:=Zh hW2;have HZD:=Zh (show N.ar[q]?=some z∧z.2.2≠1152921504606846976∧d=v0+z.2.2 from ⟨hz,hwz,hd⟩)
    have HLVL:=Zh hlvL;clear hl1 hy hz hlp hwz hd e2 hu hc hW2 hbW hown2 hlvL hj
    go_wp2_with fail
    rw [←HW2.out];with_reducible refine HOPN.out.mono ?_
    rintro e w6 ⟨A2,k2',c2,m2,L2,GX,n3,f3,bf3,dl3,hp3,rfl,hop,hk2,hm2,hW6,hD6,hG6,hG7,ha6,hr6,hn6,_⟩;rw [HEN.out] at hop;have hL2:=hop.len;have hownW:=HOW2.out.keepK ha6.kept (fun q hq=>.inr hq);have hrdW:Rds w6 1 A2 k2' (Qag (nis L2)):=(hr6.le (Qat _ _)).rdsI;have HBX:=Zh (show Below w2.heap.size w2 w6 from HBW.out.trans (ha6.bel _ (fun b hb=>.inl (HGAi.out b hb))))
    have hszW:w2.heap.size≤w6.heap.size:=HBX.out.size;have HWX:=Zh hW6;have HDX:=Zh hD6;have HXA:=Zh (show ∀ q,Qab A1=some q→(fun b=>(fun q=>Qab A1=some q) b∨Qab A2=some b) q from fun _ h=>.inl h)
    have HNX:=Zh (show ∀ q,Qab A1=some q→¬GX q from fun q hq hg=>(hG7 q hg).elim (HNGi.out q hq) (fun h=>by have:=(HOW2.out.lt q hq).2;omega))
    have HGAX:=Zh (show ∀ q,q<w2.heap.size→GX q from fun q hq=>hG6 q (HGAi.out q hq))
    have HRN2:=Zh (show Qdg (StW N) s q (c1+d) (l ++L2) by rw [HZD.out.2.2];exact HRLi.out.trans (hop.row HZD.out.1 HZD.out.2.1))
    have HK2:=Zh hk2;have HM2:=Zh hm2;have HL2:=Zh (show L2.length≤16384 by omega)
    have hk29:k2'≤16384:=by omega
    clear hop hk2 hm2 hW6 hD6 hG6 hG7 ha6 hr6 hn6 hL2 k0 k1x k2
    go_wp2_with (at_builtin;with_reducible refine Qal rfl (.tmp 72) (.tmp 73) 61 rfl 3 _ 1 8 Qbm underlying61 rfl (by omega) rfl rfl hownW hrdW (Qao _) (by omega) (by omega) hszW ?_)
    intro A3 k3 w5 ho5 hg5 hat5;have HO5:=Zh ho5;have hlt4:=hownW.lt;have hlt5:=ho5.lt
    have HX5:=Zh (HWX.out.grow (X':=fun q=>Qab A3=some q) hg5 (fun q hq=>⟨HXA.out q hq,HNX.out q hq⟩) (fun q hq=>by
     rcases hat5 with h2|h2
     · exact .inl (HXA.out q (h2▸hq))
     · have h3:=(hlt5 q hq).2
       rw [h2] at hq
       cases hq
       exact .inr ⟨Zn _,h3⟩))
    have HB5:=Zh (Zo HBX.out hg5 hownW hszW)
    have HNG5:=Zh (show ∀ q,Qab A3=some q→¬GX q from fun q hq hg=>by
     rcases hat5 with h2|h2
     · rw [h2] at hq
       exact HNX.out q hq hg
     · rw [h2] at hq
       cases hq
       have:=HWX.out.gl _ (.inl hg);omega)
    clear hlt4 hlt5 hownW hrdW hszW ho5 hg5 hat5
    go_wp2_with fail
    go_roundw
    case rel=>exact ⟨i+1,q,c1+d,l ++L2,A3,n1+k2',k3,m+m2,GX,n3,f3,bf3,dl3,hp3,by omega,by go_num,rfl,by rw [Yp,HN1.out,HK2.out];omega,HRN2.out,HHC.out,by rw [show s::(l ++L2)=(s::l) ++L2 from rfl,Qfj,Qbj];exact HO5.out,by rw [show ((m+m2:Nat):Int)=(m:Int)+m2 by omega];exact HX5.out,by rw [show ((m+m2:Nat):Int)=(m:Int)+m2 by omega];exact HDX.out,by
     have h1:=HMi.out;have h2:=HM2.out;have h3:lv*L2.length≤ls.length*L2.length:=Nat.mul_le_mul_right _ HLVL.out;rw [Yp,Nat.mul_add];omega,by have h1:=HLi.out;have h2:=HL2.out;rw [Yp,Nat.add_mul];omega,HNG5.out,HGAX.out,HB5.out⟩
    case measure=>simp [intOf];omega
end Go.Proofs.YtdheeddnkdhfeaaGreatDoor
namespace Go.Proofs.YtdheeddnkdhfeaaGreatDoor
open Go.RowKit Go.Shelf Go.Lib Go.Proofs.Tryz
attribute [local go_sem ↓] Go.wp_at_zero Go.wp_at_succ
theorem infoI2:∃ i,Tryz.prog.info? 3=some i∧i.zero=some (.int .i64 0)∧i.size=1∧i.bytes=8:=info_parts Qbm
theorem Qpa {rs:List (List Int)} {i:Nat} {r:List Int} (h:rs[i]?=some r):(rs.take (i+1)).flatten=(rs.take i).flatten ++r:=by
 have hlt:=(Zs h).1;have e:=(Zs h).2;rw [Yf hlt,e];simp
theorem growNil (n:Nat)(w:World)(hn0:0<n)(hn:n≤1000000000) :
 Calls prog 120 #[.slice none 0 0,.int .i64 n] w fun e w'=>∃ A' c',e=.returned (.slice A' 0 c')∧Own w' w.heap.size 3 1 A' 0 c' []∧Below w.heap.size w w':=by
 obtain ⟨i,hi,hz,hs,hb⟩:=infoI2;have hcon:=Any8.slices_Grow_grow growI i (.int .i64 0) hi hz (by omega) none 0 0 n [] w (by omega) (by omega) (by rw [hb];omega) (by omega) (by simp) (fun _=>rfl) (fun a h=>by cases h)
 refine Calls.mono (show Calls prog 120 _ _ _ from hcon) ?_
 rintro e w' ⟨rfl,rfl⟩;refine ⟨_,_,rfl,?_,Qah⟩;refine ⟨by simp,Or.inr ⟨w.heap.size,_,_,rfl,Zn _,heap_alloc_new _ _,Nat.zero_le _,grownCap_le_maxLen _ _ _ _ (by unfold maxLen;omega),?_,by simp⟩⟩;have:=grownCap_ge w (0+n) 0 (Tryz.growI_ren.t 25);simp [Builtin.zeroCells,Value.cells];simp at this
 first | done | omega
theorem Qrs {ls:List (List Int)} {k:Nat}:(ls.take k).flatten.length≤ls.flatten.length:=by
 conv=>rhs;rw [←List.take_append_drop k ls]
 rw [List.flatten_append,Yp];omega
set_option maxHeartbeats 2000000 in
theorem Qtz (A:Option Addr)(n c:Nat) (ls:List (List Int)) (w:World) (h:RdT w A n ls) (hn:n≤1000000000) (h0:0<ls.flatten.length) (hb:ls.flatten.length≤1000000000) :
 Calls prog 66 #[.slice A n c] w fun e w'=>∃ A' c',e=.returned (.slice A' ls.flatten.length c')∧RdI w' A' ls.flatten.length ls.flatten∧ls.flatten.length≤c'∧c'≤9223372036854775807∧(∀ g,g<w.heap.size→Qab A'≠some g)∧Below w.heap.size w w':=by
 have HL:=Zh h.1;have HF:=Zh (show ∀ k,(ls.take k).flatten.length≤ls.flatten.length from fun k=>Qrs)
 have HG:=Zh (growNil ls.flatten.length w h0 hb);have HE:=Zh (show ls.take n=ls from Ye (by rw [h.1];exact Zn _))
 generalize ht:ls.flatten.length=t at *;have HT:=Zh ht;clear ht
 go_enter func66,ntmps66
 go_wp2_with fail
 go_loopw [3,11] (fun a i W=>w=W∧∃ k:Nat,k≤n∧i=.int .i64 k∧a=.int .i64 ((ls.take k).flatten.length:Nat)) (fun _ i _=>n-(RowKit.intOf i).toNat)
 case atStart=>exact ⟨by trivial,0,Nat.zero_le _,rfl,by simp⟩
 case round =>
  obtain ⟨rfl,k,hk,rfl,rfl⟩:=hrel
  by_cases hlt:k<n
  · obtain ⟨b,o,A',n',c',l,rfl,hl,hc,hr,_,_⟩:=h.at_ hlt
    have hx:=Qpa hl;have hx2:(ls.take (k+1)).flatten.length=(ls.take k).flatten.length+n':=by rw [hx,Yp,hr.1]
    have hle:=HF.out (k+1);have HX:=Zh hx2;rw [hx2] at hle;clear hx hx2 hl;generalize (ls.take k).flatten.length=s at *;have e1:IntKind.i64.wrap ((s:Int)+(n':Int))=(s:Int)+(n':Int):=IntWalk.i64_in _ (by omega);have e2:¬((s:Int)+(n':Int)<0):=by omega
    go_wp2_with fail
    go_roundw
    case rel=>exact ⟨by trivial,k+1,by omega,by go_num,by rw [HX.out];go_num⟩
    case measure=>simp [RowKit.intOf];omega
  · obtain rfl:k=n:=by omega
    rw [HE.out,HT.out]
    go_wp2_with fail
    with_reducible refine (HG.out).mono ?_
    rintro e w2 ⟨A2,c2,rfl,hown,hb2⟩
    go_wp2_with fail
    go_loopw [6,27] (fun a i W=>Below w.heap.size w W∧∃ (k2 m:Nat) (A3:Option Addr) (c3:Nat),k2≤k∧i=.int .i64 k2∧a=.slice A3 m c3∧m=(ls.take k2).flatten.length∧Own W w.heap.size 3 1 A3 m c3 (Qag (ls.take k2).flatten)) (fun _ i _=>k-(RowKit.intOf i).toNat)
    case atStart=>exact ⟨hb2,0,0,A2,c2,Nat.zero_le _,rfl,rfl,by simp,by simpa [Qag] using hown⟩
    case round =>
     clear hown;obtain ⟨hbl,k2,m,A3,c3,hk2,rfl,rfl,hm,hown⟩:=hrel
     by_cases hlt2:k2<k
     · obtain ⟨b,o,A',n',c',l,rfl,hl,hc,hr,_,_⟩:=h.at_ hlt2
       have hx:=Qpa hl;have hx2:(ls.take (k2+1)).flatten.length=m+n':=by rw [hx,Yp,hr.1,hm]
       have hle:=HF.out (k2+1);have HX:=Zh hx2;have HX1:=Zh hx;rw [hx2] at hle;have j1:=Zc hbl (Zn _) hc;have hrd:=(hr.below hbl).rdsI;have hsz:=hbl.size;clear hx hx2 hl hm
       go_wp2_with (at_builtin;with_reducible refine Qal rfl (.tmp 31) (.tmp 32) 61 rfl 3 _ 1 8 Qbm underlying61 rfl (by omega) rfl rfl hown hrd (Qao _) (by omega) (by omega) (by omega) ?_)
       intro A6 c6 w6 hown6 hg6 _;have hb6:=Zo hbl hg6 hown (by omega);clear hown hbl hg6 hrd j1
       go_wp2
       go_roundw
       case rel=>exact ⟨hb6,k2+1,m+n',A6,c6,by omega,by go_num,rfl,HX.out.symm,by rw [HX1.out,Qbj];exact hown6⟩
       case measure=>simp [RowKit.intOf];omega
     · obtain rfl:k2=k:=by omega
       rw [HE.out] at hm hown;rw [HT.out] at hm;have hcap:=hown.cap;have hcm:=hown.capMax;have HR:=Zh hown.rds.rdI;have HZ:=Zh (show ∀ g,g<w.heap.size→Qab A3≠some g from fun g hg e=>by have:=(hown.lt g e).1;omega)
       subst hm;clear hown
       go_wp2_with fail
       go_ret
       exact ⟨A3,c3,rfl,HR.out,by omega,by omega,HZ.out,Qah⟩
theorem Qqd (A1 A2:Option Addr)(n1 c1 n2 c2 g c:Nat)(l1 l2:List Int)(w:World) (hB:Blk w g 61 #[.slice A1 n1 c1,.slice A2 n2 c2]) (h1:RdI w A1 n1 l1) (h2:RdI w A2 n2 l2) (b1:n1≤c1) (b2:n2≤c2) (m1:c1≤9223372036854775807) (m2:c2≤9223372036854775807) (h0:0<n1) (hb:n1+n2≤1000000000) :
 Calls prog 66 #[.slice (some ⟨g,0,none⟩) 2 c] w fun e w'=>∃ A' m c',e=.returned (.slice A' m c')∧m≤1000000000∧RdI w' A' m (l1 ++l2)∧m≤c'∧c'≤9223372036854775807∧(∀ g,g<w.heap.size→Qab A'≠some g)∧Below w.heap.size w w':=by
 have hR:RdT w (some ⟨g,0,none⟩) 2 [l1,l2]:=⟨rfl,fun i l hl=>by
  match i,hl with
  | 0,hl=>cases hl;exact ⟨g,0,A1,n1,c1,rfl,Zq hB,h1,b1,m1⟩
  | 1,hl=>cases hl;exact ⟨g,0,A2,n2,c2,rfl,Zq hB,h2,b2,m2⟩
  | i+2,hl=>simp at hl⟩
 have e:[l1,l2].flatten=l1 ++l2:=by simp
 have l1':=h1.1;have l2':=h2.1;have hc:=Qtz (some ⟨g,0,none⟩) 2 c [l1,l2] w hR (by omega) (by rw [e,Yp];omega) (by rw [e,Yp];omega);refine hc.mono ?_;rintro e' w' ⟨A',c',rfl,g1,g2,g3,g4,g5⟩;rw [e] at g1;refine ⟨A',_,c',rfl,by rw [e,Yp];omega,?_,g2,g3,g4,g5⟩;rw [e];exact g1
end Go.Proofs.YtdheeddnkdhfeaaGreatDoor
namespace Go.Proofs.YtdheeddnkdhfeaaGreatDoor
open Go.RowKit Go.Proofs.Tryz
theorem Qwi {N:Qam} {ls:List (List Int)} (hok:Qap N) (hP:Qaw N.vs.length ls) {j a b:Nat} {l:List Int} {y z:Tri} (hl:ls[j]?=some l) (hy:N.ar[a]?=some y) (hz:N.ar[b]?=some z)
 (h1:Qaa l y.1≠Qaa l y.2.1) (h2:Qaa l z.1=Qaa l y.2.1) (h3:Qaa l z.2.1≠Qaa l y.2.1) :
 ∃ (c p q k:Nat) (x:Qak),Qaa l y.2.1=(c:Int)∧(Qaf N.ar l)[c]?=some x∧plI x.1 (a:Int)=(p:Int)∧plI x.2 (b:Int)=(q:Int)∧x.1[p]?=some (a:Int)∧x.2[q]?=some (b:Int)∧Qfg N ls k j l c x p q a b:=by
 obtain ⟨u,v,_,e3,_,hv⟩:=Qdi hok hy;obtain ⟨c,hc,hcm,_⟩:=Qcl (hP.lvl l (Zm hl)) hv;rw [←e3] at hc;obtain ⟨x,hx⟩:∃ x,(Qaf N.ar l)[c]?=some x:=⟨_,Qci hcm⟩;rw [hc] at h1 h2 h3;obtain ⟨p,hp,hp2⟩:=Qha ((Qcv hx).2 ⟨y,hy,h1,hc⟩);obtain ⟨q,hq,hq2⟩:=Qha ((Qbo hx).2 ⟨z,hz,h2,h3⟩);exact ⟨c,p,q,_,x,hc,hx,hp,hq,hp2,hq2,hl,hx,hp2,hq2,rfl⟩
end Go.Proofs.YtdheeddnkdhfeaaGreatDoor
