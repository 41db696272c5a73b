/- Parts of the proof: Err, Ft, AsF, AsD, AsY, AsI. -/
import Derived.Test.YteaoiabikjnkeaaGreatDoorC1
import Derived.Test.YteaoiabikjnkeaaGreatDoorC4
import Derived.Test.YteaoiabikjnkeaaGreatDoorC6
import Derived.Test.YteaoiabikjnkeaaGreatDoorC12
import Derived.Test.YteaoiabikjnkeaaGreatDoorC17
import Derived.Test.YteaoiabikjnkeaaGreatDoorC18
import Derived.Test.YteaoiabikjnkeaaGreatDoorC19
import Derived.Test.YteaoiabikjnkeaaGreatDoorC20
import Derived.Test.YteaoiabikjnkeaaGreatDoorC22
import Derived.LaidEql
import Derived.Stop.Asserts
import Derived.RowKitTokens
import Derived.Lib.IfaceEq
import Derived.Stop.IfaceNil
namespace Go.Proofs.YteaoiabikjnkeaaGreatDoor
open Go.RowKit Go.Extern.Stop Go.Stop Go.Extern Tryz
abbrev Qpa (c:Int):Value:=.iface 142 (.int .i64 c)
abbrev fltV (b o:Nat):Value:=.iface 143 (.pointer (some ⟨b,o,none⟩))
def Qcs (w:World):Value→List (ByteArray×Int)→Int→Prop
 | v,[],c=>v=Qpa c
 | v,p::ps,c=>∃ b o u,v=fltV b o∧w.cell? ⟨b,o,none⟩=some (.string p.1)∧w.cell? ⟨b,o+1,none⟩=some (.int .i64 p.2)∧w.cell? ⟨b,o+2,none⟩=some u∧Qcs w u ps c
theorem Qcs.below {w w':World}(hb:Below w.heap.size w w'):∀ {ps:List (ByteArray×Int)} {v:Value} {c:Int},Qcs w v ps c→Qcs w' v ps c
 | [],_,_,h=>h
 | _::_,_,_,h=>by
  obtain ⟨b,o,u,h1,h2,h3,h4,h5⟩:=h;exact ⟨b,o,u,h1,Zc hb (Zn _) h2,Zc hb (Zn _) h3,Zc hb (Zn _) h4,Qcs.below hb h5⟩
/-! closed facts -/
theorem Qwv (v:Value)(w:World):(ReflectliteType.typeOf #[.iface 142 v]).run prog w=.ok (.iface 300 (.agg #[.pointer (some ⟨1,142,none⟩)])) w:=by kernel_rfl
def erComp : Array Value → Sem Value := ReflectliteType.method fun t => do Rtype.noPackHeld "Comparable" t; pure (.bool (← typeInfo t).comparable)
theorem Qmh (w:World):(erComp #[.agg #[.pointer (some ⟨1,142,none⟩)]]).run prog w=.ok (.bool true) w:=by kernel_rfl
theorem Qkh (v : Value) (w : World) : (Go.method 497 300 v "Comparable").run Tryz.prog w = .ok (268, v) w := by kernel_rfl
theorem er_noIs (v:Value)(xT:TypeId)(w:World):(Instr.typeAssert (.iface 142 v) xT 302 true).run prog w=.ok (.tuple #[.nilIface,.bool false]) w:=run_typeAssert_lacksB underlying302 (by kernel_rfl) (by kernel_rfl) v xT w
theorem er_noIsF (v:Value)(xT:TypeId)(w:World):(Instr.typeAssert (.iface 143 v) xT 302 true).run prog w=.ok (.tuple #[.nilIface,.bool false]) w:=run_typeAssert_lacksB underlying302 (by kernel_rfl) (by kernel_rfl) v xT w
theorem Qpe (v:Value)(xT:TypeId)(w:World):(Instr.typeAssert (.iface 142 v) xT 305 true).run prog w=.ok (.tuple #[.nilIface,.bool false]) w:=run_typeAssert_lacksB underlying305 (by kernel_rfl) (by kernel_rfl) v xT w
theorem Qnh (v:Value)(xT:TypeId)(w:World):(Instr.typeAssert (.iface 142 v) xT 307 true).run prog w=.ok (.tuple #[.nilIface,.bool false]) w:=run_typeAssert_lacksB underlying307 (by kernel_rfl) (by kernel_rfl) v xT w
theorem er_noAs (v:Value)(xT:TypeId)(w:World):(Instr.typeAssert (.iface 142 v) xT 312 true).run prog w=.ok (.tuple #[.nilIface,.bool false]) w:=run_typeAssert_lacksB underlying312 (by kernel_rfl) (by kernel_rfl) v xT w
theorem Qma (v:Value)(xT:TypeId)(w:World):(Instr.typeAssert (.iface 143 v) xT 305 true).run prog w=.ok (.tuple #[.iface 143 v,.bool true]) w:=run_typeAssert_hasB underlying305 (by kernel_rfl) v xT w
theorem Qsz (v : Value) (w : World) : (Go.method 497 143 v "Unwrap").run Tryz.prog w = .ok (262, v) w := by kernel_rfl
theorem er_comp:(Tryz.prog.info? 142).map (·.comparable)=some true:=by kernel_rfl
theorem er_eq (a b:Int)(w:World):(binOp .eql 43 (Qpa a) (Qpa b)).run prog w=.ok (.bool (a == b)) w:=Lib.run_eql_iface_int w a b underlying43 er_comp underlying142
theorem er_ne (p:Value)(b:Int)(w:World):(binOp .eql 43 (.iface 143 p) (Qpa b)).run prog w=.ok (.bool false) w:=run_eql_iface_types (P:=prog) 143 142 p (.int .i64 b) underlying43 (by decide) w
theorem Qjn {w:World}{v:Value} {ps:List (ByteArray×Int)} {c:Int} (h:Qcs w v ps c):v=Qpa c∧ps=[]∨∃ b o u p t,v=fltV b o∧ps=p::t∧w.cell? ⟨b,o,none⟩=some (.string p.1)∧w.cell? ⟨b,o+1,none⟩=some (.int .i64 p.2)∧w.cell? ⟨b,o+2,none⟩=some u∧Qcs w u t c:=by
 cases ps with
 | nil=>exact .inl ⟨h,rfl⟩
 | cons p t=>obtain ⟨b,o,u,h1,h2,h3,h4,h5⟩:=h;exact .inr ⟨b,o,u,p,t,h1,rfl,h2,h3,h4,h5⟩
theorem Qck {w:World}{v:Value} {ps:List (ByteArray×Int)} {c:Int} (h:Qcs w v ps c):∃ t x,v=.iface t x:=by
 rcases Qjn h with ⟨h,_⟩|⟨b,o,u,p,t,h,_⟩ <;> exact ⟨_,_,h⟩
theorem Qou {w:World}:∀ {ps qs:List (ByteArray×Int)} {v:Value} {c d:Int},Qcs w v ps c→Qcs w v qs d→ps.length=qs.length
 | [],[],_,_,_,_,_=>rfl
 | [],_::_,_,_,_,h,g=>by obtain ⟨b,o,u,h1,_⟩:=g;unfold Qcs at h;rw [h] at h1;cases h1
 | _::_,[],_,_,_,g,h=>by obtain ⟨b,o,u,h1,_⟩:=g;unfold Qcs at h;rw [h] at h1;cases h1
 | _::_,_::_,_,_,_,h,g=>by
  obtain ⟨b,o,u,h1,_,_,h2,h3⟩:=h;obtain ⟨b',o',u',g1,_,_,g2,g3⟩:=g;rw [h1] at g1
  cases g1
  rw [h2] at g2
  cases g2
  simp [Qou h3 g3]
noncomputable def Qil (w:World) (v:Value):Nat:=by
 classical exact if h:∃ n c,∃ ps,Qcs w v ps c∧ps.length=n then h.choose else 0
theorem Qpk {w:World} {ps:List (ByteArray×Int)} {v:Value} {c:Int} (h:Qcs w v ps c):Qil w v=ps.length:=by
 have hex:∃ n c,∃ ps,Qcs w v ps c∧ps.length=n:=⟨_,c,ps,h,rfl⟩;unfold Qil;rw [dif_pos hex];obtain ⟨d,qs,g,hl⟩:=hex.choose_spec;rw [←hl];exact Qou g h
theorem Qsw (b o:Nat)(u:Value)(w:World)(h:w.cell? ⟨b,o+2,none⟩=some u) :
 Calls prog 262 #[.pointer (some ⟨b,o,none⟩)] w fun e w'=>e=.returned u∧w'=w:=by
 go_enter func262,ntmps262
 go_wp2
 go_ret
 exact ⟨rfl,rfl⟩
set_option maxHeartbeats 1000000 in
theorem is_loop (v:Value) (ps:List (ByteArray×Int)) (c:Int) (w:World) (h:Qcs w v ps c) :
 Calls prog 128 #[v,Qpa c,.bool true] w fun e w'=>e=.returned (.bool true)∧w'=w:=by
 have nE:=er_noIs;have nF:=er_noIsF;have uF:=Qma;have mU:=Qsz;have heq:=er_eq;have hne:=er_ne;have hCL:∀ (ps:List (ByteArray×Int)) (v:Value) (c:Int),Qcs w v ps c→Qil w v=ps.length:=fun _ _ _ h=>Qpk h
 have HCL:=Zh hCL;clear hCL;have HU:∀ (b o:Nat) (u:Value),w.cell? ⟨b,o+2,none⟩=some u→Calls prog 262 #[.pointer (some ⟨b,o,none⟩)] w fun e w'=>e=.returned u∧w'=w:=fun b o u h=>Qsw b o u w h
 have HU':=Zh HU;clear HU
 go_enter func128,ntmps128
 go_wp2
 go_loop [0] (fun i=>∃ qs,Qcs w i qs c) (fun i=>Qil w i)
 case atStart=>exact ⟨ps,h⟩
 case round =>
  obtain ⟨qs,hq⟩:=hrel
  rcases Qjn hq with ⟨rfl,rfl⟩|⟨b,o,u,p,t,rfl,rfl,h1,h2,h3,h4⟩
  · clear hq h
    go_wp2
    go_ret
    exact ⟨rfl,rfl⟩
  · obtain ⟨tu,xu,rfl⟩:=Qck h4
    have e1:=HCL.out _ _ _ hq;have e2:=HCL.out _ _ _ h4;have E1:=Zh e1;clear e1;have E2:=Zh e2;clear e2;have H4:=Zh h4;clear h4;have h3':=h3;clear hq h
    go_wp2_with (go_at_call 262;refine (HU'.out b o _ h3).mono ?_;rintro e w' ⟨rfl,rfl⟩)
    go_round
    case rel=>exact ⟨t,H4.out⟩
    case measure=>rw [E1.out,E2.out];simp
set_option maxHeartbeats 1000000 in
theorem errorsIs (v:Value) (ps:List (ByteArray×Int)) (c:Int) (w:World) (h:Qcs w v ps c) :
 Calls prog 65 #[v,Qpa c] w fun e w'=>e=.returned (.bool true)∧w'=w:=by
 have h10:=@run_callFunc_extern prog 127 _ ReflectliteType.typeOf func127 (by kernel_rfl) (by kernel_rfl) (by kernel_rfl) (by kernel_rfl);have h32:=@run_callFunc_extern prog 268 _ erComp func268 (by kernel_rfl) (by kernel_rfl) (by kernel_rfl) (by kernel_rfl);have tT:=Qwv;have cT:=Qmh;have mR:=Qkh;have HL:=Zh (is_loop v ps c w h);obtain ⟨tv,xv,rfl⟩:=Qck h;clear h
 go_enter func65,ntmps65
 go_wp2_with (go_at_call 128;refine (HL.out).mono ?_;rintro e w' ⟨rfl,rfl⟩)
 go_ret
 exact ⟨rfl,rfl⟩
end Go.Proofs.YteaoiabikjnkeaaGreatDoor
namespace Go.Proofs.YteaoiabikjnkeaaGreatDoor
open Go.RowKit Tryz
def RdW (w:World)(A:Option Addr)(n:Nat) (l:List (ByteArray×Int)):Prop :=
 l.length=n∧∀ i x,l[i]?=some x→∃ b o,A=some ⟨b,o,none⟩∧w.cell? ⟨b,o+i*2,none⟩=some (.string x.1)∧w.cell? ⟨b,o+i*2+1,none⟩=some (.int .i64 x.2)
theorem RdW.below {w w':World}{A:Option Addr}{n:Nat} {l:List (ByteArray×Int)} (h:RdW w A n l) (hb:Below w.heap.size w w'):RdW w' A n l :=
 ⟨h.1,fun i x hx=>by obtain ⟨b,o,e,hc,hd⟩:=h.2 i x hx;exact ⟨b,o,e,Zc hb (Zn _) hc,Zc hb (Zn _) hd⟩⟩
def Wrg (w:World)(v:Value) (ps:List (ByteArray×Int)) (c:Int):Prop:=∃ A n m,v=.agg #[.slice A n m,.int .i64 c]∧RdW w A n ps∧n≤1000000
theorem Qvn (s:ByteArray)(k c:Int)(w:World):Calls prog 50 #[.string s,.int .i64 k,.int .i64 c] w fun e w'=>∃ v,e=.returned v∧Wrg w' v [(s,k)] c∧Below w.heap.size w w':=by
 go_enter func50,ntmps50
 go_wp2
 refine bodyPost_ret (v:=.agg #[.slice (some ⟨w.heap.size+1,0,none⟩) 1 1,.int .i64 c]) (by simp [results,results50,go_sem]) rfl ?_;refine ⟨_,rfl,⟨_,1,1,rfl,⟨rfl,fun i x hx=>?_⟩,by omega⟩,Qah⟩
 match i,hx with
 | 0,hx=>cases hx;exact ⟨_,_,rfl,by simp,by simp⟩
 | i+1,hx=>simp at hx
attribute [local go_sem ↓] Go.wp_at_zero Go.wp_at_succ
def Qkn (N:Qaq)(s t:Nat)(v:Int):Prop:=(wV N s=1152921504606846976∧v=1152921504606846976)∨(wV N s≠1152921504606846976∧Lst (Rch (StW N) s t) v)
def Qjw (m NC S:Nat)(s t:Int):Option (Int×Int):=if s<0∨(m:Int)≤s then some (0,5) else if t<0∨(m:Int)≤t then some (1,5) else if NC≠S then some (2,1) else none
def Qjf (w:World) (b:Option (Int×Int)) (e:Ending) (w':World):Prop:=(match b with|none=>e=.returned .nilIface|some (k,c)=>∃ v,e=.returned v∧Qcs w' v [((⟨#[97,115,107]⟩:ByteArray),k)] c)∧Below w.heap.size w w'
set_option maxHeartbeats 1000000 in
theorem Qgq (w:World)(g o:Nat)(N:Qaq) (ls:List (List Int)) (CA:Option Addr) (NC cC S:Nat) (s t:Int) (hg:Qeo w g N) (ho:Qgd w o N.ar ls) (hS:S=Qbv (Qae N.ar ls)) (hS2:S≤1000000000) :
 Calls prog 62 #[.pointer (some ⟨g,0,none⟩),.pointer (some ⟨o,0,none⟩),.slice CA NC cC,.int .i64 s,.int .i64 t] w (Qjf w (Qjw N.ar.length NC S s t)):=by
 obtain ⟨m,hmm⟩:∃ m,m=N.ar.length:=⟨_,rfl⟩;have HGA:=Zh (show Calls prog 85 #[.pointer (some ⟨g,0,none⟩)] w fun e w'=>e=.returned (.int .i64 m)∧w=w' from by rw [hmm];exact Qhc g N w hg)
 have HSZ:=Zh (show Calls prog 84 #[.pointer (some ⟨o,0,none⟩)] w fun e w'=>e=.returned (.int .i64 (S:Nat))∧w=w' from by rw [hS];exact Qni o N.ar ls w ho)
 rw [←hmm];clear hg ho hS hmm;unfold Qjw
 by_cases i1:s<0
 · rw [if_pos (.inl i1)]
   unfold Qjf
   go_enter func62,ntmps62
   go_wp2_with fail
   with_reducible refine HGA.out.mono ?_
   rintro r w' ⟨rfl,rfl⟩
   go_wp2_with fail
   go_ret
   refine ⟨⟨_,rfl,w.heap.size,0,Qpa 5,rfl,?_,?_,?_,rfl⟩,Qah⟩
   all_goals simp
 have i1':¬s<0:=i1
 by_cases i2:(m:Int)≤s
 · rw [if_pos (.inr i2)]
   unfold Qjf
   go_enter func62,ntmps62
   go_wp2_with fail
   with_reducible refine HGA.out.mono ?_
   rintro r w' ⟨rfl,rfl⟩
   go_wp2_with fail
   go_ret
   refine ⟨⟨_,rfl,w.heap.size,0,Qpa 5,rfl,?_,?_,?_,rfl⟩,Qah⟩
   all_goals simp
 rw [if_neg (by omega)]
 by_cases i3:t<0
 · rw [if_pos (.inl i3)]
   unfold Qjf
   go_enter func62,ntmps62
   go_wp2_with fail
   with_reducible refine HGA.out.mono ?_
   rintro r w' ⟨rfl,rfl⟩
   go_wp2_with fail
   go_ret
   refine ⟨⟨_,rfl,w.heap.size,0,Qpa 5,rfl,?_,?_,?_,rfl⟩,Qah⟩
   all_goals simp
 by_cases i4:(m:Int)≤t
 · rw [if_pos (.inr i4)]
   unfold Qjf
   go_enter func62,ntmps62
   go_wp2_with fail
   with_reducible refine HGA.out.mono ?_
   rintro r w' ⟨rfl,rfl⟩
   go_wp2_with fail
   go_ret
   refine ⟨⟨_,rfl,w.heap.size,0,Qpa 5,rfl,?_,?_,?_,rfl⟩,Qah⟩
   all_goals simp
 rw [if_neg (by omega)]
 by_cases i5:NC=S
 · rw [if_neg (fun h=>h i5)]
   unfold Qjf;subst i5
   go_enter func62,ntmps62
   go_wp2_with fail
   with_reducible refine HGA.out.mono ?_
   rintro r w' ⟨rfl,rfl⟩
   go_wp2_with fail
   with_reducible refine HSZ.out.mono ?_
   rintro r w' ⟨rfl,rfl⟩
   go_wp2_with fail
   go_ret
   exact ⟨rfl,Zr _ _⟩
 · rw [if_pos i5]
   unfold Qjf;have i6:¬(NC:Int)=(S:Int):=by omega
   go_enter func62,ntmps62
   go_wp2_with fail
   with_reducible refine HGA.out.mono ?_
   rintro r w' ⟨rfl,rfl⟩
   go_wp2_with fail
   with_reducible refine HSZ.out.mono ?_
   rintro r w' ⟨rfl,rfl⟩
   go_wp2_with fail
   go_ret
   refine ⟨⟨_,rfl,w.heap.size,0,Qpa 1,rfl,?_,?_,?_,rfl⟩,Qah⟩
   all_goals simp
theorem Qkn.uniq {N:Qaq}{s t:Nat}{a b:Int}(h:Qkn N s t a)(g:Qkn N s t b):a=b:=by
 rcases h with ⟨h1,h2⟩|⟨h1,h2⟩ <;> rcases g with ⟨g1,g2⟩|⟨g1,g2⟩
 · rw [h2,g2]
 · exact absurd h1 g1
 · exact absurd g1 h1
 · exact h2.uniq g2
theorem RunP.dist {N:Qaq} {ls:List (List Int)} {cl:List Int} {s t:Nat} {v:Int} {hs:List (Nat×Nat)} {xs:Tri} (h:RunP N ls [toV N s,frV N t] s t v hs) (hok:Qaw N) (hP:Qay N.vs.length ls) (hA:Qdh N ls cl) (hs:N.ar[s]?=some xs):Qkn N s t v:=by
 rcases h with ⟨h1,h2,_⟩|⟨h1,h2,_⟩
 · exact .inl ⟨h1,h2⟩
 · exact .inr ⟨h1,Qlc hok hP (hA.ex hok hP) ⟨_,hs⟩ (by simp) (by simp) h2⟩
section
variable (w:World) (g o:Nat) (N:Qaq) (ls:List (List Int)) (CA:Option Addr) (NC cC S:Nat) (cl:List Int)
theorem Qsq (s t k c:Int)(hg:Qeo w g N)(ho:Qgd w o N.ar ls) (hS:S=Qbv (Qae N.ar ls)) (hS2:S≤1000000000) (hb:Qjw N.ar.length NC S s t=some (k,c)) :
 Calls prog 19 #[.pointer (some ⟨g,0,none⟩),.pointer (some ⟨o,0,none⟩),.slice CA NC cC,.int .i64 s,.int .i64 t] w fun e w'=>(∃ v,e=.returned (.tuple #[.int .i64 0,v])∧Qcs w' v [((⟨#[97,115,107]⟩:ByteArray),k)] c)∧Below w.heap.size w w':=by
 have HCK:=Zh (Qgq w g o N ls CA NC cC S s t hg ho hS hS2);rw [hb] at HCK;clear hg ho hS hS2 hb
 go_enter func19,ntmps19
 go_wp2_with fail
 with_reducible refine HCK.out.mono ?_
 rintro r w1 ⟨⟨v,rfl,hc⟩,hb1⟩;obtain ⟨tv,xv,rfl⟩:=Qck hc;have HC:=Zh hc;clear hc
 go_wp2_with fail
 refine bodyPost_ret (v:=.tuple #[.int .i64 0,.iface tv xv]) (by simp [results,results19,go_sem]) rfl ?_;exact ⟨⟨_,rfl,HC.out⟩,hb1⟩
theorem Qie (s t:Nat)(xs xt:Tri)(hg:Qeo w g N)(ho:Qgd w o N.ar ls)(hc:RdI w CA NC cl)(hok:Qaw N)(hP:Qay N.vs.length ls)(hA:Qdh N ls cl)(hcc:NC≤cC∧cC≤9223372036854775807) (hSm:Qbv (Qae N.ar ls)≤1000000000) (hxs:N.ar[s]?=some xs) (hxt:N.ar[t]?=some xt) :
 Calls prog 19 #[.pointer (some ⟨g,0,none⟩),.pointer (some ⟨o,0,none⟩),.slice CA NC cC,.int .i64 s,.int .i64 t] w fun e w'=>(∃ v,e=.returned (.tuple #[.int .i64 v,.nilIface])∧Qkn N s t v)∧Below w.heap.size w w':=by
 have hsn:=(Zs hxs).1;have htn:=(Zs hxt).1;have hNS:NC=Qbv (Qae N.ar ls):=by rw [←hc.1,hA.1]
 have HCK:=Zh (Qgq w g o N ls CA NC cC _ s t hg ho rfl hSm);rw [show Qjw N.ar.length NC (Qbv (Qae N.ar ls)) s t=none by unfold Qjw;rw [if_neg (by omega),if_neg (by omega),if_neg (by omega)]] at HCK
 have HNQ:=Zh (fun V (hV:Below w.heap.size w V)=>Qjm V g o N ls s t CA NC cC cl (hg.below hV) (ho.below hV) (hc.below hV) hok hP);have HRN:=Zh (fun (V:World) (qb:Nat) (Q:Option Addr) (L cq mb bb B:Nat) h hm hB hBB=>run_ok V qb g o N ls s t CA NC cC cl Q L cq mb bb N.ar.length B xs xt h hm hB hok hP hA hcc hSm hxs hxt rfl hBB);have HDP:=Zh (fun v hs (h:RunP N ls [toV N s,frV N t] s t v hs)=>h.dist hok hP hA hxs);clear hg ho hc hok hP hA hcc hSm hxs hxt hsn htn hNS
 go_enter func19,ntmps19
 go_wp2_with fail
 with_reducible refine HCK.out.mono ?_
 rintro r w1 ⟨rfl,hb1⟩;have HB1:=Zh hb1;have HQN:=Zh (HNQ.out w1 hb1);clear hb1
 go_wp2_with fail
 with_reducible refine HQN.out.mono ?_
 rintro r w2 ⟨qb,Q,cq,mb,bb,rfl,hq,hm,hB,⟨m1,m2,m3⟩,hb2⟩;have HR2:=Zh (HRN.out w2 qb Q ls.length cq mb bb w.heap.size hq hm hB ⟨Nat.le_trans HB1.out.size m1,Nat.le_trans HB1.out.size m2,m3⟩);have HB2:=Zh (Zb HB1.out hb2);clear hq hm hB m1 m2 m3 hb2
 go_wp2_with fail
 with_reducible refine HR2.out.mono ?_
 rintro r w3 ⟨⟨v,A,n,c,hs,rfl,hr,_,_,_⟩,hb3⟩;have HV:=Zh (HDP.out v hs hr);have HB3:=Zh (HB2.out.trans hb3);clear hr hb3
 go_wp2_with fail
 refine bodyPost_ret (v:=.tuple #[.int .i64 v,.nilIface]) (by simp [results,results19,go_sem]) rfl ?_;exact ⟨⟨v,rfl,HV.out⟩,HB3.out⟩
def SrcP (w':World)(N:Qaq) (ls:List (List Int)) (s t:Nat) (e:Ending):Prop:=∃ v A n c hs,e=.returned (.tuple #[.agg #[.int .i64 v,.slice A n c],.nilIface])∧Qkn N s t v∧RunP N ls [toV N s,frV N t] s t v hs∧RdH w' A n (hs.map (Qsl N ls [toV N s,frV N t]))∧n≤16384
theorem RdH.far {w:World}{A:Option Addr}{n g i:Nat}{L:List Qkz}(h:RdH w A n L)(hg:∀ b,Qac A=some b→b≠g)(v:Value):RdH (w.setCell ⟨g,i,none⟩ v) A n L :=
 ⟨h.1,fun k x hx=>by
  obtain ⟨b,o,e,h1,h2,h3⟩:=h.2 k x hx;have hb:=hg b (by rw [e];rfl);refine ⟨b,o,e,?_,?_,?_⟩ <;> rw [World.cell?_setCell_other _ _ _ _ (by intro h;simp only [Addr.mk.injEq] at h;omega)] <;> assumption⟩
theorem Qno (s t:Nat)(xs xt:Tri)(hg:Qeo w g N)(ho:Qgd w o N.ar ls)(hc:RdI w CA NC cl)(hok:Qaw N)(hP:Qay N.vs.length ls)(hA:Qdh N ls cl)(hcc:NC≤cC∧cC≤9223372036854775807) (hSm:Qbv (Qae N.ar ls)≤1000000000) (hxs:N.ar[s]?=some xs) (hxt:N.ar[t]?=some xt) :
 Calls prog 54 #[.pointer (some ⟨g,0,none⟩),.pointer (some ⟨o,0,none⟩),.slice CA NC cC,.int .i64 s,.int .i64 t] w fun e w'=>SrcP w' N ls s t e∧Below w.heap.size w w':=by
 have hsn:=(Zs hxs).1;have htn:=(Zs hxt).1;have hNS:NC=Qbv (Qae N.ar ls):=by rw [←hc.1,hA.1]
 have HCK:=Zh (fun V (hV:Below w.heap.size w V)=>Qgq V g o N ls CA NC cC _ s t (hg.below hV) (ho.below hV) rfl hSm);rw [show Qjw N.ar.length NC (Qbv (Qae N.ar ls)) s t=none by unfold Qjw;rw [if_neg (by omega),if_neg (by omega),if_neg (by omega)]] at HCK
 have HNQ:=Zh (fun V (hV:Below w.heap.size w V)=>Qjm V g o N ls s t CA NC cC cl (hg.below hV) (ho.below hV) (hc.below hV) hok hP);have HRN:=Zh (fun (V:World) (qb:Nat) (Q:Option Addr) (L cq mb bb B:Nat) h hm hB hBB=>run_ok V qb g o N ls s t CA NC cC cl Q L cq mb bb N.ar.length B xs xt h hm hB hok hP hA hcc hSm hxs hxt rfl hBB);have HDP:=Zh (fun v hs (h:RunP N ls [toV N s,frV N t] s t v hs)=>h.dist hok hP hA hxs);clear hg ho hc hok hP hA hcc hSm hxs hxt hsn htn hNS
 go_enter func54,ntmps54
 go_wp2_with fail
 (refine Qad ?_;intro w0 hw0)
 have hb0:Below w.heap.size w w0:=by rw [hw0];exact Qah
 have hF0:Blk w0 w.heap.size 124 #[.int .i64 0,.slice none 0 0]:=by rw [hw0];exact Blk.new _ _ _
 clear hw0;with_reducible refine (HCK.out w0 hb0).mono ?_
 rintro r w1 ⟨rfl,hb1⟩;have HF1:=Zh (hF0.below hb1 hF0.lt);have HB1:=Zh (Zb hb0 hb1);have HQN:=Zh (HNQ.out w1 HB1.out);clear hb1 hb0 hF0
 go_wp2_with fail
 with_reducible refine HQN.out.mono ?_
 rintro r w2 ⟨qb,Q,cq,mb,bb,rfl,hq,hm,hB,⟨m1,m2,m3⟩,hb2⟩;have HF2:=Zh (HF1.out.below hb2 HF1.out.lt);have HZ:=Zh (show w1.heap.size≤mb∧w1.heap.size≤bb from ⟨m1,m2⟩)
 have HR2:=Zh (HRN.out w2 qb Q ls.length cq mb bb w1.heap.size hq hm hB ⟨m1,m2,m3⟩);have HB2:=Zh (Zb HB1.out hb2);have HS2:=Zh hb2.size;clear hq hm hB m1 m2 m3 hb2
 go_wp2_with fail
 with_reducible refine HR2.out.mono ?_
 rintro r w3 ⟨⟨v,A,n,c,hs,rfl,hr,hh,hn,hlo⟩,hb3⟩;have HV:=Zh (HDP.out v hs hr);have HR:=Zh hr;have hF3:Blk w3 w.heap.size 124 #[.int .i64 0,.slice none 0 0]:=HF2.out.below hb3 HF1.out.lt;have HB3:=Zh (HB2.out.trans (hb3.mono HB1.out.size));have HLO:=Zh (show ∀ b,Qac A=some b→b≠w.heap.size from fun b hb e=>by have:=hlo b hb;have:=HS2.out;have:=HF1.out.lt;omega)
 obtain ⟨c0,c1,f0,f1⟩:=hF3.two;have HH:=Zh ((hh.far (i:=0) HLO.out (.int .i64 v)).far (i:=1) HLO.out (.slice A n c));have HBB:=Zh ((HB3.out.setCell (p:=⟨w.heap.size,0,none⟩) (Zn _) (.int .i64 v)).setCell (p:=⟨w.heap.size,1,none⟩) (Zn _) (.slice A n c));clear hr hb3 hh hlo hF3
 go_wp2_with fail
 refine bodyPost_ret (v:=.tuple #[.agg #[.int .i64 v,.slice A n c],.nilIface]) (by simp [results,results54,go_sem,c0,c1]) rfl ?_;exact ⟨⟨v,A,n,c,hs,rfl,HV.out,HR.out,HH.out,hn⟩,HBB.out⟩
end
set_option maxRecDepth 20000 in
theorem Qiy (w:World)(o:Nat)(ar:List Tri) (ls:List (List Int)) (n:Nat) (v a b:Int) (ho:Qgd w o ar ls) (hP:Qay n ls) (hn:n≤8192) :
 Calls prog 24 #[.pointer (some ⟨o,0,none⟩),.int .i64 v,.int .i64 a,.int .i64 b] w fun e w'=>e=.returned (.int .i64 (lvI n ls v a b))∧Below w.heap.size w w':=by
 have HPT:=Zh (Qka o ar ls w ho (by have:=hP.l6;omega) (fun l hl=>by have:=(hP.lvl l hl).len;omega));have HLV:=Zh (fun V Q L cq (h:RdT V Q L ls)=>Qks Q L cq n ls v a b V h hP);clear ho hP
 go_enter func24,ntmps24
 go_wp2_with fail
 with_reducible refine HPT.out.mono ?_
 rintro r w1 ⟨Q,cq,rfl,hQ,hb1⟩;have hfl:∀ V,(Instr.field 87 (.agg #[.slice Q ls.length cq]) 0).run prog V=.ok (.slice Q ls.length cq) V:=fun V=>by rfl
 have HL:=Zh (HLV.out w1 Q ls.length cq (hQ.le (Qbj _ _)));clear hQ HPT
 go_wp2_with fail
 with_reducible refine HL.out.mono ?_
 rintro r w2 ⟨rfl,hb2⟩;have HB2:=Zh (Zb hb1 hb2);clear hb1 hb2
 go_wp2_with fail
 go_ret
 exact ⟨rfl,HB2.out⟩
theorem Qom {N:Qaq} {ls:List (List Int)} (hok:Qaw N) (hP:Qay N.vs.length ls) {j a b:Nat} {l:List Int} {y z:Tri} (hl:ls[j]?=some l) (hy:N.ar[a]?=some y) (hz:N.ar[b]?=some z)
 (h1:Qab l y.1≠Qab l y.2.1) (h2:Qab l z.1=Qab l y.2.1) (h3:Qab l z.2.1≠Qab l y.2.1) :
 ∃ (c p q k:Nat) (x:Qan),Qab l y.2.1=(c:Int)∧(Qaf N.ar l)[c]?=some x∧plI x.1 (a:Int)=(p:Int)∧plI x.2 (b:Int)=(q:Int)∧x.1[p]?=some (a:Int)∧x.2[q]?=some (b:Int)∧Qez N ls k j l c x p q a b:=by
 obtain ⟨u,v,_,e3,_,hv⟩:=Qfj hok hy;obtain ⟨c,hc,hcm,_⟩:=Qdj (hP.lvl l (Zm hl)) hv;rw [←e3] at hc;obtain ⟨x,hx⟩:∃ x,(Qaf N.ar l)[c]?=some x:=⟨_,Qcf hcm⟩;rw [hc] at h1 h2 h3;obtain ⟨p,hp,hp2⟩:=Qfs ((Qdb hx).2 ⟨y,hy,h1,hc⟩);obtain ⟨q,hq,hq2⟩:=Qfs ((Qbw hx).2 ⟨z,hz,h2,h3⟩);exact ⟨c,p,q,_,x,hc,hx,hp,hq,hp2,hq2,hl,hx,hp2,hq2,rfl⟩
theorem leap_ent {N:Qaq} {ls:List (List Int)} {EL:List Ent} (hE:EntP N ls EL) (hEl:EL.length=Qbv (Qae N.ar ls)) {k j c p q a b:Nat} {l:List Int} {x:Qan} (hI:Qez N ls k j l c x p q a b) :
 EL[k]?=some (j,c,p,q)∧∀ i f,i<k→EL[i]?=some f→f≠(j,c,p,q):=by
 have hk:=hI.lt.2.2.1;rw [←hEl] at hk;obtain ⟨e,he⟩:∃ e,EL[k]?=some e:=⟨_,Zg hk⟩;obtain ⟨l',x',s',t',hI'⟩:=hE _ e he;obtain ⟨g1,_,g3,_,g5,g6,_,_⟩:=hI.inj hI';obtain ⟨e1,e2,e4,e5⟩:=e;simp only at g1 g3 g5 g6;subst g1;subst g3;subst g5;subst g6;refine ⟨he,fun i f hi hf hfe=>?_⟩;subst hfe;obtain ⟨l'',x'',s'',t'',hI''⟩:=hE _ _ hf;have h5:=hI''.hl;simp only at h5;rw [hI.hl] at h5
 cases h5
 have h6:=hI''.hx;simp only at h6;rw [hI.hx] at h6
 cases h6
 have h7:=hI''.hk;have h8:=hI.hk;simp only at h7;omega
theorem Qri {N:Qaq} {ls:List (List Int)} {cl:List Int} (hA:Qdh N ls cl) {j a b c k p q:Nat} {l:List Int} {x:Qan} {y z:Tri} (hl:ls[j]?=some l) (hy:N.ar[a]?=some y) (hz:N.ar[b]?=some z)
 (h1:Qab l y.1≠Qab l y.2.1) (h2:Qab l z.1=Qab l y.2.1) (h3:Qab l z.2.1≠Qab l y.2.1) (hc:Qab l y.2.1=(c:Int)) (hI:Qez N ls k j l c x p q a b):∃ v,cl[k]?=some v∧Qnx N ls ((j:Int)+1) (a:Int) (b:Int) (Qfl v z.2.2):=by
 obtain ⟨v,hv,hE⟩:=hA.at_ hI;exact ⟨v,hv,.inr (.inl ⟨a,b,j,l,y,z,v,rfl,rfl,rfl,hl,hy,hz,h1,h2,h3,by rw [hc];exact hE,rfl⟩)⟩
theorem Qfz {N:Qaq} {ls:List (List Int)} {a b:Nat} {y z:Tri} (hy:N.ar[a]?=some y) (hz:N.ar[b]?=some z):Qnx N ls 0 (a:Int) (b:Int) (Qfl (Qba N a b) z.2.2):=.inl ⟨a,b,y,z,rfl,rfl,hy,hz,rfl,rfl⟩
theorem Qjy {N:Qaq} {ls:List (List Int)} {lv f t:Int} (h:∀ (a b:Nat),f=(a:Int)→t=(b:Int)→a<N.ar.length→b<N.ar.length→lv≠0∧¬LeapQ N ls lv a b):Qnx N ls lv f t 1152921504606846976:=.inr (.inr ⟨rfl,h⟩)
/-! law21.known's chain. -/
theorem Qgj (a:Nat)(h:a≤4):toV Qao a=(a:Int)+1:=by
 rcases (by omega:a=0∨a=1∨a=2∨a=3∨a=4) with rfl|rfl|rfl|rfl|rfl <;> rfl
theorem Qqa:frV Qao 4=4:=rfl
theorem Qjg {v:Int}{av:List Int}{x:Int}(hx:x∈av) (h:Qab [0,0,1,1,2,2] v=Qab [0,0,1,1,2,2] x):Qfi Qbd v av=0:=by
 cases h1:Qfi Qbd v av with
 | zero=>rfl
 | succ j =>
  have hj:=Qia (ls:=Qbd) (v:=v) (av:=av) 1;have h2:Qii Qbd v av 1=j+1:=h1;obtain rfl:j=0:=by omega
  obtain ⟨l,hl,h3⟩:=Qdf h1
  cases hl
  exact absurd h (h3 x hx)
theorem ch_up {v:Int}{av:List Int} (h:∀ x∈av,Qab [0,0,1,1,2,2] v≠Qab [0,0,1,1,2,2] x):Qfi Qbd v av=1:=by
 have h1:=Qhe (ls:=Qbd) (v:=v) (av:=av) (j:=0) ⟨_,rfl,h⟩;have:=Qia (ls:=Qbd) (v:=v) (av:=av) 1;unfold Qfi at h1 ⊢;exact Nat.le_antisymm this h1
theorem ch_hst {a b:Nat}{d:Int} (h:HSt Qao Qbd [1,4] a b d):(a=0∧b=1∧d=11)∨(a=1∧b=3∧d=22)∨(a=3∧b=4∧d=11):=by
 rcases h with ⟨h0,h⟩|⟨j,l,y,z,v,hj,hl,hy,hz,g1,g2,g3,g4,g5,g6,rfl⟩
 · obtain ⟨h1,rfl,rfl⟩:=Qly.1 h
   rw [Qgj a (by omega)] at h0
   rcases (by omega:a=0∨a=1∨a=2∨a=3) with rfl|rfl|rfl|rfl
   · exact .inl ⟨rfl,rfl,rfl⟩
   · rw [ch_up (v:=((1:Nat):Int)+1) (by decide)] at h0;cases h0
   · rw [ch_up (v:=((2:Nat):Int)+1) (by decide)] at h0;cases h0
   · exact .inr (.inr ⟨rfl,rfl,rfl⟩)
 · have hj1:=Qia (ls:=Qbd) (v:=toV Qao a) (av:=[1,4]) 1
   have h2:Qii Qbd (toV Qao a) [1,4] 1=j+1:=hj;obtain rfl:j=0:=by omega
   cases hl
   obtain ⟨k1,rfl⟩:=Qwp hy;obtain ⟨k2,rfl⟩:=Qwp hz;simp only at g1 g2 g3 g4 g5
   rcases (by omega:a=0∨a=1∨a=2∨a=3∨a=4) with rfl|rfl|rfl|rfl|rfl
   · exact absurd (by decide) g1
   · rcases (by omega:b=0∨b=1∨b=2∨b=3∨b=4) with rfl|rfl|rfl|rfl|rfl
     · exact absurd g2 (by decide)
     · exact absurd g2 (by decide)
     · exact absurd (by decide) g3
     · obtain rfl:=Lst.uniq g5 Qvb
       exact .inr (.inl ⟨rfl,rfl,rfl⟩)
     · exact absurd g2 (by decide)
   · exact absurd (by decide) g1
   · rw [Qgj 3 (by omega),Qjg (v:=((3:Nat):Int)+1) (x:=4) (by decide) (by decide)] at hj
     cases hj
   · exact absurd (by decide) g1
theorem ch_hop {q:Nat}{c:Int} {hs:List (Nat×Nat)} (h:HopP Qao Qbd [1,4] 0 q c hs):(q=0∧hs=[])∨(q=1∧hs=[(0,1)])∨(q=3∧hs=[(0,1),(1,3)])∨(q=4∧hs=[(0,1),(1,3),(3,4)]):=by
 induction h with
 | start=>exact .inl ⟨rfl,rfl⟩
 | step _ h2 ih =>
  rcases ch_hst h2 with ⟨rfl,rfl,rfl⟩|⟨rfl,rfl,rfl⟩|⟨rfl,rfl,rfl⟩
  · rcases ih with ⟨_,rfl⟩|⟨h,_⟩|⟨h,_⟩|⟨h,_⟩
    · exact .inr (.inl ⟨rfl,rfl⟩)
    · cases h
    · cases h
    · cases h
  · rcases ih with ⟨h,_⟩|⟨_,rfl⟩|⟨h,_⟩|⟨h,_⟩
    · cases h
    · exact .inr (.inr (.inl ⟨rfl,rfl⟩))
    · cases h
    · cases h
  · rcases ih with ⟨h,_⟩|⟨h,_⟩|⟨_,rfl⟩|⟨h,_⟩
    · cases h
    · cases h
    · exact .inr (.inr (.inr ⟨rfl,rfl⟩))
    · cases h
theorem ch_av:[toV Qao 0,frV Qao 4]=[1,4]:=rfl
theorem ch_run {v:Int} {hs:List (Nat×Nat)} (h:RunP Qao Qbd [toV Qao 0,frV Qao 4] 0 4 v hs):v=44∧hs.map (Qsl Qao Qbd [toV Qao 0,frV Qao 4])=[(0,0,1),(1,1,3),(0,3,4)]:=by
 have hv:v=44:=by
  rcases h with ⟨h1,_⟩|⟨_,h2,_⟩
  · exact absurd h1 (by decide)
  · exact (Qlc Qcx Qch (Qjv.ex Qcx Qch) ⟨_,rfl⟩ (by simp) (by simp) h2).uniq Qvq
 subst hv;refine ⟨rfl,?_⟩
 rcases h with ⟨_,h2,_⟩|⟨_,_,⟨h3,_⟩|h3⟩
 · exact absurd h2 (by decide)
 · exact absurd h3 (by decide)
 · rw [ch_av] at h3 ⊢
   rcases ch_hop h3 with ⟨h,_⟩|⟨h,_⟩|⟨h,_⟩|⟨_,rfl⟩
   · cases h
   · cases h
   · cases h
   · simp only [List.map_cons,List.map_nil,Qsl]
     rw [Qgj 0 (by omega),Qgj 1 (by omega),Qgj 3 (by omega),Qjg (v:=((0:Nat):Int)+1) (x:=1) (by decide) (by decide),ch_up (v:=((1:Nat):Int)+1) (by decide),Qjg (v:=((3:Nat):Int)+1) (x:=4) (by decide) (by decide)]
theorem ch_run0 {v:Int}(h:Qkn Qao 4 0 v):v=1152921504606846976:=h.uniq (.inr ⟨by decide,ch_none⟩)
theorem Qww {a:Nat}(h:a≤3){v:Int} (hv:Qnx Qao Qbd 0 (a:Int) ((a:Int)+1) v):v=11:=by
 have h1:Qnx Qao Qbd 0 (a:Int) (((a+1:Nat)):Int) 11:=by
  rcases (by omega:a=0∨a=1∨a=2∨a=3) with rfl|rfl|rfl|rfl
  · exact Qfz (a:=0) (b:=1) (y:=(0,1,10)) (z:=(1,2,10)) rfl rfl
  · exact Qfz (a:=1) (b:=2) (y:=(1,2,10)) (z:=(2,3,10)) rfl rfl
  · exact Qfz (a:=2) (b:=3) (y:=(2,3,10)) (z:=(3,4,10)) rfl rfl
  · exact Qfz (a:=3) (b:=4) (y:=(3,4,10)) (z:=(4,5,10)) rfl rfl
 exact hv.uniq h1
theorem Quq {v:Int}(hv:Qnx Qao Qbd 1 1 3 v):v=22 :=
 hv.uniq (.inr (.inl ⟨1,3,0,[0,0,1,1,2,2],(1,2,10),(3,4,10),12,rfl,rfl,rfl,rfl,rfl,rfl,by decide,by decide,by decide,Qvb,by decide⟩))
theorem ch_prc2 {v:Int}(hv:Qnx Qao Qbd 1 1 2 v):v=1152921504606846976:=by
 refine hv.uniq (Qjy (fun a b ha hb _ _=>⟨by decide,?_⟩));obtain rfl:a=1:=by omega
 obtain rfl:b=2:=by omega
 rintro ⟨j,l,y,z,hj,hl,hy,hz,_,_,g3⟩;obtain rfl:j=0:=by omega
 cases hl
 cases hy
 cases hz
 exact absurd (by decide) g3
def Qdv (N:Qaq) (ls:List (List Int)) (lv a:Int):Option (Int×Int) :=
 if 1≤lv∧lv≤(ls.length:Int)∧0≤a∧a<(N.ar.length:Int) then
  (if Qab (ls.getD (lv-1).toNat []) (N.ar.getD a.toNat (0,0,0)).1=Qab (ls.getD (lv-1).toNat []) (N.ar.getD a.toNat (0,0,0)).2.1 then none
   else some (Qab (ls.getD (lv-1).toNat []) (N.ar.getD a.toNat (0,0,0)).1,Qab (ls.getD (lv-1).toNat []) (N.ar.getD a.toNat (0,0,0)).2.1)) else none
def enF (N:Qaq) (ls:List (List Int)) (lv a:Int):Int:=match Qdv N ls lv a with|none=>-1|some p=>p.2
def leF (N:Qaq) (ls:List (List Int)) (lv a:Int):Int:=match Qdv N ls lv a with|none=>-1|some p=>p.1
section
variable {N:Qaq} {ls:List (List Int)}
theorem Qdt {j a:Nat}{l:List Int}{y:Tri} (hl:ls[j]?=some l) (hy:N.ar[a]?=some y):Qdv N ls ((j:Int)+1) (a:Int)=if Qab l y.1=Qab l y.2.1 then none else some (Qab l y.1,Qab l y.2.1):=by
 have h1:=(Zs hl).1;have h2:=(Zs hy).1;unfold Qdv;rw [if_pos ⟨by omega,by omega,by omega,by omega⟩];have e1:ls.getD ((j:Int)+1-1).toNat []=l:=by rw [show ((j:Int)+1-1).toNat=j by omega,List.getD_eq_getElem?_getD,hl];rfl
 have e2:N.ar.getD ((a:Int)).toNat (0,0,0)=y:=by rw [Int.toNat_natCast,List.getD_eq_getElem?_getD,hy];rfl
 rw [e1,e2]
theorem Qfu {lv a:Int} (h:¬(1≤lv∧lv≤(ls.length:Int)∧0≤a∧a<(N.ar.length:Int))):Qdv N ls lv a=none:=by
 unfold Qdv;rw [if_neg h]
theorem Qfg {lv a:Int}{p:Int×Int}(h:Qdv N ls lv a=some p):∃ (j b:Nat) (l:List Int) (y:Tri),lv=(j:Int)+1∧a=(b:Int)∧ls[j]?=some l∧N.ar[b]?=some y∧Qab l y.1≠Qab l y.2.1∧p=(Qab l y.1,Qab l y.2.1):=by
 by_cases h1:1≤lv∧lv≤(ls.length:Int)∧0≤a∧a<(N.ar.length:Int)
 · obtain ⟨j,rfl⟩:∃ j:Nat,lv=(j:Int)+1:=⟨(lv-1).toNat,by omega⟩
   obtain ⟨b,rfl⟩:∃ b:Nat,a=(b:Int):=⟨a.toNat,by omega⟩;obtain ⟨l,hl⟩:∃ l,ls[j]?=some l:=⟨_,Zg (by omega)⟩;obtain ⟨y,hy⟩:∃ y,N.ar[b]?=some y:=⟨_,Zg (by omega)⟩;rw [Qdt hl hy] at h
   split at h
   · cases h
   · rename_i hne
     exact ⟨j,b,l,y,rfl,rfl,hl,hy,hne,(Option.some.inj h).symm⟩
 · rw [Qfu h1] at h
   cases h
theorem Qwa {lv f t:Int}(h0:0≤enF N ls lv f)(h1:leF N ls lv t=enF N ls lv f):∃ (a b j:Nat) (l:List Int) (y z:Tri),f=(a:Int)∧t=(b:Int)∧lv=(j:Int)+1∧ls[j]?=some l∧N.ar[a]?=some y∧N.ar[b]?=some z∧Qab l y.1≠Qab l y.2.1∧Qab l z.1=Qab l y.2.1∧Qab l z.2.1≠Qab l y.2.1∧enF N ls lv f=Qab l y.2.1:=by
 cases hc:Qdv N ls lv f with
 | none=>unfold enF at h0;rw [hc] at h0;simp at h0
 | some p =>
  obtain ⟨j,a,l,y,rfl,rfl,hl,hy,hne,rfl⟩:=Qfg hc;have e1:enF N ls ((j:Int)+1) (a:Int)=Qab l y.2.1:=by unfold enF;rw [hc]
  cases hd:Qdv N ls ((j:Int)+1) t with
  | none=>rw [e1] at h1 h0;unfold leF at h1;rw [hd] at h1;simp only at h1;omega
  | some q =>
   obtain ⟨j',b,l',z,e2,rfl,hl',hz,hne',rfl⟩:=Qfg hd;obtain rfl:j=j':=by omega
   rw [hl] at hl'
   cases hl'
   have e3:leF N ls ((j:Int)+1) (b:Int)=Qab l z.1:=by unfold leF;rw [hd]
   rw [e1,e3] at h1;exact ⟨a,b,j,l,y,z,rfl,rfl,rfl,hl,hy,hz,hne,h1,fun e=>hne' (by rw [h1,e]),e1⟩
theorem Quu {lv f t:Int}(hok:Qaw N)(hP:Qay N.vs.length ls)(h:enF N ls lv f<0∨leF N ls lv t≠enF N ls lv f)(a b:Nat) (hf:f=(a:Int)) (ht:t=(b:Int)):¬LeapQ N ls lv a b:=by
 rintro ⟨j,l,y,z,rfl,hl,hy,hz,h1,h2,h3⟩;subst hf;subst ht;have e1:enF N ls ((j:Int)+1) (a:Int)=Qab l y.2.1:=by unfold enF;rw [Qdt hl hy,if_neg h1]
 have e2:leF N ls ((j:Int)+1) (b:Int)=Qab l z.1:=by unfold leF;rw [Qdt hl hz,if_neg (fun e=>h3 (by rw [←e,h2]))]
 rw [e1,e2] at h;obtain ⟨u,v,_,e3,_,hv⟩:=Qfj hok hy;obtain ⟨c,hc,_⟩:=Qdj (hP.lvl l (Zm hl)) hv;rw [←e3] at hc
 rcases h with h|h
 · omega
 · exact h h2
end
theorem gFrom_no (g:Nat)(N:Qaq)(a:Int)(w:World)(h:Qeo w g N) (ha:¬(0≤a∧a<(N.ar.length:Int))):Calls prog 170 #[.pointer (some ⟨g,0,none⟩),.int .i64 a] w fun e w'=>e=.returned (.int .i64 (-1))∧w=w':=by
 have HA:=Zh (Qke g N a w h ha);clear h ha
 go_enter func170,ntmps170
 go_wp2_with fail
 with_reducible refine HA.out.mono ?_
 rintro e w' ⟨rfl,rfl⟩
 go_wp2
 go_ret
 exact ⟨rfl,rfl⟩
theorem gTo_no (g:Nat)(N:Qaq)(a:Int)(w:World)(h:Qeo w g N) (ha:¬(0≤a∧a<(N.ar.length:Int))):Calls prog 147 #[.pointer (some ⟨g,0,none⟩),.int .i64 a] w fun e w'=>e=.returned (.int .i64 (-1))∧w=w':=by
 have HA:=Zh (Qke g N a w h ha);clear h ha
 go_enter func147,ntmps147
 go_wp2_with fail
 with_reducible refine HA.out.mono ?_
 rintro e w' ⟨rfl,rfl⟩
 go_wp2
 go_ret
 exact ⟨rfl,rfl⟩
theorem Qsv (g:Nat)(N:Qaq)(a:Int)(w:World)(h:Qeo w g N) (ha:¬(0≤a∧a<(N.ar.length:Int))):Calls prog 72 #[.pointer (some ⟨g,0,none⟩),.int .i64 a] w fun e w'=>e=.returned (.int .i64 1152921504606846976)∧w=w':=by
 have HA:=Zh (Qke g N a w h ha);clear h ha
 go_enter func72,ntmps72
 go_wp2_with fail
 with_reducible refine HA.out.mono ?_
 rintro e w' ⟨rfl,rfl⟩
 go_wp2
 go_ret
 exact ⟨rfl,rfl⟩
theorem Qrj (g:Nat)(N:Qaq)(a b:Int)(w:World)(h:Qeo w g N) (ha:¬(0≤a∧a<(N.ar.length:Int))∨¬(0≤b∧b<(N.ar.length:Int))):Calls prog 71 #[.pointer (some ⟨g,0,none⟩),.int .i64 a,.int .i64 b] w fun e w'=>e=.returned (.int .i64 1152921504606846976)∧Below w.heap.size w w':=by
 by_cases h1:0≤a∧a<(N.ar.length:Int)
 · have HA:=Zh (Qhq g N a w.drew (h.below (Zr _ _).drew) h1.1 h1.2)
   have HB:=Zh (Qke g N b w.drew (h.below (Zr _ _).drew) (ha.resolve_left (fun h=>h h1)));clear h ha h1
   go_enter func71,ntmps71
   go_wp2_with fail
   refine wp_region_held_drew (S:=fun V=>V=w.drew) (by kernel_rfl) rfl (fun _=>?_);refine tz 0 8 ?_;refine tz 1 9 ?_;refine Zk 2 (fun K hK=>?_);go_simp;with_reducible refine HA.out.mono ?_
   rintro e w' ⟨rfl,rfl⟩;go_simp;refine hK.out _ _ rfl (fun _=>?_);clear hK K;refine tz 3 11 ?_;refine tz 4 12 ?_;refine tz 5 13 ?_;refine tz 6 14 ?_;refine Zk 7 (fun K hK=>?_);go_simp;with_reducible refine HB.out.mono ?_
   rintro e w' ⟨rfl,rfl⟩;go_simp;refine hK.out _ _ rfl (fun _=>?_);clear hK K;refine tz 8 16 ?_;refine tz 9 17 ?_;refine tz 10 18 ?_;refine tw 11 19 ?_;refine tw 12 20 ?_;refine tw 13 21 ?_;refine tw 14 22 ?_;refine tw 15 23 ?_;refine tw 16 24 ?_;refine tw 17 25 ?_;refine tw 18 26 ?_;refine tw 19 27 ?_;refine tw 20 28 ?_;refine tw 21 29 ?_;refine tw 22 30 ?_;refine tw 23 31 ?_;refine tw 24 32 ?_;refine tw 25 33 ?_;refine tw 26 34 ?_;refine tw 27 35 ?_;refine tw 28 36 ?_;refine tw 29 37 ?_;refine tz 30 38 ?_;refine Zd ?_
   go_wp2_with fail
   go_ret
   exact ⟨rfl,Qah⟩
 · have HA:=Zh (Qke g N a w.drew (h.below (Zr _ _).drew) h1)
   clear h ha h1
   go_enter func71,ntmps71
   go_wp2_with fail
   refine wp_region_held_drew (S:=fun V=>V=w.drew) (by kernel_rfl) rfl (fun _=>?_);refine tz 0 8 ?_;refine tz 1 9 ?_;refine Zk 2 (fun K hK=>?_);go_simp;with_reducible refine HA.out.mono ?_
   rintro e w' ⟨rfl,rfl⟩;go_simp;refine hK.out _ _ rfl (fun _=>?_);clear hK K;refine tz 3 11 ?_;refine tz 4 12 ?_;refine tw 5 13 ?_;refine tw 6 14 ?_;refine tw 7 15 ?_;refine tw 8 16 ?_;refine tz 9 17 ?_;refine tz 10 18 ?_;refine tw 11 19 ?_;refine tw 12 20 ?_;refine tw 13 21 ?_;refine tw 14 22 ?_;refine tw 15 23 ?_;refine tw 16 24 ?_;refine tw 17 25 ?_;refine tw 18 26 ?_;refine tw 19 27 ?_;refine tw 20 28 ?_;refine tw 21 29 ?_;refine tw 22 30 ?_;refine tw 23 31 ?_;refine tw 24 32 ?_;refine tw 25 33 ?_;refine tw 26 34 ?_;refine tw 27 35 ?_;refine tw 28 36 ?_;refine tw 29 37 ?_;refine tz 30 38 ?_;refine Zd ?_
   go_wp2_with fail
   go_ret
   exact ⟨rfl,Qah⟩
def Qpc (N:Qaq) (ls:List (List Int)) (lv a:Int):Ending:=.returned (.tuple #[.int .i64 (leF N ls lv a),.int .i64 (enF N ls lv a)])
set_option maxHeartbeats 2000000 in
theorem Qoa (w:World)(g:Nat)(N:Qaq) (ls:List (List Int)) (Q:Option Addr) (L cq:Nat) (lv a:Int) (hg:Qeo w g N) (hq:RdT w Q L ls) (hok:Qaw N) (hP:Qay N.vs.length ls) :
 Calls prog 136 #[.pointer (some ⟨g,0,none⟩),.agg #[.slice Q L cq],.int .i64 lv,.int .i64 a] w fun e w'=>e=Qpc N ls lv a∧Below w.heap.size w w':=by
 have hL:=hq.1;have HNO:=Zh (fun (h:¬(1≤lv∧lv≤(ls.length:Int)∧0≤a∧a<(N.ar.length:Int)))=>(show (Ending.returned (.tuple #[.int .i64 (-1),.int .i64 (-1)]):Ending)=Qpc N ls lv a by unfold Qpc leF enF;rw [Qfu h]))
 by_cases i1:lv<1
 · have HE:=Zh (HNO.out (by omega))
   clear hg hq hok hP hL HNO
   go_enter func136,ntmps136
   go_wp2_with fail
   refine bodyPost_ret (v:=.tuple #[.int .i64 (-1),.int .i64 (-1)]) (by simp [results,results136,go_sem]) rfl ?_;exact ⟨HE.out,Qah⟩
 by_cases i2:(L:Int)<lv
 · have HE:=Zh (HNO.out (by omega))
   clear hg hq hok hP hL HNO
   go_enter func136,ntmps136
   go_wp2_with fail
   refine bodyPost_ret (v:=.tuple #[.int .i64 (-1),.int .i64 (-1)]) (by simp [results,results136,go_sem]) rfl ?_;exact ⟨HE.out,Qah⟩
 obtain ⟨j,rfl⟩:∃ j:Nat,lv=(j:Int)+1:=⟨(lv-1).toNat,by omega⟩;obtain ⟨qb,qo,A',n',c',l,rfl,hl,q1,q2,q3,q4⟩:=hq.at_ (i:=j) (by omega);have hln:=(hP.lvl l (Zm hl)).len;have hn':n'=N.vs.length:=by rw [←q2.1];exact hln
 have hL6:=hP.l6;have i3:(j:Int)+1-1=(j:Int):=by omega
 have i4:(0:Int)≤(j:Int):=by omega
 have i5:(j:Int)<(L:Int):=by omega
 have wj:IntKind.i64.wrap (j:Int)=(j:Int):=IntWalk.i64_in _ (by omega);have hb1:Below w.heap.size w (w.alloc (.cells #[.slice (some ⟨qb,qo,none⟩) L cq] 87)):=Qah
 by_cases ha:0≤a∧a<(N.ar.length:Int)
 · obtain ⟨b,rfl⟩:∃ b:Nat,a=(b:Int):=⟨a.toNat,by omega⟩
   obtain ⟨y,hy⟩:∃ y,N.ar[b]?=some y:=⟨_,Zg (by omega)⟩;obtain ⟨u,v,e1,e2,hu,hv⟩:=Qfj hok hy;have HF:=Zh (Qgr g b N y _ (hg.below hb1) hy);have HT:=Zh (Qhi g b N y _ (hg.below hb1) hy);rw [e1] at HF;rw [e2] at HT;obtain ⟨rb,ro,zu,rfl,hzu,cu⟩:=q2.at_ (i:=u) (by omega);obtain ⟨_,_,zv,er,hzv,cv⟩:=q2.at_ (i:=v) (by omega)
   cases er
   have HE:=Zh (show Qpc N ls ((j:Int)+1) (b:Int)=if zu=zv then .returned (.tuple #[.int .i64 (-1),.int .i64 (-1)]) else .returned (.tuple #[.int .i64 zu,.int .i64 zv]) from by
    unfold Qpc leF enF;rw [Qdt hl hy,e1,e2,Qar hzu,Qar hzv]
    by_cases e:zu=zv
    · rw [if_pos e,if_pos e]
    · rw [if_neg e,if_neg e])
   have k1:=Zc hb1 (Zn _) q1;have k2:=Zc hb1 (Zn _) cu;have k3:=Zc hb1 (Zn _) cv;have p0:decide ((u:Int)<0)=false:=by simp
   have p1:decide ((v:Int)<0)=false:=by simp
   have p2:decide (n'≤u)=false:=by simp;omega
   have p3:decide (n'≤v)=false:=by simp;omega
   have p4:(0:Int)≤(u:Int):=by omega
   have p5:(0:Int)≤(v:Int):=by omega
   have p6:(u:Int)<(n':Int):=by omega
   have p7:(v:Int)<(n':Int):=by omega
   have HSX:=Zh (show ∀ V,V=(w.alloc (.cells #[.slice (some ⟨qb,qo,none⟩) L cq] 87)).drew→V.cell? ⟨rb,ro+u,none⟩=some (.int .i64 zu)∧V.cell? ⟨rb,ro+v,none⟩=some (.int .i64 zv) from fun V e=>by subst e;exact ⟨k2,k3⟩)
   clear hg hq hok hP hl hy hu hv hzu hzv e1 e2 q1 q2 cu cv hb1 ha hln hn' HNO
   go_enter func136,ntmps136
   go_wp2_with fail
   with_reducible refine HF.out.mono ?_
   rintro e w' ⟨rfl,rfl⟩
   go_wp2_with fail
   with_reducible refine HT.out.mono ?_
   rintro e w' ⟨rfl,rfl⟩
   go_wp2_with fail
   refine wp_region_held_drew (S:=fun V=>V=(w.alloc (.cells #[.slice (some ⟨qb,qo,none⟩) L cq] 87)).drew) (by kernel_rfl) rfl (fun _=>?_)
   by_cases e:zu=zv
   · have HE:=Zh ((HE.out.trans (if_pos e)).symm)
     have e4:(zu == zv)=true:=by simp [e]
     refine tz 0 34 ?_;refine tz 1 35 ?_;refine tz 2 36 ?_;refine tz 3 37 ?_;refine tz 4 38 ?_;refine tz 5 39 ?_;refine tz 6 40 ?_;refine tz 7 41 ?_;refine tz 8 42 ?_;refine tz 9 43 ?_;refine tz 10 44 ?_;refine tz 11 45 ?_;refine tz 12 46 ?_;refine tz 13 47 ?_;refine tz 14 48 ?_;refine tz 15 49 ?_;refine tz 16 50 ?_;refine tz 17 51 ?_;refine tz 18 52 ?_;refine tz 19 53 ?_;refine tz 20 54 ?_;refine tz 21 55 ?_;refine tz 22 56 ?_;refine tz 23 57 ?_;refine tz 24 58 ?_;refine tz 25 59 ?_;refine tz 26 60 ?_;refine tz 27 61 ?_;refine tz 28 62 ?_;refine Zd ?_
     go_wp2_with fail
     refine bodyPost_ret (v:=.tuple #[.int .i64 (-1),.int .i64 (-1)]) (by simp [results,results136,go_sem]) rfl ?_;exact ⟨HE.out,Qah⟩
   · have HE:=Zh ((HE.out.trans (if_neg e)).symm)
     have e4:(zu == zv)=false:=by simp [e]
     refine tz 0 34 ?_;refine tz 1 35 ?_;refine tz 2 36 ?_;refine tz 3 37 ?_;refine tz 4 38 ?_;refine tz 5 39 ?_;refine tz 6 40 ?_;refine tz 7 41 ?_;refine tz 8 42 ?_;refine tz 9 43 ?_;refine tz 10 44 ?_;refine tz 11 45 ?_;refine tz 12 46 ?_;refine tz 13 47 ?_;refine tz 14 48 ?_;refine tz 15 49 ?_;refine tz 16 50 ?_;refine tz 17 51 ?_;refine tz 18 52 ?_;refine tz 19 53 ?_;refine tz 20 54 ?_;refine tz 21 55 ?_;refine tz 22 56 ?_;refine tz 23 57 ?_;refine tz 24 58 ?_;refine tz 25 59 ?_;refine tz 26 60 ?_;refine tz 27 61 ?_;refine tz 28 62 ?_;refine Zd ?_;clear HSX;have HSX:=Zh (show ∀ V,V=(w.alloc (.cells #[.slice (some ⟨qb,qo,none⟩) L cq] 87)).drew.drew→V.cell? ⟨rb,ro+u,none⟩=some (.int .i64 zu)∧V.cell? ⟨rb,ro+v,none⟩=some (.int .i64 zv) from fun V e=>by subst e;exact ⟨k2,k3⟩)
     go_wp2_with fail
     refine wp_region_held_drew (S:=fun V=>V=(w.alloc (.cells #[.slice (some ⟨qb,qo,none⟩) L cq] 87)).drew.drew) (by kernel_rfl) rfl (fun _=>?_);refine tz 0 63 ?_;refine tz 1 64 ?_;refine tz 2 65 ?_;refine tz 3 66 ?_;refine tz 4 67 ?_;refine tz 5 68 ?_;refine tz 6 69 ?_;refine tz 7 70 ?_;refine tz 8 8 ?_;refine tz 9 9 ?_;refine Zd ?_
     go_wp2_with fail
     refine bodyPost_ret (v:=.tuple #[.int .i64 zu,.int .i64 zv]) (by simp [results,results136,go_sem]) rfl ?_;exact ⟨HE.out,Qah⟩
 · have HF:=Zh (gFrom_no g N a _ (hg.below hb1) ha)
   have HT:=Zh (gTo_no g N a _ (hg.below hb1) ha);have HE:=Zh (HNO.out (by omega));have k1:=Zc hb1 (Zn _) q1;clear hg hq hok hP hl q1 q2 hb1 ha hln hn' HNO
   go_enter func136,ntmps136
   go_wp2_with fail
   with_reducible refine HF.out.mono ?_
   rintro e w' ⟨rfl,rfl⟩
   go_wp2_with fail
   with_reducible refine HT.out.mono ?_
   rintro e w' ⟨rfl,rfl⟩
   go_wp2_with fail
   refine wp_region_held_drew (S:=fun V=>V=(w.alloc (.cells #[.slice (some ⟨qb,qo,none⟩) L cq] 87)).drew) (by kernel_rfl) rfl (fun _=>?_);refine tz 0 34 ?_;refine tz 1 35 ?_;refine tz 2 36 ?_;refine tw 3 37 ?_;refine tw 4 38 ?_;refine tz 5 39 ?_;refine tz 6 40 ?_;refine tw 7 41 ?_;refine tw 8 42 ?_;refine tw 9 43 ?_;refine tw 10 44 ?_;refine tz 11 45 ?_;refine tz 12 46 ?_;refine tw 13 47 ?_;refine tw 14 48 ?_;refine tw 15 49 ?_;refine tw 16 50 ?_;refine tz 17 51 ?_;refine tz 18 52 ?_;refine tw 19 53 ?_;refine tw 20 54 ?_;refine tw 21 55 ?_;refine tw 22 56 ?_;refine tw 23 57 ?_;refine tw 24 58 ?_;refine tw 25 59 ?_;refine tw 26 60 ?_;refine tw 27 61 ?_;refine tz 28 62 ?_;refine Zd ?_
   go_wp2_with fail
   refine bodyPost_ret (v:=.tuple #[.int .i64 (-1),.int .i64 (-1)]) (by simp [results,results136,go_sem]) rfl ?_;exact ⟨HE.out,Qah⟩
theorem Qqz (w:World)(g:Nat)(N:Qaq) (ls:List (List Int)) (Q:Option Addr) (L cq:Nat) (lv a:Int) (hg:Qeo w g N) (hq:RdT w Q L ls) (hok:Qaw N) (hP:Qay N.vs.length ls) :
 Calls prog 74 #[.pointer (some ⟨g,0,none⟩),.agg #[.slice Q L cq],.int .i64 lv,.int .i64 a] w fun e w'=>e=.returned (.int .i64 (enF N ls lv a))∧Below w.heap.size w w':=by
 have hb1:Below w.heap.size w (w.alloc (.cells #[.slice Q L cq] 87)):=Qah;have HE:=Zh (Qoa _ g N ls Q L cq lv a (hg.below hb1) (hq.below hb1) hok hP);clear hg hq hok hP
 go_enter func74,ntmps74
 go_wp2_with fail
 with_reducible refine HE.out.mono ?_
 unfold Qpc;rintro e w' ⟨rfl,hb⟩;have HB:=Zh (Zb hb1 hb);clear hb hb1
 go_wp2_with fail
 go_ret
 exact ⟨rfl,HB.out⟩
theorem Qqc (w:World)(g:Nat)(N:Qaq) (ls:List (List Int)) (Q:Option Addr) (L cq:Nat) (lv a:Int) (hg:Qeo w g N) (hq:RdT w Q L ls) (hok:Qaw N) (hP:Qay N.vs.length ls) :
 Calls prog 75 #[.pointer (some ⟨g,0,none⟩),.agg #[.slice Q L cq],.int .i64 lv,.int .i64 a] w fun e w'=>e=.returned (.int .i64 (leF N ls lv a))∧Below w.heap.size w w':=by
 have hb1:Below w.heap.size w (w.alloc (.cells #[.slice Q L cq] 87)):=Qah;have HE:=Zh (Qoa _ g N ls Q L cq lv a (hg.below hb1) (hq.below hb1) hok hP);clear hg hq hok hP
 go_enter func75,ntmps75
 go_wp2_with fail
 with_reducible refine HE.out.mono ?_
 unfold Qpc;rintro e w' ⟨rfl,hb⟩;have HB:=Zh (Zb hb1 hb);clear hb hb1
 go_wp2_with fail
 go_ret
 exact ⟨rfl,HB.out⟩
end Go.Proofs.YteaoiabikjnkeaaGreatDoor
