/- Parts of the proof: MnW, MnT, LsP, RfT, RoI, AsC, AsN, AsO. -/
import Derived.Test.YteaoiabikjnkeaaGreatDoorR1
import Derived.Test.YteaoiabikjnkeaaGreatDoorR5
import Derived.Test.YteaoiabikjnkeaaGreatDoorR7
import Derived.Test.YteaoiabikjnkeaaGreatDoorR10
import Derived.Test.YteaoiabikjnkeaaGreatDoorR16
import Derived.Test.YteaoiabikjnkeaaGreatDoorR21
import Derived.Test.YteaoiabikjnkeaaGreatDoorR24
import Derived.Test.YteaoiabikjnkeaaGreatDoorR25
namespace Go.Proofs.YteaoiabikjnkeaaGreatDoor
open Go.RowKit Go.Maps Go.Proofs.Tryz
attribute [local go_sem ↓] Go.wp_at_zero Go.wp_at_succ
def PlnG (W:World)(pb:Nat) (ls:List (List Int)) (av:List Int) (A B:Nat):Prop:=∀ i l,ls[i]?=some l→∃ b n f,PlnL W pb l av i b n f∧A≤b∧b<B
def avM (N:Qap)(s:Nat)(tl:List Int)(i:Nat):List Int:=toV N s::(tl.take i).map (fun t=>frV N t.toNat)
theorem avM_succ {N:Qap}{s i:Nat}{tl:List Int}{t:Int} (h:tl[i]?=some t):avM N s tl (i+1)=avM N s tl i ++[frV N t.toNat]:=by
 unfold avM;rw [List.take_add_one,h,List.map_append]
 rfl
theorem Qmv {B g:Nat}{a w w':World}(h:Below B a w) (hg:w.grownBy w' (some g)) (hB:B≤g) (hz:B≤w.heap.size):Below B a w' :=
 h.trans ⟨hg.os,hg.tape,hg.output,hg.size,fun k hk=>hg.block k (by omega) (fun e=>by injection e with e;omega)⟩
set_option maxRecDepth 20000 in
set_option maxHeartbeats 4000000 in
theorem Qwv (w:World)(qb g o:Nat)(N:Qap) (ls:List (List Int)) (TA:Option Addr) (nt ct:Nat) (tl:List Int) (CA:Option Addr) (NC cC:Nat) (cl:List Int) (Q:Option Addr) (L cq mb s:Nat) (xs:Tri) (h:MR w qb g o N ls TA nt ct tl CA NC cC cl Q L cq mb) (hok:Qaz N) (hP:Qbn N.vs.length ls) (hxs:N.ar[s]?=some xs) (hts:∀ (i:Nat) (t:Int),tl[i]?=some t→∃ (a:Nat) (y:Tri),t=(a:Int)∧N.ar[a]?=some y) (hnt:nt≤1000000) :
 Calls prog 144 #[.pointer (some ⟨qb,0,none⟩),.int .i64 s] w fun e w'=>(∃ pb,e=.returned (.slice (some ⟨pb,0,none⟩) L L)∧PlnG w' pb ls (avM N s tl nt) (w.heap.size+1) w'.heap.size∧pb=w.heap.size∧w.heap.size<w'.heap.size)∧Below w.heap.size w w':=by
 have HQ:=Zh (fun V (hV:Below w.heap.size w V)=>h.below hV);have HP:=Zh hP;have HOK:=Zh hok;have hL6:L≤6:=by rw [←h.part.1];exact hP.l6
 have HLL:=Zh h.part.1;have HTO:=Zh (fun V (hV:Below w.heap.size w V)=>Qim g s N xs V ((h.below hV).gr) hxs);have HFR:=Zh (fun (a:Nat) (y:Tri) (hy:N.ar[a]?=some y) V (hV:Below w.heap.size w V)=>Qje g a N y V ((h.below hV).gr) hy);have HTS:=Zh hts;obtain ⟨u0,vs,es1,es2,hus,hvs⟩:=Qhj hok hxs;rw [es2] at HTO;have HSV:=Zh (show toV N s=(vs:Int) by rw [(Qbs hxs).1,es2])
 have hnv:=hok.lv;have q5:=h.q5;have ql:=Qaj q5;simp only at ql;have hmk:=Qud L (by omega);have hmm:=@run_makeMap prog;clear h hok hP hxs hts es1 hus
 go_enter func144,ntmps144
 go_wp2_with fail
 (refine Qak ?_;intro w1 hw1)
 have HB1:=Zh (show Below w.heap.size w w1 by rw [hw1];exact Qah)
 have HP1:=Zh (show Blk w1 w.heap.size 264 (Qeq (List.replicate L none)) by
  rw [hw1];have e:Qbo (.map none) L=Qeq (List.replicate L none):=by simp [Qbo,Qeq]
  rw [←e];exact Blk.new _ _ _)
 have HZ1:=Zh (show w1.heap.size=w.heap.size+1 by rw [hw1,World.size_alloc])
 clear hw1 q5 ql hmk
 go_loopw [23] (fun q W=>∃ (j:Nat) (ml:List (Option Nat)),j≤L∧q=.int .i64 j∧Below w.heap.size w W∧Blk W w.heap.size 264 (Qeq ml)∧ml.length=L∧Qnw W ml ls (avM N s tl nt) j (w.heap.size+1) W.heap.size∧w.heap.size+1≤W.heap.size) (fun q _=>L-(intOf q).toNat)
 case atStart=>exact ⟨0,_,Nat.zero_le _,rfl,HB1.out,HP1.out,List.length_replicate ..,fun i l hi=>by omega,by rw [HZ1.out];exact Zn _⟩
 case round =>
  obtain ⟨j,ml,hj,rfl,hb,hpb,hml,hlv,hsz⟩:=hrel;have HB:=Zh hb;have HLV:=Zh hlv;have HPB:=Zh hpb;have HML:=Zh hml
  by_cases hlt:j<L
  rotate_left
  · obtain rfl:j=L:=by omega
    have i1:¬(j:Int)<(j:Int):=by omega
    clear hb hpb hml hlv
    go_wp2_with fail
    go_ret
    refine ⟨⟨w.heap.size,rfl,fun i l hl=>?_,rfl,hsz⟩,HB.out⟩;obtain ⟨b,n,f,h1,h2,h3⟩:=HLV.out i l (by have:=(Zs hl).1;rw [HLL.out] at this;exact this) hl;exact ⟨b,n,f,⟨by rw [HPB.out.cell];exact Qgd h1.c,h1.m,h1.iff⟩,h2,h3⟩
  have hq:=HQ.out wr hb;obtain ⟨qb2,qo,A1,n1,c1,l,rfl,hl,k00,k1,_,_⟩:=(HQ.out w (Zr _ _)).part.at_ (i:=j) hlt;have k0:=Zc hb (Zn _) k00;have hlo:=HP.out.lvl l (Zm hl);obtain rfl:n1=N.vs.length:=by rw [←k1.1];exact hlo.len
  have HLO:=Zh hlo;have HL:=Zh hl;have HR:=Zh k1;have i1:(j:Int)<(L:Int):=by omega
  have i2:(0:Int)≤(j:Int):=by omega
  obtain ⟨mo,hmo⟩:∃ mo,ml[j]?=some mo:=⟨_,Zg (by omega)⟩;have p0:wr.cell? ⟨w.heap.size,j,none⟩=some (.map mo):=by rw [hpb.cell];exact Qgd hmo
  have fp0:=hpb.frozen j;have pl:=hpb.lt;have q0:=hq.q0;have ql:=Qaj q0;simp only at ql;have qn:=Qaj (HQ.out w (Zr _ _)).q0;simp only at qn;have qn2:¬w.heap.size=qb:=by omega
  obtain ⟨mj,hmj⟩:∃ mj,mj=wr.heap.size:=⟨_,rfl⟩;obtain ⟨w2,hw2⟩:∃ V,V=(wr.setCell ⟨w.heap.size,j,none⟩ (.map (some mj))).alloc (.map #[] 0):=⟨_,rfl⟩;have hz0:(wr.setCell ⟨w.heap.size,j,none⟩ (.map (some mj))).heap.size=mj:=by rw [hmj];simp [World.setCell]
  have hpm:w.heap.size≠mj:=by omega
  have HM2:=Zh (show MpI w2 mj 0 (fun _=>none) by rw [hw2];exact MpI.new' _ hz0.symm)
  have HP2:=Zh (show Blk w2 w.heap.size 264 (Qeq (ml.set j (some mj))) by rw [hw2,←Qtg];exact Blk.alloc (hpb.set_ j _) _)
  have HL2:=Zh (show Qnw w2 (ml.set j (some mj)) ls (avM N s tl nt) j (w.heap.size+1) mj by rw [hw2];rw [←hmj] at hlv;exact ((hlv.grown (Qaa wr w.heap.size j (.map (some mj))) (.inr (Nat.lt_succ_self _))).below ((Zr _ _).alloc (Zn _) _)).put _)
  have HB2:=Zh (show Below w.heap.size w w2 by rw [hw2];exact Bel.alloc (hb.setCell (Zn _) _))
  have HZ2:=Zh (show w2.heap.size=mj+1 by rw [hw2,World.size_alloc,hz0])
  have HMJ:=Zh (show w.heap.size+1≤mj by omega)
  have HW2:=Zh hw2;have HMJE:=Zh hmj;have hmlj:(ml.set j (some mj))[j]?=some (some mj):=by rw [List.getElem?_set_self (by omega)]
  obtain ⟨ml',hml'⟩:∃ x,x=ml.set j (some mj):=⟨_,rfl⟩;rw [←hml'] at HP2 HL2 hmlj;have HMLJ:=Zh hmlj;have HML':=Zh (show ml'.length=L by rw [hml',List.length_set];exact hml)
  clear hb hpb hml hlv hsz hl hlo k1 hq hmo hpm hz0 hw2 hmlj hml' HB HLV HPB HML k00
  go_wp2_with fail
  rw [←HMJE.out,←HW2.out];clear p0 fp0 pl q0 ql qn qn2 k0 HW2 HMJE hmj;with_reducible refine (HTO.out w2 HB2.out).mono ?_
  rintro r w' ⟨rfl,rfl⟩;obtain ⟨lb,lo,z,rfl,hz,cz0⟩:=(HR.out).at_ (i:=vs) hvs;have cz:=Zc HB2.out (Zn _) cz0;obtain ⟨zn,hzn,hzm,hzz⟩:=Qda HLO.out hvs;obtain rfl:z=(zn:Int):=by rw [←hzn];exact (Qbt hz).symm
  have hmo:=Qby (l:=l) (n:=(N.vs.length:Int)) (fun x hx=>HLO.out.hi x hx) (by omega);have hzb:zn≤1000000000000:=by omega
  have HZN:=Zh (show Qad l (toV N s)=(zn:Int) by rw [HSV.out];exact hzn)
  have p8:w2.cell? ⟨w.heap.size,j,none⟩=some (.map (some mj)):=by rw [HP2.out.cell];exact Qgd HMLJ.out
  have c8:=cz;have i3:(vs:Int)<(N.vs.length:Int):=by omega
  have i4:(0:Int)≤(vs:Int):=by omega
  have HMM:=HM2;clear hz hzz hzm cz cz0 hmo
  go_wp2_with fail
  refine Qbi 8 (S:=fun V=>V.cell? ⟨w.heap.size,j,none⟩=some (.map (some mj))∧V.cell? ⟨lb,lo+vs,none⟩=some (.int .i64 (zn:Int))) (by kernel_rfl) ⟨p8,c8⟩ (fun _=>?_);refine tkK 0 46 (h:=⟨_,tv,?_⟩);simp only [pE,List.set];refine tkK 1 47 (h:=⟨_,tv,?_⟩);simp only [pE,List.set];refine tkK 2 48 (h:=⟨_,tv,?_⟩);simp only [pE,List.set];refine tkK 3 49 (h:=⟨_,tv,?_⟩);simp only [pE,List.set];refine tkK 4 50 (h:=⟨_,tv,?_⟩);simp only [pE,List.set];refine tkK 5 51 (h:=⟨_,tv,?_⟩);simp only [pE,List.set];refine tkK 6 52 (h:=⟨_,tv,?_⟩);simp only [pE,List.set];refine tkK 7 53 (h:=⟨_,tv,?_⟩);simp only [pE,List.set];have hmq:MpI w2.drew mj 0 (fun _=>none):=MpI.below HMM.out (Zr _ _).drew;refine Qbr (k:=8) (by kernel_rfl) rfl (fun K hK=>?_);refine (if_pos (by rfl)).mpr ?_;refine Qio _ _ _ rfl zn 1 rfl hmq (by omega) rfl rfl hzb (by omega) (fun w9 hm9 hg9=>?_);refine hK.out _ _ ?_;clear hK K;refine Qbm (by kernel_rfl) ?_ _;clear p8 c8 hmq;have HB9:=Zh (show Below w.heap.size w w9 from Qmv HB2.out.drew hg9 (by have:=HMJ.out;omega) (show w.heap.size≤w2.heap.size from HB2.out.size))
  have HP9:=Zh (show Blk w9 w.heap.size 264 (Qeq ml') from Blk.grown (HP2.out.drew) hg9 (fun e=>by injection e with e;have:=HMJ.out;omega))
  have HK9:=Zh (show Qml l (avM N s tl 0) (fun q=>if q=zn then some 1 else none) from (Qml.nil l).put HZN.out)
  have HL9:=Zh (show Qnw w9 ml' ls (avM N s tl nt) j (w.heap.size+1) mj from (HL2.out.below (Zr _ _).drew).grown hg9 (.inl (Zn _)))
  have HM9:=Zh hm9;have q3:=(HQ.out w9 HB9.out).q3;clear hm9 hg9 hzn hzb i3 i4 HMM HM2 HP2 HL2 HB2 HZ2 HZN
  go_wp2_with fail
  clear q3
  go_loopw [59] (fun q W=>∃ (i nn:Nat) (f:Nat→Option Nat),i≤nt∧q=.int .i64 i∧Below w.heap.size w W∧Blk W w.heap.size 264 (Qeq ml')∧MpI W mj nn f∧nn≤i+1∧Qml l (avM N s tl i) f∧Qnw W ml' ls (avM N s tl nt) j (w.heap.size+1) mj) (fun q _=>nt-(intOf q).toNat)
  case atStart=>exact ⟨0,_,_,Nat.zero_le _,rfl,HB9.out,HP9.out,HM9.out,Zn _,HK9.out,HL9.out⟩
  case round =>
   clear HB9 HP9 HM9 HK9 HL9;obtain ⟨i,nn,f,hi,rfl,hb,hpb,hm,hnn,hk,hlv⟩:=hrel;have HB:=Zh hb;have HPB:=Zh hpb;have HM:=Zh hm;have HK:=Zh hk;have HLV:=Zh hlv
   by_cases hlt2:i<nt
   rotate_left
   · obtain rfl:i=nt:=by omega
     have j1:¬(i:Int)<(i:Int):=by omega
     have hml:=hm.lt;clear hb hpb hm hk hlv
     go_wp2_with fail
     go_roundw
     case rel=>exact ⟨j+1,ml',by omega,by go_num,HB.out,HPB.out,HML'.out,HLV.out.succ HL.out ⟨HMLJ.out,HM.out,HK.out⟩ HMJ.out hml,by have:=HMJ.out;omega⟩
     case measure=>simp [intOf];omega
   have hq:=HQ.out wr hb;obtain ⟨tb,to,t,hTA,ht,ctt⟩:=hq.ts.at_ hlt2;obtain ⟨a,y,rfl,hy⟩:=HTS.out i t ht;obtain ⟨us,v0,ey1,ey2,hus,_⟩:=Qhj HOK.out hy;have HFa:=Zh (ey1▸HFR.out a y hy wr hb);have q0:=hq.q0;obtain ⟨_,_,z,hAA,hz,cz0⟩:=(HR.out).at_ (i:=us) hus
   cases hAA
   have cz:=Zc hb (Zn _) cz0;obtain ⟨zn,hzn,hzm,hzz⟩:=Qda HLO.out hus;obtain rfl:z=(zn:Int):=by rw [←hzn];exact (Qbt hz).symm
   have hmo:=Qby (l:=l) (n:=(N.vs.length:Int)) (fun x hx=>HLO.out.hi x hx) (by omega);have hzb:zn≤1000000000000:=by omega
   have HZN:=Zh (show Qad l (frV N ((a:Int)).toNat)=(zn:Int) by rw [Int.toNat_natCast,(Qbs hy).2.1,ey1];exact hzn)
   have HAV:=Zh (avM_succ (N:=N) (s:=s) ht);have p8:wr.cell? ⟨w.heap.size,j,none⟩=some (.map (some mj)):=by rw [hpb.cell];exact Qgd HMLJ.out
   have c8:=cz;have i3:(us:Int)<(N.vs.length:Int):=by omega
   have i4:(0:Int)≤(us:Int):=by omega
   have i5:(i:Int)<(nt:Int):=by omega
   have i6:(0:Int)≤(i:Int):=by omega
   have HMM:=HM;subst hTA;clear hz hzz hzm cz cz0 hmo hq hb hpb hm hk hlv ht ey1 ey2 hy
   go_wp2_with fail
   with_reducible refine HFa.out.mono ?_
   rintro r w' ⟨rfl,rfl⟩;clear q0 ctt HFa
   go_wp2_with fail
   refine Qbi 8 (S:=fun V=>V.cell? ⟨w.heap.size,j,none⟩=some (.map (some mj))∧V.cell? ⟨lb,lo+us,none⟩=some (.int .i64 (zn:Int))) (by kernel_rfl) ⟨p8,c8⟩ (fun _=>?_);refine tkK 0 77 (h:=⟨_,tv,?_⟩);simp only [pE,List.set];refine tkK 1 78 (h:=⟨_,tv,?_⟩);simp only [pE,List.set];refine tkK 2 79 (h:=⟨_,tv,?_⟩);simp only [pE,List.set];refine tkK 3 80 (h:=⟨_,tv,?_⟩);simp only [pE,List.set];refine tkK 4 81 (h:=⟨_,tv,?_⟩);simp only [pE,List.set];refine tkK 5 82 (h:=⟨_,tv,?_⟩);simp only [pE,List.set];refine tkK 6 83 (h:=⟨_,tv,?_⟩);simp only [pE,List.set];refine tkK 7 84 (h:=⟨_,tv,?_⟩);simp only [pE,List.set];have hmq:MpI wr.drew mj nn f:=MpI.below HMM.out (Zr _ _).drew;refine Qbr (k:=8) (by kernel_rfl) rfl (fun K hK=>?_);refine (if_pos (by rfl)).mpr ?_;refine Qio _ _ _ rfl zn 1 rfl hmq (by omega) rfl rfl hzb (by omega) (fun w9 hm9 hg9=>?_);refine hK.out _ _ ?_;clear hK K;refine Qbm (by kernel_rfl) ?_ _;clear p8 c8 hmq;have hB9:Below w.heap.size w w9:=Qmv HB.out.drew hg9 (by have:=HMJ.out;omega) (show w.heap.size≤wr.heap.size from HB.out.size)
   have hP9:Blk w9 w.heap.size 264 (Qeq ml'):=Blk.grown (HPB.out.drew) hg9 (fun e=>by injection e with e;have:=HMJ.out;omega);have hL9:Qnw w9 ml' ls (avM N s tl nt) j (w.heap.size+1) mj:=(HLV.out.below (Zr _ _).drew).grown hg9 (.inl (Zn _));have hK9:Qml l (avM N s tl (i+1)) (fun q=>if q=zn then some 1 else f q):=by rw [HAV.out];exact HK.out.put HZN.out
   have H9:=Zh (And.intro hB9 (And.intro hP9 (And.intro hm9 (And.intro hK9 hL9))));clear hB9 hP9 hL9 hK9 hm9 hg9 hzn hzb
   go_wp2_with fail
   go_roundw
   case rel=>exact ⟨i+1,nn+1,_,by omega,by go_num,H9.out.1,H9.out.2.1,H9.out.2.2.1,by omega,H9.out.2.2.2.1,H9.out.2.2.2.2⟩
   case measure=>simp [intOf];omega
end Go.Proofs.YteaoiabikjnkeaaGreatDoor
namespace Go.Proofs.YteaoiabikjnkeaaGreatDoor
open Go.RowKit Go.Proofs.Tryz
structure MI (N:Qap) (ls:List (List Int)) (av:List Int) (s na:Nat) (dnf hp:Nat→Option Int) (dn:List Bool):Prop where
 dij:Dij (HSt N ls av) s dnf hp
 fl:∀ q,q<na→(dn.getD q false=true↔dnf q≠none)
 bd:∀ q e,hp q=some e→e≤MB+70379481595904
 ld:dn.length=na
structure MJ (N:Qap) (ls:List (List Int)) (av:List Int) (s na p:Nat) (c:Int) (os cs:List Int) (i:Nat) (dnf hp:Nat→Option Int) (dn:List Bool):Prop where
 dij:Qoe (HSt N ls av) s dnf hp p c (GoneQ N os cs i)
 fl:∀ q,q<na→(dn.getD q false=true↔dnf q≠none)
 bd:∀ q e,hp q=some e→e≤MB+70379481595904
 ld:dn.length=na
 c0:0≤c∧c≤MB
section
variable {N:Qap} {ls:List (List Int)} {av:List Int} {s na p:Nat} {c:Int} {os cs:List Int} {i:Nat} {dnf hp:Nat→Option Int} {dn:List Bool}
theorem MI.init:MI N ls av s na (fun _=>none) (Qiu (fun _=>none) s 0) (List.replicate na false):=by
 have h:=RunI.init (N:=N) (ls:=ls) (av:=av) (s:=s) (t:=s) (na:=na);exact ⟨h.dij,h.fl,h.bd,h.ld⟩
theorem MI.free (h:MI N ls av s na dnf hp dn)(hpn:p<na)(hp1:hp p=some c):dnf p=none∧dn.getD p false=false:=by
 have hno:dnf p=none:=by
  cases hd:dnf p with
  | none=>rfl
  | some e=>have:=h.dij.off p e hd;rw [hp1] at this;cases this
 refine ⟨hno,?_⟩
 cases hd:dn.getD p false with
 | false=>rfl
 | true=>exact absurd hno ((h.fl p hpn).1 hd)
theorem MI.take (hok:Qaz N)(hP:Qbn N.vs.length ls) (hE:∀ (j:Nat) (l:List Int) (a b:Nat) (y z:Tri),ls[j]?=some l→N.ar[a]?=some y→N.ar[b]?=some z→Qad l y.1≠Qad l y.2.1→Qad l z.1=Qad l y.2.1→Qad l z.2.1≠Qad l y.2.1→∃ v,Qgn N (Qel l (Qad l y.2.1)) a b v)
 (hs:∃ x,N.ar[s]?=some x) (hav:toV N s∈av) (h:MI N ls av s na dnf hp dn) (hpn:p<na) (hp1:hp p=some c) (hm:∀ q e,hp q=some e→c≤e) :
 MJ N ls av s na p c os cs 0 (fun q=>if q=p then some c else dnf q) (fun q=>if q=p then none else hp q) (dn.set p true)∧Quw N ls av p:=by
 obtain ⟨hno,hdn⟩:=h.free hpn hp1;have hr:=h.dij.hr p c hp1;have hpl:p<dn.length:=by rw [h.ld];exact hpn
 refine ⟨⟨(h.dij.take (HSt.pos hok) hp1 hm).conv (fun r d ⟨j,_,_,hj,_⟩=>by omega),fun q hq=>?_,fun q e hq=>?_,by rw [List.length_set];exact h.ld,hr.pos (HSt.pos hok),?_⟩,Qol hok hP hav hr⟩
 · by_cases e:q=p
   · subst e
     simp [List.getD_eq_getElem?_getD,hpl]
   · have e':¬p=q:=fun x=>e x.symm
     have:=h.fl q hq
     simpa [List.getD_eq_getElem?_getD,List.getElem?_set,e,e'] using this
 · by_cases e1:q=p
   · rw [if_pos e1] at hq;cases hq
   · rw [if_neg e1] at hq;exact h.bd q e hq
 · obtain ⟨e,h1,h2⟩:=rchH_bd hok hP hE hs hav hr
   have:=h.dij.least (HSt.pos hok) hp1 hm e h1;omega
theorem MJ.skip (h:MJ N ls av s na p c os cs i dnf hp dn){b:Nat}{v:Int}{y:Tri} (hb:os[i]?=some (b:Int)) (hv:cs[i]?=some v) (hy:N.ar[b]?=some y) (hno:v=1152921504606846976∨y.2.2=1152921504606846976):MJ N ls av s na p c os cs (i+1) dnf hp dn :=
 ⟨h.dij.conv (fun r d ⟨j,v',y',hj,h1,h2,h3,h4,h5,h6⟩=>by
  by_cases e:j=i
  · subst e
    rw [hb] at h1;have e1:=Int.ofNat.inj (Option.some.inj h1);subst e1;rw [hv] at h2
    cases h2
    rw [hy] at h3
    cases h3
    rcases hno with g|g
    · exact absurd g h4
    · exact absurd g h5
  · exact ⟨j,v',y',by omega,h1,h2,h3,h4,h5,h6⟩),h.fl,h.bd,h.ld,h.c0⟩
theorem MJ.off (h:MJ N ls av s na p c os cs i dnf hp dn){b:Nat}{v:Int}{y:Tri} (hb:os[i]?=some (b:Int)) (hv:cs[i]?=some v) (hy:N.ar[b]?=some y) (hst:HSt N ls av p b (v+y.2.2)) (hbn:b<na) (hd:dn.getD b false=true):MJ N ls av s na p c os cs (i+1) dnf hp dn :=
 ⟨(h.dij.put hst (.inl ⟨(h.fl b hbn).1 hd,fun e he=>h.dij.dm b e he _ ((h.dij.dr p c h.dij.at_).step hst),rfl⟩)).conv (Qmc hb hv hy),h.fl,h.bd,h.ld,h.c0⟩
theorem MJ.put (hok:Qaz N)(h:MJ N ls av s na p c os cs i dnf hp dn){b:Nat}{v:Int}{y:Tri} (hb:os[i]?=some (b:Int)) (hv:cs[i]?=some v) (hy:N.ar[b]?=some y) (hst:HSt N ls av p b (v+y.2.2)) (hbn:b<na) (hd:dn.getD b false=false) :
 MJ N ls av s na p c os cs (i+1) dnf (Qiu hp b (c+(v+y.2.2))) dn:=by
 have hdn:dnf b=none:=by
  cases e:dnf b with
  | none=>rfl
  | some x =>
   have:=(h.fl b hbn).2 (by rw [e];exact fun h=>by cases h)
   rw [hd] at this
   cases this
 obtain ⟨x,hx⟩:∃ x,x=c+(v+y.2.2):=⟨_,rfl⟩;rw [←hx];have hne:∀ r,r≠b→Qiu hp b x r=hp r:=fun r hr=>by unfold Qiu;rw [if_neg hr]
 have hat0:hp b=none→Qiu hp b x b=some x:=fun e=>by unfold Qiu;rw [if_pos rfl,e]
 have hat1:∀ z,hp b=some z→Qiu hp b x b=some (if z≤x then z else x):=fun z e=>by unfold Qiu;rw [if_pos rfl,e]
 have hbd:∀ q e,Qiu hp b x q=some e→e≤MB+70379481595904:=fun q e hq=>by
  by_cases e1:q=b
  · subst e1
    have h1:=(hst.bd hok).2;have h2:=h.c0.2
    cases e2:hp q with
    | none=>rw [hat0 e2] at hq;cases hq;omega
    | some z =>
     rw [hat1 z e2] at hq;simp only [Option.some.injEq] at hq;have:=h.bd q z e2
     split at hq <;> omega
  · rw [hne q e1] at hq
    exact h.bd q e hq
 refine ⟨(h.dij.put hst (.inr ⟨hdn,hne,?_⟩)).conv (Qmc hb hv hy),h.fl,hbd,h.ld,h.c0⟩
 cases e2:hp b with
 | none=>exact .inr ⟨fun e h=>(by cases h),by rw [hat0 e2,hx]⟩
 | some z =>
  by_cases e3:z≤x
  · exact .inl ⟨z,rfl,by omega,by rw [hat1 z e2,if_pos e3]⟩
  · exact .inr ⟨fun e h=>by cases h;omega,by rw [hat1 z e2,if_neg e3,hx]⟩
theorem MJ.all (h:MJ N ls av s na p c os cs i dnf hp dn)(hn:NxtP N ls av p os cs)(hi:os.length≤i):MI N ls av s na dnf hp dn :=
 ⟨h.dij.done (fun q d hq=>by
  obtain ⟨k,v,y,h1,h2,h3,h4,h5,h6⟩:=hn.all q d hq;exact ⟨k,v,y,by have:=(Zs h1).1;omega,h1,h2,h3,h4,h5,h6⟩),h.fl,h.bd,h.ld⟩
end
def Qiv (tl:List Int)(dnf:Nat→Option Int):List Int:=tl.map (fun t=>(dnf t.toNat).getD 1152921504606846976)
theorem Qdf (tl:List Int)(dnf:Nat→Option Int):(Qiv tl dnf).length=tl.length:=by simp [Qiv]
theorem Qhl {tl:List Int}{dnf:Nat→Option Int}{i:Nat}{t:Int} (h:tl[i]?=some t):(Qiv tl dnf)[i]?=some ((dnf t.toNat).getD 1152921504606846976):=by
 unfold Qiv;rw [List.getElem?_map,h]
 rfl
theorem Qpn (tl:List Int):Qiv tl (fun _=>none)=List.replicate tl.length 1152921504606846976:=by
 unfold Qiv;rw [List.eq_replicate_iff];refine ⟨by simp,fun b hb=>?_⟩;obtain ⟨x,_,rfl⟩:=List.mem_map.1 hb
 rfl
def upD (dnf:Nat→Option Int)(k:Nat)(c:Int):Nat→Option Int:=fun q=>if q=k then some c else dnf q
def Qrb (tl:List Int)(dnf:Nat→Option Int)(k:Nat)(c:Int)(i:Nat):List Int:=(Qiv tl (upD dnf k c)).take i ++(Qiv tl dnf).drop i
section
variable {tl:List Int} {dnf:Nat→Option Int} {k i:Nat} {c:Int}
theorem Qyb:Qrb tl dnf k c 0=Qiv tl dnf:=by simp [Qrb]
theorem rowT_all:Qrb tl dnf k c tl.length=Qiv tl (upD dnf k c):=by
 unfold Qrb;rw [List.take_of_length_le (by rw [Qdf];exact Zn _),List.drop_eq_nil_of_le (by rw [Qdf];exact Zn _),List.append_nil]
theorem rowT_len (hi:i≤tl.length):(Qrb tl dnf k c i).length=tl.length:=by
 unfold Qrb;rw [List.length_append,List.length_take,List.length_drop,Qdf,Qdf];omega
theorem Qhp {A B:List Int}{x:Int} (hx:A[i]?=some x) (hl:A.length=B.length):(A.take i ++B.drop i).set i x=A.take (i+1) ++B.drop (i+1):=by
 have hi:=(Zs hx).1;obtain ⟨y,hy⟩:∃ y,B[i]?=some y:=⟨_,Zg (by omega)⟩
 have e:B.drop i=y::B.drop (i+1):=by
  rw [List.drop_eq_getElem_cons (by omega)];rw [Zg (by omega)] at hy
  cases hy
  rfl
 have hl2:(A.take i).length=i:=by rw [List.length_take];omega
 rw [e,List.set_append_right _ _ (by omega),hl2,Nat.sub_self,List.set_cons_zero,List.take_add_one,hx,List.append_assoc]
 rfl
theorem rowT_hit (ht:tl[i]?=some (k:Int)):(Qrb tl dnf k c i).set i c=Qrb tl dnf k c (i+1):=by
 unfold Qrb;refine Qhp ?_ (by rw [Qdf,Qdf]);rw [Qhl ht];simp [upD]
theorem Qxs {t:Nat} (ht:tl[i]?=some (t:Int)) (hk:t≠k):Qrb tl dnf k c i=Qrb tl dnf k c (i+1):=by
 have hi:=(Zs ht).1
 have e1:(Qiv tl (upD dnf k c))[i]?=(Qiv tl dnf)[i]?:=by
  rw [Qhl ht,Qhl ht];simp [upD,hk]
 unfold Qrb;rw [List.take_add_one,e1,List.append_assoc]
 congr 1
 rw [Zg (by rw [Qdf];exact hi),List.drop_eq_getElem_cons (by rw [Qdf];exact hi)]
 rfl
theorem rowV_off (h:∀ i:Nat,tl[i]?≠some (k:Int)) (hn:∀ (i:Nat) (t:Int),tl[i]?=some t→∃ a:Nat,t=(a:Int)):Qiv tl (upD dnf k c)=Qiv tl dnf:=by
 unfold Qiv;refine List.map_congr_left (fun t ht=>?_);obtain ⟨i,hi⟩:=List.getElem?_of_mem ht;obtain ⟨a,rfl⟩:=hn i t hi;have:a≠k:=fun e=>h i (by rw [hi,e])
 simp [upD,this]
end
def Qdr (ks:List Nat)(dnf:Nat→Option Int):Nat:=ks.countP (fun k=>(dnf k).isNone)
theorem Qvn (ks:List Nat):Qdr ks (fun _=>none)=ks.length:=by
 unfold Qdr;rw [List.countP_eq_length];exact fun _ _=>rfl
theorem Qkq:∀ {ks:List Nat}{dnf:Nat→Option Int}{k:Nat}{c:Int},k ∉ ks→Qdr ks (upD dnf k c)=Qdr ks dnf
 | [],_,_,_,_=>rfl
 | q::ks,dnf,k,c,h=>by
  have h1:q≠k:=fun e=>h (by rw [e];exact List.mem_cons_self)
  have h2:k ∉ ks:=fun e=>h (List.mem_cons_of_mem _ e)
  have ih:=Qkq (ks:=ks) (dnf:=dnf) (k:=k) (c:=c) h2;unfold Qdr at ih ⊢;rw [List.countP_cons,List.countP_cons,ih];simp [upD,h1]
theorem Qsu:∀ {ks:List Nat}{dnf:Nat→Option Int}{k:Nat}{c:Int},ks.Nodup→k∈ks→dnf k=none→Qdr ks dnf=Qdr ks (upD dnf k c)+1
 | [],_,_,_,_,h,_=>by cases h
 | q::ks,dnf,k,c,hn,h,hd=>by
  obtain ⟨g1,g2⟩:=List.nodup_cons.1 hn
  by_cases e:q=k
  · subst e
    have ih:=Qkq (ks:=ks) (dnf:=dnf) (k:=q) (c:=c) g1;unfold Qdr at ih ⊢;rw [List.countP_cons,List.countP_cons,ih];simp [upD,hd]
  · have ih:=Qsu (ks:=ks) (dnf:=dnf) (k:=k) (c:=c) g2 ((List.mem_cons.1 h).resolve_left (fun x=>e x.symm)) hd
    unfold Qdr at ih ⊢;rw [List.countP_cons,List.countP_cons,ih];simp [upD,e];omega
theorem Quc {ks:List Nat}{dnf:Nat→Option Int}(h:Qdr ks dnf=0)(k:Nat)(hk:k∈ks):dnf k≠none:=by
 unfold Qdr at h;rw [List.countP_eq_zero] at h;intro e;exact h k hk (by rw [e];rfl)
def RowQ (N:Qap) (ls:List (List Int)) (av:List Int) (s:Nat) (tl row:List Int):Prop :=
 row.length=tl.length∧∀ (i t:Nat),tl[i]?=some (t:Int)→∃ v,row[i]?=some v∧((wV N s=1152921504606846976∧v=1152921504606846976)∨(wV N s≠1152921504606846976∧Lst (Rch (HSt N ls av) s t) v))
theorem RowQ.none {N:Qap} {ls:List (List Int)} {av:List Int} {s:Nat} (tl:List Int) (h:wV N s=1152921504606846976):RowQ N ls av s tl (Qiv tl (fun _=>none)) :=
 ⟨Qdf _ _,fun _ _ ht=>⟨_,Qhl ht,.inl ⟨h,rfl⟩⟩⟩
theorem MI.row {N:Qap} {ls:List (List Int)} {av:List Int} {s na:Nat} {dnf hp:Nat→Option Int} {dn:List Bool} {tl:List Int} (hok:Qaz N) (h:MI N ls av s na dnf hp dn) (hw:wV N s≠1152921504606846976)
 (he:(∀ q,hp q=Option.none)∨∀ (i t:Nat),tl[i]?=some (t:Int)→dnf t≠Option.none):RowQ N ls av s tl (Qiv tl dnf) :=
 ⟨Qdf _ _,fun i t ht=>⟨_,Qhl ht,.inr ⟨hw,by
  rw [Int.toNat_natCast]
  cases hd:dnf t with
  | some c=>exact .inl ⟨h.dij.dr t c hd,h.dij.dm t c hd⟩
  | none =>
   rcases he with he|he
   · exact h.dij.miss (HSt.pos hok) he hd
   · exact absurd hd (he i t ht)⟩⟩⟩
attribute [local go_sem ↓] Go.wp_at_zero Go.wp_at_succ
set_option maxHeartbeats 400000 in
theorem Qxl (A:Option Addr)(n c:Nat)(l:List Int)(v:Int)(w:World)(h:RdI w A n l)(hn:n≤1000000000) :
 Calls prog 53 #[.slice A n c,.int .i64 v] w fun e w'=>e=.returned (.int .i64 (plI l v))∧w=w':=by
 have HR:=Zh h;have HL:=Zh h.1;clear h
 go_enter func53,ntmps53
 go_wp2_with fail
 go_loop [5] (fun q=>∃ k:Nat,k≤n∧q=.int .i64 k∧∀ j x,j<k→l[j]?=some x→x≠v) (fun q=>n-(intOf q).toNat)
 case atStart=>exact ⟨0,Nat.zero_le _,rfl,fun _ _ h=>absurd h (Nat.not_lt_zero _)⟩
 case round =>
  obtain ⟨k,hk,rfl,hj⟩:=hrel;have HJ:=Zh hj;clear hj
  by_cases hlt:k<n
  · obtain ⟨b,o,x,rfl,hx,hc⟩:=HR.out.at_ hlt
    have i1:(0:Int)≤(k:Int):=by omega
    have i2:(k:Int)<(n:Int):=by omega
    by_cases e:x=v
    · have HP:=Zh (Qmu (e▸hx) HJ.out)
      have e1:(x == v)=true:=by simpa using e
      have e2:(v == x)=true:=by simpa using e.symm
      clear e hx
      go_wp2_with fail
      go_ret
      exact ⟨Qbz HP.out.symm,rfl⟩
    · have e1:(x == v)=false:=by simpa using e
      have e2:(v == x)=false:=by simpa using (fun h:v=x=>e h.symm)
      have HX:=Zh hx;have HE:=Zh e;clear e hx
      go_wp2_with fail
      go_round
      case rel=>exact ⟨k+1,by omega,by go_num,fun j y hj hy=>by
       by_cases ej:j=k
       · subst ej
         rw [HX.out] at hy
         cases hy
         exact HE.out
       · exact HJ.out j y (by omega) hy⟩
      case measure=>simp [intOf];omega
  · obtain rfl:n=k:=by omega
    have HP:=Zh (Qcu (l:=l) (v:=v) (fun hm=>by
     obtain ⟨j,hj⟩:=List.getElem?_of_mem hm;exact HJ.out j v (by rw [←HL.out];exact (Zs hj).1) hj rfl))
    go_wp2_with fail
    go_ret
    exact ⟨Qbz HP.out.symm,rfl⟩
theorem Qkl (A B C:Option Addr)(n m k c d e:Nat)(a:Int)(w:World)(h0:0≤a)(h1:a<m) :
 Calls prog 40 #[.agg #[.slice A n c,.slice B m d,.slice C k e],.int .i64 a] w fun r w'=>r=.returned (.bool true)∧Below w.heap.size w w':=by
 go_enter func40,ntmps40
 go_wp2
 go_ret
 exact ⟨Qay (by first|(simp;done)|(simp;omega)),Qah⟩
theorem idx_at {f:Tri→Int}{l:List Tri}{k:Nat}{y:Tri} (h:l[k]?=some y):∀ j,k<j→j≤l.length→(idx f (l.take j) (f y))[(idx f (l.take k) (f y)).length]?=some (k:Int):=by
 intro j
 induction j with
 | zero=>intro h1;omega
 | succ j ih =>
  intro h1 h2;obtain ⟨z,hz⟩:∃ z,l[j]?=some z:=⟨_,Zg (by omega)⟩;rw [Qsb hz]
  by_cases e:k=j
  · subst e
    rw [h] at hz
    cases hz
    rw [List.getElem?_append_right (Zn _),Nat.sub_self];simp
  · have:=ih (by omega) (by omega)
    rw [List.getElem?_append_left (Zs this).1];exact this
theorem plI_idx {f:Tri→Int}{l:List Tri}{k:Nat}{y:Tri} (h:l[k]?=some y):plI (idx f l (f y)) (k:Int)=((idx f (l.take k) (f y)).length:Nat):=by
 have hk:=(Zs h).1;have h1:=idx_at (f:=f) h l.length hk (Zn _);rw [List.take_length] at h1;refine Qmu h1 (fun j x hj hx=>?_);have hs:=Qlv f (f y) l;rw [List.pairwise_iff_getElem] at hs;obtain ⟨p1,e1⟩:=Zs hx;obtain ⟨p2,e2⟩:=Zs h1;have:=hs j _ p1 p2 hj;omega
set_option maxHeartbeats 1000000 in
theorem Qog (A:Option Addr)(n c:Nat)(t:Qfc)(i o:Nat)(w:World)(h:RdI w A n t.costs)(ht:Qnt t) (hi:(i:Int)<t.ins) (ho:(o:Int)<t.outs) :
 Calls prog 67 #[.agg #[.int .i64 t.ins,.int .i64 t.outs,.slice A n c],.int .i64 i,.int .i64 o] w fun e w'=>∃ x,t.costs[i*t.outs.toNat+o]?=some x∧e=.returned (.int .i64 x)∧Below w.heap.size w w':=by
 obtain ⟨p,q,cs⟩:=t;simp only at h hi ho ⊢;have i0:0≤p:=ht.i0;have i16:p≤16:=ht.i16;have o0:0≤q:=ht.o0;have o16:q≤16:=ht.o16;have hm:=Qpk i0 i16 o0 o16;have hl:(cs.length:Int)=p*q:=ht.len
 have hk:(i:Int)*q+o<p*q:=by
  have h1:((i:Int)+1)*q≤p*q:=Int.mul_le_mul_of_nonneg_right (by omega) o0;rw [Int.add_mul,Int.one_mul] at h1;omega
 have hk0:0≤(i:Int)*q:=Int.mul_nonneg (by omega) o0;obtain ⟨k,hkk⟩:∃ k:Nat,(k:Int)=(i:Int)*q+o:=⟨((i:Int)*q+o).toNat,by omega⟩
 have hke:i*q.toNat+o=k:=by
  have:((i*q.toNat+o:Nat):Int)=(k:Int):=by
   rw [hkk]
   push_cast
   rw [Int.toNat_of_nonneg o0]
  exact_mod_cast this
 rw [hke];have hkl:k<n:=by rw [←h.1];omega
 obtain ⟨b,oo,x,hA,hx,hc⟩:=h.at_ hkl;subst hA;have e1:IntKind.i64.wrap ((i:Int)*q)=(i:Int)*q:=IntWalk.i64_in _ (by omega);have e2:IntKind.i64.wrap ((i:Int)*q+o)=(k:Int):=by rw [←hkk];exact IntWalk.i64_in _ (by omega)
 have i1:((k:Int))<(n:Int):=by omega
 have i2:¬(p≤(i:Int)):=by omega
 have i3:¬(q≤(o:Int)):=by omega
 have i4:¬((i:Int)<0):=by omega
 have i5:¬((o:Int)<0):=by omega
 have HX:=Zh hx;have hb:=Qaj hc;simp only at hb;clear hx hk hm hl hkk hke h ht
 go_enter func67,ntmps67
 go_wp2_with fail
 go_ret
 exact ⟨x,HX.out,rfl,Qah⟩
structure BfW (w:World) (D:Nat) (cs:Array Value) (V:World) (d:List Int):Prop where
 bel:Below w.heap.size w V
 box:Blk V w.heap.size 53 cs
 row:Blk V D 2 (Qbu d)
 dB:w.heap.size<D
section
variable {w V V':World} {D:Nat} {cs:Array Value} {d:List Int}
theorem BfW.below (h:BfW w D cs V d)(hb:Below V.heap.size V V'):BfW w D cs V' d:=⟨Zb h.bel hb,h.box.below hb h.box.lt,h.row.below hb h.row.lt,h.dB⟩
theorem BfW.set (h:BfW w D cs V d)(b:Nat)(v:Int):BfW w D cs (V.setCell ⟨D,b,none⟩ (.int .i64 v)) (d.set b v) :=
 ⟨h.bel.setCell (by have:=h.dB;simp only;omega) _,h.box.far_ (by have:=h.dB;omega) _,h.row.setI rfl,h.dB⟩
end
theorem Qqh (w:World)(x:Int)(h0:1152921504606846976<x) :
 Calls prog 98 #[.int .i64 x] w fun e w'=>e=.returned (.int .i64 1152921504606846976)∧w=w':=by
 have e1:decide (x<0)=false:=by simp;omega
 have e2:decide (1152921504606846976<x)=true:=by simp;omega
 go_enter func98,ntmps98
 go_wp2_with fail
 go_ret
 exact ⟨rfl,rfl⟩
theorem Qgt (w:World)(x y:Int)(h0:0≤x∧x≤1152921504606846976)(h1:0≤y∧y≤1152921504606846976) :
 Calls prog 43 #[.int .i64 x,.int .i64 y] w fun e w'=>e=.returned (.int .i64 (Qet x y))∧w=w':=by
 have HX:=Zh (Qco w x h0.1 h0.2);have HY:=Zh (Qco w y h1.1 h1.2)
 have HZ:=Zh (show Calls prog 98 #[.int .i64 (x+y)] w fun e w'=>e=.returned (.int .i64 (Qet x y))∧w=w' by
  unfold Qet
  split
  · exact Qqh w (x+y) (by omega)
  · exact Qco w (x+y) (by omega) (by omega))
 have e1:IntKind.i64.wrap (x+y)=x+y:=IntWalk.i64_in _ (by omega)
 go_enter func43,ntmps43
 go_wp2_with fail
 with_reducible refine HX.out.mono ?_
 rintro e w' ⟨rfl,rfl⟩
 go_wp2_with fail
 with_reducible refine HY.out.mono ?_
 rintro e w' ⟨rfl,rfl⟩
 go_wp2_with fail
 with_reducible refine HZ.out.mono ?_
 rintro e w' ⟨rfl,rfl⟩
 go_wp2_with fail
 go_ret
 exact ⟨rfl,rfl⟩
theorem Qyl {x:Int}(h:x≤1152921504606846976):Qet 0 x=x:=by
 unfold Qet
 split <;> omega
theorem Qjt (A:Option Addr)(c:Nat)(w:World)(x y z:Int) (h:RdI w A 3 [x,y,z]) (h0:0≤x∧x≤1152921504606846976) (h1:0≤y∧y≤1152921504606846976) (h2:0≤z∧z≤1152921504606846976) :
 Calls prog 126 #[.slice A 3 c] w fun e w'=>e=.returned (.int .i64 (Qet (Qet x y) z))∧w=w':=by
 obtain ⟨b,o,rfl,c0⟩:=h.2 0 x rfl;obtain ⟨b',o',e',c1⟩:=h.2 1 y rfl
 cases e'
 obtain ⟨b',o',e',c2⟩:=h.2 2 z rfl
 cases e'
 rw [Nat.add_zero] at c0;clear h;have HX:=Zh (show Calls prog 43 #[.int .i64 0,.int .i64 x] w fun e w'=>e=.returned (.int .i64 x)∧w=w' from by have:=Qgt w 0 x (by omega) h0;rw [Qyl h0.2] at this;exact this)
 have HY:=Zh (Qgt w x y h0 h1);have gb:=Qig h0.1 h1.1;have HZ:=Zh (Qgt w (Qet x y) z ⟨gb.1,gb.2.1⟩ h2);obtain ⟨u,hu⟩:∃ u,u=Qet x y:=⟨_,rfl⟩;rw [←hu] at HY HZ ⊢;obtain ⟨v,hv⟩:∃ v,v=Qet u z:=⟨_,rfl⟩;rw [←hv] at HZ ⊢;clear hu hv gb
 go_enter func126,ntmps126
 go_wp2_with fail
 go_loopw [3,8] (fun s i W=>W=w∧((s=.int .i64 0∧i=.int .i64 0)∨(s=.int .i64 x∧i=.int .i64 1)∨(s=.int .i64 u∧i=.int .i64 2)∨(s=.int .i64 v∧i=.int .i64 3))) (fun _ i _=>3-(intOf i).toNat)
 case atStart=>exact ⟨rfl,.inl ⟨rfl,rfl⟩⟩
 case round =>
  obtain ⟨rfl,⟨rfl,rfl⟩|⟨rfl,rfl⟩|⟨rfl,rfl⟩|⟨rfl,rfl⟩⟩:=hrel
  · go_wp2_with fail
    with_reducible refine HX.out.mono ?_
    rintro e w' ⟨rfl,rfl⟩
    go_wp2_with fail
    go_roundw
    case rel=>exact ⟨by trivial,.inr (.inl ⟨rfl,rfl⟩)⟩
    case measure=>simp [intOf]
  · go_wp2_with fail
    with_reducible refine HY.out.mono ?_
    rintro e w' ⟨rfl,rfl⟩
    go_wp2_with fail
    go_roundw
    case rel=>exact ⟨by trivial,.inr (.inr (.inl ⟨rfl,rfl⟩))⟩
    case measure=>simp [intOf]
  · go_wp2_with fail
    with_reducible refine HZ.out.mono ?_
    rintro e w' ⟨rfl,rfl⟩
    go_wp2_with fail
    go_roundw
    case rel=>exact ⟨by trivial,.inr (.inr (.inr ⟨rfl,rfl⟩))⟩
    case measure=>simp [intOf]
  · go_wp2_with fail
    go_ret
    exact ⟨rfl,rfl⟩
end Go.Proofs.YteaoiabikjnkeaaGreatDoor
namespace Go.Proofs.YteaoiabikjnkeaaGreatDoor
open Go.RowKit Go.Maps Go.WideMaps Go.Proofs.Tryz
attribute [local go_sem ↓] Go.wp_at_zero Go.wp_at_succ
theorem MpQ.at_ {W W':World}{b n:Nat}{f:Nat→Nat→Option Value}(h:MpQ W b n f) (e:W'.heap[b]?=W.heap[b]?):MpQ W' b n f:=by
 obtain ⟨D,⟨es,clock,h1,h2⟩,h3⟩:=h;exact ⟨D,⟨es,clock,e.trans h1,h2⟩,h3⟩
theorem Qqp {w:World}{o:Oper}{a:Act}{K:Act→World→Prop}{Q:Exit→Act→World→Prop}{b n:Nat}{f:Nat→Nat→Option Value}(m x v:Operand)(hop:o.op=Op.mapUpdate 199 m x v)(i k:Nat)(u:Value) (hm:a.eval m=.map (some b)) (h:MpQ w b n f) (hn:n≤1000000000) (hx:a.eval x=.agg #[.int .i64 i,.int .i64 k]) (hv:a.eval v=u) (hi:i≤1000000000000) (hk:k≤1000000000000)
 (hK:∀ w',MpQ w' b (n+1) (fun p q=>if p=i∧q=k then some u else f p q)→w.grownBy w' (some b)→K (a.put o.dst undef) w'):Oper.wp prog o a w K Q:=by
 obtain ⟨D,h1,h2,h3⟩:=h;obtain ⟨w',hrun,g1,g2⟩:=h1.update Qna underlying199 (by unfold maxLen;omega) (Qsz hi hk) (show RV u=some (.held u,[]) from rfl)
 have hf:=hK w' ⟨_,g1,h2.put _ _,fun p q hp hq=>by
  have hkl:WideAt.IsKeyLit (kq i k):=by simp [WideAt.IsKeyLit,kq]
  by_cases e:p=i∧q=k
  · obtain ⟨rfl,rfl⟩:=e
    simp only [and_self,if_pos];exact ⟨has_put_same h2 hkl _,fun v e z=>by cases e;exact atKey_put_same h2 hkl _ _⟩
  · simp only [if_neg e]
    exact ⟨(has_put_other (kq_ne hp hq hi hk e) _).trans (h3 p q hp hq).1,fun v e2 z=>(atKey_put_other (kq_ne hp hq hi hk e) _ _).trans ((h3 p q hp hq).2 v e2 z)⟩⟩ g2
 unfold Oper.wp;simp [execOp,hop,hm,hx,hv,hrun,Result.andThen];exact hf
def MpC (V:World)(G:Nat→Prop)(ar:List Tri) (ls:List (List Int)) (f:Nat→Nat→Option Value):Prop :=
 ∀ i k u,f i k=some u→∃ j l x A1 n1 c1 A2 n2 c2,i=j+1∧ls[j]?=some l∧(Qae ar l)[k]?=some x∧u=.agg #[.slice A1 n1 c1,.slice A2 n2 c2]∧RdI (msk V G) A1 n1 x.1∧RdI (msk V G) A2 n2 x.2
theorem MpC.le {V V':World}{G G':Nat→Prop}{ar:List Tri} {ls:List (List Int)} {f:Nat→Nat→Option Value} (h:MpC V G ar ls f) (hl:Le (msk V G) (msk V' G')):MpC V' G' ar ls f:=fun i k u hu=>by
 obtain ⟨j,l,x,A1,n1,c1,A2,n2,c2,h1,h2,h3,h4,h5,h6⟩:=h i k u hu;exact ⟨j,l,x,A1,n1,c1,A2,n2,c2,h1,h2,h3,h4,h5.le hl,h6.le hl⟩
theorem MpC.put {V:World}{G:Nat→Prop}{ar:List Tri} {ls:List (List Int)} {f:Nat→Nat→Option Value} (h:MpC V G ar ls f) {j k:Nat} {l:List Int} {x:Qao} {A1 A2:Option Addr} {n1 n2 c1 c2:Nat} (hl:ls[j]?=some l) (hx:(Qae ar l)[k]?=some x) (h1:RdI (msk V G) A1 n1 x.1) (h2:RdI (msk V G) A2 n2 x.2) :
 MpC V G ar ls (fun p q=>if p=j+1∧q=k then some (.agg #[.slice A1 n1 c1,.slice A2 n2 c2]) else f p q):=fun p q u hu=>by
 simp only at hu
 by_cases e:p=j+1∧q=k
 · rw [if_pos e] at hu
   cases hu
   obtain ⟨rfl,rfl⟩:=e;exact ⟨j,l,x,A1,n1,c1,A2,n2,c2,rfl,hl,hx,rfl,h1,h2⟩
 · rw [if_neg e] at hu
   exact h p q u hu
structure Nxw (mb:Nat) (w w':World):Prop where
 kept:Qbf (fun b=>b≠mb) w w'
 size:w.heap.size≤w'.heap.size
 bel:∀ B,B≤mb→Below B w w'
theorem Nxw.below {mb:Nat}{w w':World}(h:Below w.heap.size w w')(hm:mb<w.heap.size):Nxw mb w w':=⟨Qbf.below h,h.size,fun B hB=>h.mono (by omega)⟩
theorem Nxw.grown {mb:Nat}{w w':World} (h:w.grownBy w' (some mb)) (hm:mb<w.heap.size):Nxw mb w w':=⟨Qbf.grown h (fun _ hb e=>hb (by injection e with e;exact e.symm)),h.size,fun B hB=>⟨h.os,h.tape,h.output,h.size,fun k hk=>h.block k (by omega) (fun e2=>by injection e2;omega)⟩⟩
theorem Nxw.trans {mb:Nat}{a b c:World}(h:Nxw mb a b)(k:Nxw mb b c):Nxw mb a c:=⟨h.kept.trans k.kept h.size,Nat.le_trans h.size k.size,fun B hB=>(h.bel B hB).trans (k.bel B hB)⟩
def G2 (G:Nat→Prop)(w w':World):Nat→Prop:=fun b=>G b∨(w.heap.size≤b∧b<w'.heap.size)
theorem G2.le {G:Nat→Prop}{mb:Nat}{w w':World}(h:Nxw mb w w')(hG:¬G mb):Le (msk w G) (msk w' (G2 G w w')) :=
 (Qbf.msk (h.kept.mono (fun _ hb e=>hG (e▸hb)))).trans (Qbe (fun _ hb=>.inl hb))
theorem run_cutG {P:Program}(t e:TypeId) (ht:P.underlying t=some (.slice e)) (he:P.elem t=e) (hs:(P.info? e).map (·.size)=some 1) (A:Option Addr) (n c lo r:Nat) (hlo:lo+r≤c) (h0:0<r) (w:World) :
 (Instr.slice t (.slice A n c) (some (.int .i64 (lo:Int))) (some (.int .i64 ((lo:Int)+(r:Int)))) none).run P w=.ok (.slice (A.map (·.add lo)) r (c-lo)) w:=by
 rw [run_slice_lh (P:=P) w t A n c (by rw [he];exact ht) .i64 .i64 (lo:Int) ((lo:Int)+(r:Int)) (by omega) (by omega) (by omega),he];have e1:((lo:Int)).toNat=lo:=by omega
 have e2:((lo:Int)+(r:Int)).toNat=lo+r:=by omega
 have e3:¬c=lo:=by omega
 rw [e1,e2]
 cases hi:P.info? e with
 | none=>rw [hi] at hs;cases hs
 | some i =>
  rw [hi] at hs;simp at hs;simp [sizeOf,typeInfo,hi,Result.andThen,hs,sliced,e3]
theorem Qrz (A:Option Addr)(n c lo r:Nat)(hlo:lo+r≤c)(h0:0<r)(W:World):(Instr.slice 34 (.slice A n c) (some (.int .i64 (lo:Int))) (some (.int .i64 ((lo:Int)+(r:Int)))) none).run prog W=.ok (.slice (A.map (·.add lo)) r (c-lo)) W :=
 run_cutG 34 2 underlying34 (by kernel_rfl) (by kernel_rfl) A n c lo r hlo h0 W
theorem RdI.sub {w:World}{A:Option Addr}{n:Nat}{l:List Int}(h:RdI w A n l)(lo r:Nat)(hr:lo+r≤n):RdI w (A.map (·.add lo)) r ((l.drop lo).take r):=by
 refine ⟨by rw [List.length_take,List.length_drop,h.1];omega,fun i x hi=>?_⟩;have hir:i<r:=by have:=(Zs hi).1;rw [List.length_take] at this;omega
 rw [List.getElem?_take_of_lt hir,List.getElem?_drop] at hi;obtain ⟨b,o,rfl,hc⟩:=h.2 _ x hi;refine ⟨b,o+lo,?_,by rw [Nat.add_assoc];exact hc⟩;simp only [Option.map_some,Addr.add]
 split
 · rename_i h0;rw [show lo=0 by omega];rfl
 · rfl
theorem set_take {cs:List Int}{i n:Nat}{z:Int} (h:cs[i]?=some z) (hn:i<n) (hl:cs.length=n):(cs.take i ++List.replicate (n-i) 0).set i z=cs.take (i+1) ++List.replicate (n-(i+1)) 0:=by
 have hl2:(cs.take i).length=i:=by rw [List.length_take];omega
 rw [List.set_append_right _ _ (by rw [hl2];exact Zn _),hl2,Nat.sub_self,List.take_succ_eq_append_getElem (by omega),(Zs h).2];obtain ⟨m,hm⟩:∃ m,n-i=m+1:=⟨n-i-1,by omega⟩;rw [hm,show n-(i+1)=m by omega]
 simp [List.replicate_succ]
end Go.Proofs.YteaoiabikjnkeaaGreatDoor
namespace Go.Proofs.YteaoiabikjnkeaaGreatDoor
open Go.RowKit Go.Proofs.Tryz
attribute [local go_sem ↓] Go.wp_at_zero Go.wp_at_succ
theorem Own.rdM {w:World}{B n c:Nat}{e:TypeId}{A:Option Addr}{l:List Int}{G:Nat→Prop} (h:Own w B e 1 A n c (Qag l)) (hG:∀ b,B≤b→b<w.heap.size→G b):RdI (msk w G) A n l:=by
 have hr:=h.rds.rdI;refine ⟨hr.1,fun i x hi=>?_⟩;obtain ⟨b,o,rfl,hc⟩:=hr.2 i x hi;have:=h.lt b rfl;exact ⟨b,o,rfl,Qbd.2 ⟨hG b this.1 this.2,hc⟩⟩
theorem Blk.rdM {w:World}{g:Nat}{t:TypeId}{l:List Int}{G:Nat→Prop} (h:Blk w g t (Qbu l)) (hG:G g):RdI (msk w G) (some ⟨g,0,none⟩) l.length l :=
 ⟨rfl,fun i x hi=>⟨g,0,rfl,by rw [Nat.zero_add];exact Qbd.2 ⟨hG,h.cellI hi⟩⟩⟩
end Go.Proofs.YteaoiabikjnkeaaGreatDoor
