/- Parts of the proof: AsO, AsS, AsT. -/
import Derived.Test.YteaoiabikjnkeaaGreatDoorC1
import Derived.Test.YteaoiabikjnkeaaGreatDoorC11
import Derived.Test.YteaoiabikjnkeaaGreatDoorC12
import Derived.Test.YteaoiabikjnkeaaGreatDoorC17
import Derived.Test.YteaoiabikjnkeaaGreatDoorC20
namespace Go.Proofs.YteaoiabikjnkeaaGreatDoor
open Go.RowKit Tryz
attribute [local go_sem ↓] Go.wp_at_zero Go.wp_at_succ
theorem Own.rdM {w:World}{B n c:Nat}{e:TypeId}{A:Option Addr}{l:List Int}{G:Nat→Prop} (h:Own w B e 1 A n c (Qag l)) (hG:∀ b,B≤b→b<w.heap.size→G b):RdI (msk w G) A n l:=by
 have hr:=h.rds.rdI;refine ⟨hr.1,fun i x hi=>?_⟩;obtain ⟨b,o,rfl,hc⟩:=hr.2 i x hi;have:=h.lt b rfl;exact ⟨b,o,rfl,Qaz.2 ⟨hG b this.1 this.2,hc⟩⟩
theorem Blk.rdM {w:World}{g:Nat}{t:TypeId}{l:List Int}{G:Nat→Prop} (h:Blk w g t (Qcd l)) (hG:G g):RdI (msk w G) (some ⟨g,0,none⟩) l.length l :=
 ⟨rfl,fun i x hi=>⟨g,0,rfl,by rw [Nat.zero_add];exact Qaz.2 ⟨hG,h.cellI hi⟩⟩⟩
set_option maxHeartbeats 2000000 in
theorem next0_ok (w:World)(qb g o:Nat)(N:Qaq) (ls:List (List Int)) (s t:Nat) (CA:Option Addr) (NC cC:Nat) (cl:List Int) (Q:Option Addr) (L cq mb bb na a:Nat) (x:Tri) (h:QR w qb g o N ls s t CA NC cC cl Q L cq mb bb na) (hok:Qaw N) (hx:N.ar[a]?=some x) :
 Calls prog 124 #[.pointer (some ⟨qb,0,none⟩),.int .i64 0,.int .i64 a] w fun e w'=>∃ (O C:Option Addr) (nO cO cC':Nat),e=.returned (.tuple #[.slice O nO cO,.slice C nO cC']) ∧
  RdI (msk w' (fun b=>w.heap.size≤b∧b<w'.heap.size)) O nO (idx (·.1) N.ar x.2.1)∧RdI (msk w' (fun b=>w.heap.size≤b∧b<w'.heap.size)) C nO ((idx (·.1) N.ar x.2.1).map (fun b=>Qba N a b.toNat))∧nO≤16384∧Below w.heap.size w w':=by
 obtain ⟨u,v,e1,e2,hu,hv⟩:=Qfj hok hx;obtain ⟨os,hos⟩:∃ os,os=idx (·.1) N.ar x.2.1:=⟨_,rfl⟩;obtain ⟨no,hno⟩:∃ no,no=os.length:=⟨_,rfl⟩
 have hnl:no≤16384:=by
  rw [hno,hos];have:=Qgt (·.1) N.ar N.ar.length x.2.1;rw [List.take_length] at this;have:=hok.la;omega
 have HTO:=Zh (Qhi g a N x w h.gr hx);have HOU:=Zh (show Calls prog 177 #[.pointer (some ⟨g,0,none⟩),.int .i64 x.2.1] w fun e w'=>∃ A n c,e=.returned (.slice A n c)∧Own w' w.heap.size 3 1 A n c (Qag os)∧Below w.heap.size w w' by rw [hos,e2];exact Qsc g v N w h.gr hv)
 have HTN:=Zh (fun V (hV:Below w.heap.size w V) (b:Nat) (y:Tri) (hy:N.ar[b]?=some y)=>Qlq g a b N x y V (h.gr.below hV) hx hy)
 have HCL:=Zh (show ∀ i b,os[i]?=some b→∃ (n:Nat) (y:Tri),b=(n:Int)∧N.ar[n]?=some y from fun i b hb=>by
  rw [hos] at hb;obtain ⟨n,y,rfl,hy,_⟩:=Qhu.1 (Zm hb);exact ⟨n,y,rfl,hy⟩)
 rw [←hos];obtain ⟨cs,hcs⟩:∃ cs,cs=os.map (fun b=>Qba N a b.toNat):=⟨_,rfl⟩;rw [←hcs];have HCS:=Zh (show ∀ i n,os[i]?=some ((n:Nat):Int)→cs[i]?=some (Qba N a n) from fun i n hb=>by rw [hcs,List.getElem?_map,hb];simp)
 have HLC:=Zh (show cs.length=no by rw [hcs,List.length_map,hno])
 have HNO:=Zh hno;have HQ:=Zh (show ∀ V,Below w.heap.size w V→V.cell? ⟨qb,0,none⟩=some (.pointer (some ⟨g,0,none⟩)) from fun V hV=>(h.below hV).q0)
 have q0:=h.q0;have hmk:=Qft no (by omega);clear h hok hx hos hno hcs e1 e2 hu hv
 go_enter func124,ntmps124
 go_wp2_with fail
 with_reducible refine HTO.out.mono ?_
 rintro r w' ⟨rfl,rfl⟩
 go_wp2_with fail
 with_reducible refine HOU.out.mono ?_
 rintro r w1 ⟨O,nO,cO,rfl,hO,hb1⟩;obtain rfl:no=nO:=by rw [HNO.out];exact hO.rds.rdI.1
 have HO:=Zh hO;have HB1:=Zh hb1;clear hO hb1 q0
 go_wp2_with fail
 (refine Qaj ?_;intro w2 hw2)
 have hb2:Below w1.heap.size w1 w2:=by rw [hw2];exact Qah
 have hC2:Blk w2 w1.heap.size 2 (Qcd (cs.take 0 ++List.replicate (no-0) 0)):=by rw [hw2,List.take_zero,List.nil_append,Nat.sub_zero,←Qcz];exact Qbf
 have HC2:=Zh hC2;have HB2:=Zh hb2;clear hw2 hC2 hb2
 go_loopw [37] (fun uk V=>∃ kk:Nat,kk≤no∧uk=.int .i64 kk∧Below w1.heap.size w1 V∧Blk V w1.heap.size 2 (Qcd (cs.take kk ++List.replicate (no-kk) 0))) (fun uk _=>no-(intOf uk).toNat)
 case atStart=>exact ⟨0,Nat.zero_le _,rfl,HB2.out,HC2.out⟩
 case round =>
  clear HC2 HB2;obtain ⟨kk,hkk,rfl,hb,hC⟩:=hrel;have HB:=Zh hb;have HC:=Zh hC;have hlt1:=hC.lt
  by_cases hlt:kk<no
  rotate_left
  · obtain rfl:kk=no:=by omega
    have j2:¬((kk:Int)<(kk:Int)):=by omega
    clear hb hC
    go_wp2_with fail
    refine bodyPost_ret (v:=.tuple #[.slice O kk cO,.slice (some ⟨w1.heap.size,0,none⟩) kk kk]) (by simp [results,results124,go_sem]) rfl ?_;refine ⟨O,_,kk,⟨cO,kk,rfl⟩,(HO.out.below HB.out).rdM (fun _ h1 h2=>⟨h1,h2⟩),?_,hnl,Zb HB1.out HB.out⟩;have hC:=HC.out;rw [Nat.sub_self,List.replicate_zero,List.append_nil,List.take_of_length_le (by rw [HLC.out];exact Zn _)] at hC;have:=hC.rdM (G:=fun b=>w.heap.size≤b∧b<wr.heap.size) ⟨HB1.out.size,hlt1⟩
    rwa [HLC.out] at this
  · have j2:(kk:Int)<(no:Int):=by omega
    have j3:(0:Int)≤(kk:Int):=by omega
    obtain ⟨ob,oo,z,rfl,hz,c1⟩:=(HO.out.below hb).rds.rdI.at_ hlt;obtain ⟨b,y,rfl,hy⟩:=HCL.out kk z hz;have HY:=Zh hy;have HZ:=Zh (HCS.out kk b hz);have q0:=HQ.out wr (Zb HB1.out hb);have HT:=Zh (HTN.out wr (Zb HB1.out hb) b y hy);clear hb hC hz hy
    go_wp2_with fail
    with_reducible refine HT.out.mono ?_
    rintro r w3 ⟨rfl,hb3⟩;have HB3:=Zh (Zb HB.out hb3);have HC3:=Zh (HC.out.below hb3 hlt1);have hfr:=HC3.out.frozen kk;have HC4:=Zh (HC3.out.setI (set_take HZ.out hlt HLC.out));have HB4:=Zh (Bel.setCell_ (o:=kk) (u:=.int .i64 (Qba N a b)) HB3.out (Zn _))
    have d0:w3.cell? ⟨w1.heap.size,kk,none⟩=some (.int .i64 0):=HC3.out.cellI (by
     rw [List.getElem?_append_right (by rw [List.length_take,HLC.out];omega),List.length_take,HLC.out,Nat.min_eq_left (by omega),Nat.sub_self,List.getElem?_replicate,if_pos (by omega)])
    clear hb3 c1 q0
    go_wp2_with fail
    go_roundw
    case rel=>exact ⟨kk+1,by omega,by go_num,HB4.out,HC4.out⟩
    case measure=>simp [intOf];omega
def NxtR (w:World)(G:Nat→Prop)(mb n:Nat)(N:Qaq) (ls:List (List Int)) (av:List Int) (a:Nat) (r:Ending) (w':World):Prop :=
 ∃ (O C:Option Addr) (nO cO cC n':Nat) (os cs:List Int) (f':Nat→Nat→Option Value),r=.returned (.tuple #[.slice O nO cO,.slice C nO cC])∧NxtP N ls av a os cs∧RdI (msk w' (G2 G w w')) O nO os∧RdI (msk w' (G2 G w w')) C nO cs ∧
  MpQ w' mb n' f'∧n'≤n+1∧MpC w' (G2 G w w') N.ar ls f'∧Nxw mb w w'∧nO≤16384
theorem G2.more {G:Nat→Prop}{w V V':World}(h:Below V.heap.size V V'):Le (msk V (G2 G w V)) (msk V' (G2 G w V')) :=
 (Qbk.msk (Qbk.below h)).trans (Qbn (fun _ hb=>hb.imp id (fun h1=>⟨h1.1,Nat.lt_of_lt_of_le h1.2 h.size⟩)))
set_option maxRecDepth 20000 in
set_option maxHeartbeats 2000000 in
theorem next1_ok (w:World)(qb g o:Nat)(N:Qaq) (ls:List (List Int)) (s t:Nat) (CA:Option Addr) (NC cC:Nat) (cl:List Int) (Q:Option Addr) (L cq mb bb na a J j:Nat) (y:Tri) (av:List Int) (G:Nat→Prop) (n:Nat) (f:Nat→Nat→Option Value) (h:QR (msk w G) qb g o N ls s t CA NC cC cl Q L cq mb bb na) (hGm:¬G mb) 
 (hm:MpQ w mb n f) (hn:n≤1000000) (hmc:MpC w G N.ar ls f) (hok:Qaw N) (hP:Qay N.vs.length ls) (hA:Qdh N ls cl) (hcc:NC≤cC∧cC≤9223372036854775807) (hSm:Qbv (Qae N.ar ls)≤1000000000) (hy:N.ar[a]?=some y) (hg:Qxd N ls av a) (hJ:Qfi ls (toV N a) av=J) (hj:J=j+1) :
 Calls prog 124 #[.pointer (some ⟨qb,0,none⟩),.int .i64 J,.int .i64 a] w (NxtR w G mb n N ls av a):=by
 obtain ⟨l,hl,_⟩:=Qdf (hJ.trans hj);have hlv:=hP.lvl l (Zm hl);have hgd:=hg j l y (hJ.trans hj) hl hy;obtain ⟨_,v,_,e2,_,hv⟩:=Qfj hok hy;obtain ⟨c,hc,hcm,hcv⟩:=Qdj hlv hv;rw [←e2] at hc;obtain ⟨x,hx⟩:∃ x,(Qaf N.ar l)[c]?=some x:=⟨_,Zg (by rw [Qat];exact hcm)⟩;obtain ⟨i,hi⟩:=List.getElem?_of_mem ((Qdb hx).2 ⟨y,hy,by rw [←hc];exact hgd,hc⟩);have HNX:=Zh (Qvk hok hA (hJ.trans hj) hl hy hgd hc hx hi);have hL6:=hP.l6;have hlen:=hlv.len;have hvs:=hok.lv;have hil:=(Zs hi).1;have hll:=(Zs hl).1;have HQ:=Zh (show ∀ V,Nxw mb w V→QR V qb g o N ls s t CA NC cC cl Q L cq mb bb na from fun V hV=>h.le ((G2.le hV hGm).trans (Qbj _ _)))
 have HG2:=Zh (show ∀ V,Nxw mb w V→Le (msk w G) (msk V (G2 G w V)) from fun V hV=>G2.le hV hGm)
 have HMQ:=Zh hm;have HMC:=Zh hmc;have HCL:=Zh h.costs;have HCC:=Zh hcc;have HTO:=Zh (Qhi g a N y w (h.gr.le (Qbj _ _)) hy);rw [e2] at HTO;have HGT:=Zh (fun V (hV:Nxw mb w V)=>Qhn o j c N.ar ls l x V (h.ov.le ((G2.le hV hGm).trans (Qbj _ _))) hl (by omega) hx (by have:=hok.la;omega));have HFR:=Zh (fun V (hV:Nxw mb w V)=>Qxa o j c i N ls l x V (h.ov.le ((G2.le hV hGm).trans (Qbj _ _))) hl hx hil (by omega) hSm);have HSO:=Zh (Qeg hx);have HPI:=Zh (Qeq HSO.out hi);have hgl:=Qbl hx;have hla:=hok.la;have HGL:=Zh (show x.1.length≤16384∧x.2.length≤16384 by omega)
 have hq:=(h.le (Qbj _ _));have q0:=hq.q0;have q5:=hq.q5;have q6:=hq.q6;obtain ⟨qb2,qo2,A0,n0,c0,l0,rfl,hl0,k0,k1,_,_⟩:=hq.part.at_ (i:=j) (by have:=hq.part.1;omega);rw [hl] at hl0
 cases hl0
 obtain ⟨kb,ko,z,rfl,hz,k2⟩:=k1.at_ (i:=v) (by rw [←k1.1];omega);rw [hcv] at hz
 cases hz
 have hLL:L=ls.length:=hq.part.1.symm;have hn0:n0=N.vs.length:=by rw [←k1.1];exact hlen
 have m1:(J:Int)-1=(j:Int):=by omega
 have m2:(0:Int)≤(j:Int):=by omega
 have m3:(j:Int)<(L:Int):=by omega
 have m4:(0:Int)≤(v:Int):=by omega
 have m5:(v:Int)<(n0:Int):=by omega
 have m6:((J:Int) == 0)=false:=by simp;omega
 have m7:(j:Int)+1=(J:Int):=by omega
 simp only [m7] at HGT HFR;have wl:IntKind.i64.wrap (j:Int)=(j:Int):=IntWalk.i64_in _ (by omega);have HX0:=Zh (show Nxw mb w w from Nxw.below (Zr _ _) hm.lt)
 have HJ:=Zh hj;have HJL:=Zh (show J≤1000000000000∧c≤1000000000000 by have:=hlv.hi _ (Zm hcv);omega)
 have HL:=Zh hl;have HX:=Zh hx;have HI:=Zh hi;clear h hGm hmc hok hP hA hSm hy hg hJ hl hlv hgd hc hcm hcv hx hi hq k1 e2 hgl hla hlen hvs hj hcc hm hLL hn0 m7 hil hll hL6
 go_enter func124,ntmps124
 go_wp2_with fail
 with_reducible refine HTO.out.mono ?_
 rintro r w' ⟨rfl,rfl⟩
 cases hf:f J c with
 | some u =>
  obtain ⟨j',l',x',A1,n1,c1,A2,n2,c2,ej,hl',hx',rfl,hr1,hr2⟩:=HMC.out J c u hf;obtain rfl:j=j':=by have:=HJ.out;omega
  rw [HL.out] at hl'
  cases hl'
  rw [HX.out] at hx'
  cases hx'
  have HR1:=Zh hr1;have HR2:=Zh hr2;clear ej hr1 hr2
  go_wp2_with (at_lookup;with_reducible refine Qvw rfl _ _ rfl J c rfl HMQ.out rfl HJL.out.1 HJL.out.2 ?_)
  (refine Qad ?_;intro w6 hw6)
  have hb6:Below w.heap.size w w6:=by rw [hw6];exact Qah
  have HC6:=Zh (show Blk w6 w.heap.size 164 #[.slice A1 n1 c1,.slice A2 n2 c2] by rw [hw6];exact Blk.new _ _ _)
  have HX6:=Zh (Nxw.below hb6 HMQ.out.lt);have HMV:=Zh (HMQ.out.below hb6);have HNN:=Zh (show n≤n+1 by omega)
  have HMCV:=Zh (HMC.out.le (HG2.out w6 HX6.out));have HR1:=Zh (HR1.out.le (HG2.out w6 HX6.out));have HR2:=Zh (HR2.out.le (HG2.out w6 HX6.out));clear hw6 hb6 hf;have hq6:=HQ.out w6 HX6.out;have q1:=hq6.q1;have z0:w6.cell? ⟨w.heap.size,0,none⟩=some (.slice A1 n1 c1):=Zq HC6.out;have HPL:=Zh (Qes A1 n1 c1 x.1 (a:Int) w6 (HR1.out.le (Qbj _ _)) HSO.out (by rw [←HR1.out.1];have:=HGL.out.1;omega));rw [HPI.out] at HPL;clear hq6;with_reducible refine HPL.out.mono ?_
  rintro r w7 ⟨rfl,hb7⟩;have HX7:=Zh (HX6.out.trans (Nxw.below hb7 HMV.out.lt));have HB7:=Zh hb7;have q1:=(HQ.out w7 HX7.out).q1;have HAT:=Zh (HFR.out w7 HX7.out);have w0:¬((i:Int)<0):=by omega
  clear z0 hb7
  by_cases hn0:x.2.length=0
  · have hfr:Qol (Qae N.ar ls) (Qaf N.ar l) j c x i = -1:=by unfold Qol;rw [if_pos hn0]
    rw [hfr] at HAT;have HN0:=Zh hn0;clear hfr hn0
    go_wp2_with fail
    with_reducible refine HAT.out.mono ?_
    rintro r w8 ⟨rfl,hb8⟩;have HB8:=Zh (Zb HB7.out hb8);clear hb8 q1
    go_wp2_with fail
    refine wp_region_held_drew (S:=fun V=>V=w8.drew) (by kernel_rfl) rfl (fun _=>?_);refine tz 0 106 ?_;refine tz 1 107 ?_;refine tz 2 108 ?_;refine tz 3 109 ?_;refine tz 4 110 ?_;refine tz 5 111 ?_;refine tz 6 112 ?_;refine tw 7 113 ?_;refine tw 8 114 ?_;refine tw 9 115 ?_;refine tw 10 116 ?_;refine tw 11 117 ?_;refine tw 12 118 ?_;refine tw 13 119 ?_;refine tw 14 120 ?_;refine tw 15 121 ?_;refine tw 16 122 ?_;refine tw 17 123 ?_;refine tz 18 124 ?_;refine Zd ?_;obtain ⟨v9,hv9⟩:∃ V,V=w8.drew:=⟨_,rfl⟩;rw [←hv9];have HB9:=Zh (show Below w6.heap.size w6 v9 by rw [hv9];exact HB8.out.drew)
    clear hv9
    go_wp2_with fail
    refine bodyPost_ret (v:=.tuple #[.slice none 0 0,.slice none 0 0]) (by simp [results,results124,go_sem]) rfl ?_;have hx2:x.2=[]:=List.eq_nil_of_length_eq_zero HN0.out;have hnx:=HNX.out;rw [hx2] at hnx;exact ⟨none,none,0,0,0,n,[],_,f,rfl,hnx,⟨rfl,fun i x h=>by simp at h⟩,⟨by simp,fun i x h=>by simp at h⟩,HMV.out.below HB9.out,HNN.out,HMCV.out.le (G2.more HB9.out),HX6.out.trans (Nxw.below HB9.out HMV.out.lt),by omega⟩
  · obtain ⟨e0,he0⟩:∃ e0,e0=Qgb (Qae N.ar ls) (Qaf N.ar l) j c x i 0:=⟨_,rfl⟩
    have hfr:Qol (Qae N.ar ls) (Qaf N.ar l) j c x i=(e0:Int):=by unfold Qol;rw [if_neg hn0,he0]
    rw [hfr] at HAT;have HNX2:=Zh HNX.out;rw [←he0] at HNX2;have hn2:n2=x.2.length:=HR2.out.1.symm;have hlen2:=HNX2.out.len;rw [List.length_take,List.length_drop,HCL.out.1] at hlen2;have hbd:e0+n2≤NC∧0<n2∧n2≤16384:=by have:=HGL.out;omega
    have hcx:=HCC.out;have HCT:=Zh (Qsb CA NC cC e0 n2 (by omega) hbd.2.1);have HBD:=Zh hbd;have w1:¬((e0:Int)<0):=by omega
    have w2:¬((NC:Int)<(e0:Int)+(n2:Int)):=by omega
    have w3:decide ((i:Int)<0)=false:=by simp
    have w4:decide ((e0:Int)<0)=false:=by simp
    have w5:decide ((NC:Int)<(e0:Int)+(n2:Int))=false:=by simp;omega
    have HWR:=Zh (show IntKind.i64.wrap ((e0:Int)+(n2:Int))=(e0:Int)+(n2:Int) from IntWalk.i64_in _ (by omega))
    have hwr:=HWR.out;have hct:=HCT.out;have HN2:=Zh hn2;clear hfr he0 hn0 hn2 hlen2 hbd hcx
    go_wp2_with fail
    with_reducible refine HAT.out.mono ?_
    rintro r w8 ⟨rfl,hb8⟩;have HX8:=Zh (HX7.out.trans (Nxw.below hb8 (Nat.lt_of_lt_of_le HMV.out.lt HB7.out.size)));have HB8:=Zh (Zb HB7.out hb8);have HC8:=Zh (HC6.out.below HB8.out HC6.out.lt);have HSX:=Zh (show ∀ V,Below w8.heap.size w8 V→V.cell? ⟨qb,2,none⟩=some (.slice CA NC cC)∧V.cell? ⟨w.heap.size,1,none⟩=some (.slice A2 n2 c2) from fun V hV=>⟨Zc hV (Zn _) (HQ.out w8 HX8.out).q2,Zc hV (Zn _) (Zq HC8.out)⟩)
    clear hb8 q1
    go_wp2_with fail
    refine wp_region_held_drew (S:=fun V=>Below w8.heap.size w8 V) (by kernel_rfl) (Zr _ _).drew (fun _=>?_);refine tz 0 106 ?_;refine tz 1 107 ?_;refine tz 2 108 ?_;refine tz 3 109 ?_;refine tz 4 110 ?_;refine tz 5 111 ?_;refine tz 6 112 ?_;refine tz 7 113 ?_;refine tz 8 114 ?_;refine tz 9 115 ?_;refine tz 10 116 ?_;refine tz 11 117 ?_;refine tz 12 118 ?_;refine tz 13 119 ?_;refine tz 14 120 ?_;refine tz 15 121 ?_;refine tz 16 122 ?_;refine tz 17 123 ?_;refine tz 18 124 ?_;refine Zd ?_
    go_wp2_with fail
    refine wp_region_held_drew (S:=fun V=>Below w8.heap.size w8 V) (by kernel_rfl) (Zr _ _).drew.drew (fun _=>?_);refine tz 0 125 ?_;refine tz 1 126 ?_;refine tz 2 127 ?_;refine tz 3 128 ?_;refine tz 4 129 ?_;refine tz 5 130 ?_;refine tz 6 131 ?_;refine tz 7 132 ?_;refine tz 8 133 ?_;refine tz 9 134 ?_;refine tz 10 135 ?_;refine tz 11 136 ?_;refine tz 12 137 ?_;refine tz 13 6 ?_;refine tz 14 7 ?_;refine Zd ?_;obtain ⟨v9,hv9⟩:∃ V,V=w8.drew.drew:=⟨_,rfl⟩;rw [←hv9];have HB9:=Zh (show Below w6.heap.size w6 v9 by rw [hv9];exact HB8.out.drew.drew)
    clear hv9
    go_wp2_with fail
    refine bodyPost_ret (v:=.tuple #[.slice A2 n2 c2,.slice (CA.map (·.add e0)) n2 (cC-e0)]) (by simp [results,results124,go_sem]) rfl ?_;have hcl:=HCL.out.sub e0 n2 HBD.out.1;rw [HN2.out] at hcl;refine ⟨A2,_,n2,c2,_,n,x.2,_,f,rfl,HNX2.out,HR2.out.le (G2.more HB9.out),?_,HMV.out.below HB9.out,HNN.out,HMCV.out.le (G2.more HB9.out),HX6.out.trans (Nxw.below HB9.out HMV.out.lt),HBD.out.2.2⟩;rw [HN2.out];exact hcl.le (HG2.out v9 (HX6.out.trans (Nxw.below HB9.out HMV.out.lt)))
 | none =>
  have q1:=(HQ.out w HX0.out).q1;have hqb:qb<w.heap.size:=Qal q1
  go_wp2_with (at_lookup;with_reducible refine Qvw rfl _ _ rfl J c rfl HMQ.out rfl HJL.out.1 HJL.out.2 ?_)
  (refine Qad ?_;intro w6 hw6)
  have hb6:Below w.heap.size w w6:=by rw [hw6];exact Qah
  have hC6:Blk w6 w.heap.size 164 #[.slice none 0 0,.slice none 0 0]:=by rw [hw6];exact Blk.new _ _ _
  have HX6:=Zh (Nxw.below hb6 HMQ.out.lt);clear hw6 hf q1;with_reducible refine (HGT.out w6 HX6.out).mono ?_
  rintro r w7 ⟨A1,n1,c1,A2,n2,c2,rfl,ho1,ho2,hb7⟩;have hC7:=hC6.below hb7 hC6.lt;obtain ⟨z0,z1,f0,f1⟩:=hC7.two;have HO1:=Zh ((ho1.far (Qaa w7 w.heap.size 0 (.slice A1 n1 c1)) (.inr (ho1.ne hC6.lt))).far (Qaa _ w.heap.size 1 (.slice A2 n2 c2)) (.inr (ho1.ne hC6.lt)));have HO2:=Zh ((ho2.far (Qaa w7 w.heap.size 0 (.slice A1 n1 c1)) (.inr (ho2.ne hC6.lt))).far (Qaa _ w.heap.size 1 (.slice A2 n2 c2)) (.inr (ho2.ne hC6.lt)));have HB7:=Zh (Bel.setCell_ (o:=1) (u:=.slice A2 n2 c2) (Bel.setCell_ (o:=0) (u:=.slice A1 n1 c1) (Zb hb6 hb7) (Zn _)) (Zn _));have HC7:=Zh ((hC7.set_ 0 (.slice A1 n1 c1)).set_ 1 (.slice A2 n2 c2));have HZ6:=Zh (show w.heap.size≤w6.heap.size from hb6.size)
  clear ho1 ho2 hC6 hC7 hb6 hb7
  go_wp2_with fail
  (refine Qaj ?_;intro w8 hw8)
  have hb8:Below w.heap.size w w8:=by rw [hw8];exact HB7.out
  have HC8:=Zh (show Blk w8 w.heap.size 164 #[.slice A1 n1 c1,.slice A2 n2 c2] by rw [hw8];exact HC7.out)
  have HO1:=Zh (show Own w8 w6.heap.size 3 1 A1 n1 c1 (Qag x.1) by rw [hw8];exact HO1.out)
  have HO2:=Zh (show Own w8 w6.heap.size 3 1 A2 n2 c2 (Qag x.2) by rw [hw8];exact HO2.out)
  have HB8:=Zh hb8;have HX8:=Zh (Nxw.below hb8 HMQ.out.lt);clear hw8 hb8 HB7 HC7;have x6:=(HQ.out w8 HX8.out).q6;have z0:w8.cell? ⟨w.heap.size,0,none⟩=some (.slice A1 n1 c1):=Zq HC8.out;have z1:w8.cell? ⟨w.heap.size,1,none⟩=some (.slice A2 n2 c2):=Zq HC8.out;refine Qbp 8 (S:=fun V=>V.cell? ⟨qb,6,none⟩=some (.map (some mb))∧V.cell? ⟨w.heap.size,0,none⟩=some (.slice A1 n1 c1)∧V.cell? ⟨w.heap.size,1,none⟩=some (.slice A2 n2 c2)) (by kernel_rfl) ⟨x6,z0,z1⟩ (fun _=>?_);refine tkK 0 86 (h:=⟨_,tv,?_⟩);simp only [pE,List.set];refine tkK 1 87 (h:=⟨_,tv,?_⟩);simp only [pE,List.set];refine tkK 2 88 (h:=⟨_,tv,?_⟩);simp only [pE,List.set];refine tkK 3 89 (h:=⟨_,tv,?_⟩);simp only [pE,List.set];refine tkK 4 90 (h:=⟨_,tv,?_⟩);simp only [pE,List.set];refine tkK 5 91 (h:=⟨_,tv,?_⟩);simp only [pE,List.set];refine tkK 6 92 (h:=⟨_,tv,?_⟩);simp only [pE,List.set];refine tkK 7 93 (h:=⟨_,tv,?_⟩);simp only [pE,List.set];have hmq8:MpQ w8.drew mb n f:=(HMQ.out.below HB8.out).at_ rfl;refine Qcc (k:=8) (by kernel_rfl) rfl (fun K hK=>?_);refine (if_pos (by rfl)).mpr ?_;refine Qqq _ _ _ rfl J c _ rfl hmq8 (by omega) rfl rfl HJL.out.1 HJL.out.2 (fun w9 hm9 hg9=>?_);refine hK.out _ _ ?_;clear hK K;refine Qby (by kernel_rfl) ?_ _;clear x6 z0 z1 hmq8;have hX8:Nxw mb w w8.drew:=Nxw.below HB8.out.drew HMQ.out.lt;have HX9:=Zh (hX8.trans (Nxw.grown hg9 (Nat.lt_of_lt_of_le HMQ.out.lt HB8.out.size)));have hC8:Blk w8.drew w.heap.size 164 #[.slice A1 n1 c1,.slice A2 n2 c2]:=HC8.out;have HC9:=Zh (hC8.grown hg9 (fun e=>by have:=HMQ.out.lt;cases e;omega))
  have ho1:Own w8.drew w6.heap.size 3 1 A1 n1 c1 (Qag x.1):=HO1.out;have ho2:Own w8.drew w6.heap.size 3 1 A2 n2 c2 (Qag x.2):=HO2.out;have hmb6:mb<w6.heap.size:=Nat.lt_of_lt_of_le HMQ.out.lt HZ6.out
  have HR1:=Zh (show RdI (msk w9 (G2 G w w9)) A1 n1 x.1 from (ho1.far hg9 (.inr (ho1.ne hmb6))).rdM (fun b h1 h2=>.inr ⟨Nat.le_trans HZ6.out h1,h2⟩))
  have HR2:=Zh (show RdI (msk w9 (G2 G w w9)) A2 n2 x.2 from (ho2.far hg9 (.inr (ho2.ne hmb6))).rdM (fun b h1 h2=>.inr ⟨Nat.le_trans HZ6.out h1,h2⟩))
  have HMV:=Zh hm9;have HNN:=Zh (show n+1≤n+1 from Zn _)
  have hput:=(HMC.out.le (HG2.out w9 HX9.out)).put (c1:=c1) (c2:=c2) HL.out HX.out HR1.out HR2.out;rw [←HJ.out] at hput;have HMCV:=Zh hput;clear hput ho1 ho2 hmb6 hC8 hX8 hg9 hm9 HX8 HC8 HO1 HO2 HB8 HX6;have z0:w9.cell? ⟨w.heap.size,0,none⟩=some (.slice A1 n1 c1):=Zq HC9.out;have HX6:=HX9;have HC6:=HC9;clear HX9 HC9
  go_wp2_with fail
  clear z0;have hq6:=HQ.out w9 HX6.out;have q1:=hq6.q1;have z0:w9.cell? ⟨w.heap.size,0,none⟩=some (.slice A1 n1 c1):=Zq HC6.out;have HPL:=Zh (Qes A1 n1 c1 x.1 (a:Int) w9 (HR1.out.le (Qbj _ _)) HSO.out (by rw [←HR1.out.1];have:=HGL.out.1;omega));rw [HPI.out] at HPL;clear hq6;with_reducible refine HPL.out.mono ?_
  rintro r w7 ⟨rfl,hb7⟩;have HX7:=Zh (HX6.out.trans (Nxw.below hb7 HMV.out.lt));have HB7:=Zh hb7;have q1:=(HQ.out w7 HX7.out).q1;have HAT:=Zh (HFR.out w7 HX7.out);have w0:¬((i:Int)<0):=by omega
  clear z0 hb7
  by_cases hn0:x.2.length=0
  · have hfr:Qol (Qae N.ar ls) (Qaf N.ar l) j c x i = -1:=by unfold Qol;rw [if_pos hn0]
    rw [hfr] at HAT;have HN0:=Zh hn0;clear hfr hn0
    go_wp2_with fail
    with_reducible refine HAT.out.mono ?_
    rintro r w8 ⟨rfl,hb8⟩;have HB8:=Zh (Zb HB7.out hb8);clear hb8 q1
    go_wp2_with fail
    refine wp_region_held_drew (S:=fun V=>V=w8.drew) (by kernel_rfl) rfl (fun _=>?_);refine tz 0 106 ?_;refine tz 1 107 ?_;refine tz 2 108 ?_;refine tz 3 109 ?_;refine tz 4 110 ?_;refine tz 5 111 ?_;refine tz 6 112 ?_;refine tw 7 113 ?_;refine tw 8 114 ?_;refine tw 9 115 ?_;refine tw 10 116 ?_;refine tw 11 117 ?_;refine tw 12 118 ?_;refine tw 13 119 ?_;refine tw 14 120 ?_;refine tw 15 121 ?_;refine tw 16 122 ?_;refine tw 17 123 ?_;refine tz 18 124 ?_;refine Zd ?_;obtain ⟨v9,hv9⟩:∃ V,V=w8.drew:=⟨_,rfl⟩;rw [←hv9];have HB9:=Zh (show Below w9.heap.size w9 v9 by rw [hv9];exact HB8.out.drew)
    clear hv9
    go_wp2_with fail
    refine bodyPost_ret (v:=.tuple #[.slice none 0 0,.slice none 0 0]) (by simp [results,results124,go_sem]) rfl ?_;have hx2:x.2=[]:=List.eq_nil_of_length_eq_zero HN0.out;have hnx:=HNX.out;rw [hx2] at hnx;exact ⟨none,none,0,0,0,(n+1),[],_,(fun p q=>if p=J∧q=c then some (.agg #[.slice A1 n1 c1,.slice A2 n2 c2]) else f p q),rfl,hnx,⟨rfl,fun i x h=>by simp at h⟩,⟨by simp,fun i x h=>by simp at h⟩,HMV.out.below HB9.out,HNN.out,HMCV.out.le (G2.more HB9.out),HX6.out.trans (Nxw.below HB9.out HMV.out.lt),by omega⟩
  · obtain ⟨e0,he0⟩:∃ e0,e0=Qgb (Qae N.ar ls) (Qaf N.ar l) j c x i 0:=⟨_,rfl⟩
    have hfr:Qol (Qae N.ar ls) (Qaf N.ar l) j c x i=(e0:Int):=by unfold Qol;rw [if_neg hn0,he0]
    rw [hfr] at HAT;have HNX2:=Zh HNX.out;rw [←he0] at HNX2;have hn2:n2=x.2.length:=HR2.out.1.symm;have hlen2:=HNX2.out.len;rw [List.length_take,List.length_drop,HCL.out.1] at hlen2;have hbd:e0+n2≤NC∧0<n2∧n2≤16384:=by have:=HGL.out;omega
    have hcx:=HCC.out;have HCT:=Zh (Qsb CA NC cC e0 n2 (by omega) hbd.2.1);have HBD:=Zh hbd;have w1:¬((e0:Int)<0):=by omega
    have w2:¬((NC:Int)<(e0:Int)+(n2:Int)):=by omega
    have w3:decide ((i:Int)<0)=false:=by simp
    have w4:decide ((e0:Int)<0)=false:=by simp
    have w5:decide ((NC:Int)<(e0:Int)+(n2:Int))=false:=by simp;omega
    have HWR:=Zh (show IntKind.i64.wrap ((e0:Int)+(n2:Int))=(e0:Int)+(n2:Int) from IntWalk.i64_in _ (by omega))
    have hwr:=HWR.out;have hct:=HCT.out;have HN2:=Zh hn2;clear hfr he0 hn0 hn2 hlen2 hbd hcx
    go_wp2_with fail
    with_reducible refine HAT.out.mono ?_
    rintro r w8 ⟨rfl,hb8⟩;have HX8:=Zh (HX7.out.trans (Nxw.below hb8 (Nat.lt_of_lt_of_le HMV.out.lt HB7.out.size)));have HB8:=Zh (Zb HB7.out hb8);have HC8:=Zh (HC6.out.below HB8.out HC6.out.lt);have HSX:=Zh (show ∀ V,Below w8.heap.size w8 V→V.cell? ⟨qb,2,none⟩=some (.slice CA NC cC)∧V.cell? ⟨w.heap.size,1,none⟩=some (.slice A2 n2 c2) from fun V hV=>⟨Zc hV (Zn _) (HQ.out w8 HX8.out).q2,Zc hV (Zn _) (Zq HC8.out)⟩)
    clear hb8 q1
    go_wp2_with fail
    refine wp_region_held_drew (S:=fun V=>Below w8.heap.size w8 V) (by kernel_rfl) (Zr _ _).drew (fun _=>?_);refine tz 0 106 ?_;refine tz 1 107 ?_;refine tz 2 108 ?_;refine tz 3 109 ?_;refine tz 4 110 ?_;refine tz 5 111 ?_;refine tz 6 112 ?_;refine tz 7 113 ?_;refine tz 8 114 ?_;refine tz 9 115 ?_;refine tz 10 116 ?_;refine tz 11 117 ?_;refine tz 12 118 ?_;refine tz 13 119 ?_;refine tz 14 120 ?_;refine tz 15 121 ?_;refine tz 16 122 ?_;refine tz 17 123 ?_;refine tz 18 124 ?_;refine Zd ?_
    go_wp2_with fail
    refine wp_region_held_drew (S:=fun V=>Below w8.heap.size w8 V) (by kernel_rfl) (Zr _ _).drew.drew (fun _=>?_);refine tz 0 125 ?_;refine tz 1 126 ?_;refine tz 2 127 ?_;refine tz 3 128 ?_;refine tz 4 129 ?_;refine tz 5 130 ?_;refine tz 6 131 ?_;refine tz 7 132 ?_;refine tz 8 133 ?_;refine tz 9 134 ?_;refine tz 10 135 ?_;refine tz 11 136 ?_;refine tz 12 137 ?_;refine tz 13 6 ?_;refine tz 14 7 ?_;refine Zd ?_;obtain ⟨v9,hv9⟩:∃ V,V=w8.drew.drew:=⟨_,rfl⟩;rw [←hv9];have HB9:=Zh (show Below w9.heap.size w9 v9 by rw [hv9];exact HB8.out.drew.drew)
    clear hv9
    go_wp2_with fail
    refine bodyPost_ret (v:=.tuple #[.slice A2 n2 c2,.slice (CA.map (·.add e0)) n2 (cC-e0)]) (by simp [results,results124,go_sem]) rfl ?_;have hcl:=HCL.out.sub e0 n2 HBD.out.1;rw [HN2.out] at hcl;refine ⟨A2,_,n2,c2,_,(n+1),x.2,_,(fun p q=>if p=J∧q=c then some (.agg #[.slice A1 n1 c1,.slice A2 n2 c2]) else f p q),rfl,HNX2.out,HR2.out.le (G2.more HB9.out),?_,HMV.out.below HB9.out,HNN.out,HMCV.out.le (G2.more HB9.out),HX6.out.trans (Nxw.below HB9.out HMV.out.lt),HBD.out.2.2⟩;rw [HN2.out];exact hcl.le (HG2.out v9 (HX6.out.trans (Nxw.below HB9.out HMV.out.lt)))
def RunP (N:Qaq) (ls:List (List Int)) (av:List Int) (s t:Nat) (v:Int) (hs:List (Nat×Nat)):Prop :=
 (wV N s=1152921504606846976∧v=1152921504606846976∧hs=[])∨(wV N s≠1152921504606846976∧Lst (Rch (HSt N ls av) s t) v∧(v=1152921504606846976∧hs=[]∨HopP N ls av s t v hs))
def GoneQ (N:Qaq)(os cs:List Int)(i:Nat):Nat→Int→Prop:=fun r d=>∃ (j:Nat) (v:Int) (y:Tri),j<i∧os[j]?=some (r:Int)∧cs[j]?=some v∧N.ar[r]?=some y∧v≠1152921504606846976∧y.2.2≠1152921504606846976∧d=v+y.2.2
structure Qtl (N:Qaq) (ls:List (List Int)) (av:List Int) (s t na:Nat) (dnf hp:Nat→Option Int) (dn:List Bool) (bf:List Int):Prop where
 dij:Dij (HSt N ls av) s dnf hp
 via:Quy N ls av s bf dnf hp (dn.countP (fun b=>b))
 fl:∀ q,q<na→(dn.getD q false=true↔dnf q≠none)
 bd:∀ q e,hp q=some e→e≤MB+70379481595904
 ld:dn.length=na
 lb:bf.length=na
 nt:dnf t=none
structure Qpu (N:Qaq) (ls:List (List Int)) (av:List Int) (s t na p:Nat) (c:Int) (os cs:List Int) (i:Nat) (dnf hp:Nat→Option Int) (dn:List Bool) (bf:List Int):Prop where
 dij:Qoy (HSt N ls av) s dnf hp p c (GoneQ N os cs i)
 via:Quy N ls av s bf dnf hp (dn.countP (fun b=>b))
 fl:∀ q,q<na→(dn.getD q false=true↔dnf q≠none)
 bd:∀ q e,hp q=some e→e≤MB+70379481595904
 ld:dn.length=na
 lb:bf.length=na
 nt:dnf t=none
 c0:0≤c∧c≤MB
section
variable {N:Qaq} {ls:List (List Int)} {av:List Int} {s t na p:Nat} {c:Int} {os cs:List Int} {i:Nat} {dnf hp:Nat→Option Int} {dn:List Bool} {bf:List Int}
theorem Qoy.conv {St:Qbu}{G G':Nat→Int→Prop}(h:Qoy St s dnf hp p c G)(hg:∀ r d,G' r d→G r d):Qoy St s dnf hp p c G' :=
 ⟨h.dr,h.dm,h.hr,h.off,fun q e r d h1 h2=>(h.on q e r d h1 h2).imp (fun h3=>⟨h3.1,fun h4=>h3.2 (hg r d h4)⟩) id,h.st,h.at_⟩
theorem HSt.pos (hok:Qaw N)(a b:Nat)(d:Int)(h:HSt N ls av a b d):0≤d:=(h.bd hok).1
theorem Qtl.init:Qtl N ls av s t na (fun _=>none) (Qif (fun _=>none) s 0) (List.replicate na false) (List.replicate na 0):=by
 have h1:∀ q,Qif (fun _=>none) s 0 q=if q=s then some 0 else none:=fun q=>by
  unfold Qif
  by_cases e:q=s <;> simp [e]
 refine ⟨⟨fun p c e=>(by cases e),fun p c e=>(by cases e),fun p c e=>?_,fun p c e=>(by cases e),fun p c q d e=>(by cases e),.inr ⟨0,by rw [h1,if_pos rfl],Int.le_refl _⟩⟩,?_,fun q hq=>?_,fun q e h=>?_,by simp,by simp,rfl⟩
 · rw [h1] at e
   split at e
   · rename_i h2
     subst h2
     cases e
     exact .start
   · cases e
 · have:(List.replicate na false).countP (fun b=>b)=0:=by simp
   rw [this];exact Quy.init h1
 · rw [getD_rep]
   simp
 · rw [h1] at h
   split at h
   · cases h;unfold MB;omega
   · cases h
theorem Qtl.miss (hok:Qaw N)(h:Qtl N ls av s t na dnf hp dn bf)(he:∀ q,hp q=none):Lst (Rch (HSt N ls av) s t) 1152921504606846976:=h.dij.miss (HSt.pos hok) he h.nt
theorem Qtl.hit (hok:Qaw N)(h:Qtl N ls av s t na dnf hp dn bf)(hp1:hp t=some c)(hm:∀ q e,hp q=some e→c≤e):Lst (Rch (HSt N ls av) s t) c:=h.dij.hit (HSt.pos hok) hp1 hm
theorem Qtl.free (h:Qtl N ls av s t na dnf hp dn bf)(hpn:p<na)(hp1:hp p=some c):dnf p=none∧dn.getD p false=false:=by
 have hno:dnf p=none:=by
  cases hd:dnf p with
  | none=>rfl
  | some e=>have:=h.dij.off p e hd;rw [hp1] at this;cases this
 refine ⟨hno,?_⟩
 cases hd:dn.getD p false with
 | false=>rfl
 | true=>exact absurd hno ((h.fl p hpn).1 hd)
theorem Qtl.take (hok:Qaw N)(hP:Qay N.vs.length ls) (hE:∀ (j:Nat) (l:List Int) (a b:Nat) (y z:Tri),ls[j]?=some l→N.ar[a]?=some y→N.ar[b]?=some z→Qab l y.1≠Qab l y.2.1→Qab l z.1=Qab l y.2.1→Qab l z.2.1≠Qab l y.2.1→∃ v,Qgf N (Qeb l (Qab l y.2.1)) a b v)
 (hs:∃ x,N.ar[s]?=some x) (hav:toV N s∈av) (h:Qtl N ls av s t na dnf hp dn bf) (hpn:p<na) (hp1:hp p=some c) (hm:∀ q e,hp q=some e→c≤e) (hpt:p≠t) :
 Qpu N ls av s t na p c os cs 0 (fun q=>if q=p then some c else dnf q) (fun q=>if q=p then none else hp q) (dn.set p true) bf∧Qxd N ls av p:=by
 obtain ⟨hno,hdn⟩:=h.free hpn hp1;have hr:=h.dij.hr p c hp1;have hpl:p<dn.length:=by rw [h.ld];exact hpn
 refine ⟨⟨(h.dij.take (HSt.pos hok) hp1 hm).conv (fun r d ⟨j,_,_,hj,_⟩=>by omega),?_,fun q hq=>?_,fun q e hq=>?_,by rw [List.length_set];exact h.ld,h.lb,?_,hr.pos (HSt.pos hok),?_⟩,Qob hok hP hav hr⟩
 · rw [Qdy hpl hdn]
   exact h.via.take hp1 hno
 · by_cases e:q=p
   · subst e
     simp [List.getD_eq_getElem?_getD,hpl]
   · have e':¬p=q:=fun x=>e x.symm
     have:=h.fl q hq
     simpa [List.getD_eq_getElem?_getD,List.getElem?_set,e,e'] using this
 · by_cases e1:q=p
   · rw [if_pos e1] at hq;cases hq
   · rw [if_neg e1] at hq;exact h.bd q e hq
 · simp only [if_neg (fun e:t=p=>hpt e.symm)]
   exact h.nt
 · obtain ⟨e,h1,h2⟩:=rchH_bd hok hP hE hs hav hr
   have:=h.dij.least (HSt.pos hok) hp1 hm e h1;omega
theorem Qpu.skip (h:Qpu N ls av s t na p c os cs i dnf hp dn bf){b:Nat}{v:Int}{y:Tri} (hb:os[i]?=some (b:Int)) (hv:cs[i]?=some v) (hy:N.ar[b]?=some y) (hno:v=1152921504606846976∨y.2.2=1152921504606846976):Qpu N ls av s t na p c os cs (i+1) dnf hp dn bf :=
 ⟨h.dij.conv (fun r d ⟨j,v',y',hj,h1,h2,h3,h4,h5,h6⟩=>by
  by_cases e:j=i
  · subst e
    rw [hb] at h1;have e1:=Int.ofNat.inj (Option.some.inj h1);subst e1;rw [hv] at h2
    cases h2
    rw [hy] at h3
    cases h3
    rcases hno with g|g
    · exact absurd g h4
    · exact absurd g h5
  · exact ⟨j,v',y',by omega,h1,h2,h3,h4,h5,h6⟩),h.via,h.fl,h.bd,h.ld,h.lb,h.nt,h.c0⟩
theorem Qlb {b:Nat}{v:Int}{y:Tri} (hb:os[i]?=some (b:Int)) (hv:cs[i]?=some v) (hy:N.ar[b]?=some y) (r:Nat) (d:Int) (h:GoneQ N os cs (i+1) r d):GoneQ N os cs i r d∨(r=b∧d=v+y.2.2):=by
 obtain ⟨j,v',y',hj,h1,h2,h3,h4,h5,h6⟩:=h
 by_cases e:j=i
 · subst e
   rw [hb] at h1;have e1:=Int.ofNat.inj (Option.some.inj h1);subst e1;rw [hv] at h2
   cases h2
   rw [hy] at h3
   cases h3
   exact .inr ⟨rfl,h6⟩
 · exact .inl ⟨j,v',y',by omega,h1,h2,h3,h4,h5,h6⟩
theorem Qpu.off (h:Qpu N ls av s t na p c os cs i dnf hp dn bf){b:Nat}{v:Int}{y:Tri} (hb:os[i]?=some (b:Int)) (hv:cs[i]?=some v) (hy:N.ar[b]?=some y) (hst:HSt N ls av p b (v+y.2.2)) (hbn:b<na) (hd:dn.getD b false=true):Qpu N ls av s t na p c os cs (i+1) dnf hp dn bf :=
 ⟨(h.dij.put hst (.inl ⟨(h.fl b hbn).1 hd,fun e he=>h.dij.dm b e he _ ((h.dij.dr p c h.dij.at_).step hst),rfl⟩)).conv (Qlb hb hv hy),h.via,h.fl,h.bd,h.ld,h.lb,h.nt,h.c0⟩
theorem Qpu.put (hok:Qaw N)(h:Qpu N ls av s t na p c os cs i dnf hp dn bf){b:Nat}{v:Int}{y:Tri} (hb:os[i]?=some (b:Int)) (hv:cs[i]?=some v) (hy:N.ar[b]?=some y) (hst:HSt N ls av p b (v+y.2.2)) (hbn:b<na) (hd:dn.getD b false=false) :
 Qpu N ls av s t na p c os cs (i+1) dnf (Qif hp b (c+(v+y.2.2))) dn (if Qun hp b (c+(v+y.2.2)) then bf.set b (p:Int) else bf):=by
 have hdn:dnf b=none:=by
  cases e:dnf b with
  | none=>rfl
  | some x =>
   have:=(h.fl b hbn).2 (by rw [e];exact fun h=>by cases h)
   rw [hd] at this
   cases this
 obtain ⟨x,hx⟩:∃ x,x=c+(v+y.2.2):=⟨_,rfl⟩;rw [←hx];have hne:∀ r,r≠b→Qif hp b x r=hp r:=fun r hr=>by unfold Qif;rw [if_neg hr]
 have hat0:hp b=none→Qif hp b x b=some x:=fun e=>by unfold Qif;rw [if_pos rfl,e]
 have hat1:∀ z,hp b=some z→Qif hp b x b=some (if z≤x then z else x):=fun z e=>by unfold Qif;rw [if_pos rfl,e]
 have hbd:∀ q e,Qif hp b x q=some e→e≤MB+70379481595904:=fun q e hq=>by
  by_cases e1:q=b
  · subst e1
    have h1:=(hst.bd hok).2;have h2:=h.c0.2
    cases e2:hp q with
    | none=>rw [hat0 e2] at hq;cases hq;omega
    | some z =>
     rw [hat1 z e2] at hq;simp only [Option.some.injEq] at hq;have:=h.bd q z e2
     split at hq <;> omega
  · rw [hne q e1] at hq
    exact h.bd q e hq
 refine ⟨(h.dij.put hst (.inr ⟨hdn,hne,?_⟩)).conv (Qlb hb hv hy),?_,h.fl,hbd,h.ld,by split <;> simp [h.lb],h.nt,h.c0⟩
 · cases e2:hp b with
   | none=>exact .inr ⟨fun e h=>(by cases h),by rw [hat0 e2,hx]⟩
   | some z =>
    by_cases e3:z≤x
    · exact .inl ⟨z,rfl,by omega,by rw [hat1 z e2,if_pos e3]⟩
    · exact .inr ⟨fun e h=>by cases h;omega,by rw [hat1 z e2,if_neg e3,hx]⟩
 · cases e2:hp b with
   | none =>
    rw [show Qun hp b x=true by unfold Qun;rw [e2],if_pos rfl]
    exact h.via.put h.dij.at_ hdn (by rw [h.lb];exact hbn) hst hne (by rw [hat0 e2,hx])
   | some z =>
    by_cases e3:z≤x
    · rw [show Qun hp b x=false by unfold Qun;rw [e2];simp [e3]]
      have:Qif hp b x=hp:=funext fun r=>by
       by_cases e1:r=b
       · subst e1;rw [hat1 z e2,if_pos e3,e2]
       · exact hne r e1
      rw [this];exact h.via
    · rw [show Qun hp b x=true by unfold Qun;rw [e2];simp [e3],if_pos rfl]
      exact h.via.put h.dij.at_ hdn (by rw [h.lb];exact hbn) hst hne (by rw [hat1 z e2,if_neg e3,hx])
theorem Qpu.all (h:Qpu N ls av s t na p c os cs i dnf hp dn bf)(hn:NxtP N ls av p os cs)(hi:os.length≤i):Qtl N ls av s t na dnf hp dn bf :=
 ⟨h.dij.done (fun q d hq=>by
  obtain ⟨k,v,y,h1,h2,h3,h4,h5,h6⟩:=hn.all q d hq;exact ⟨k,v,y,by have:=(Zs h1).1;omega,h1,h2,h3,h4,h5,h6⟩),h.via,h.fl,h.bd,h.ld,h.lb,h.nt⟩
end
end Go.Proofs.YteaoiabikjnkeaaGreatDoor
