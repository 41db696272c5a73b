/- Parts of the proof: Yf, Yg, Yh. -/
import Derived.Test.YtdheeddnkdhfeaaGreatDoorA20
import Derived.Test.YtdheeddnkdhfeaaGreatDoorShelf3
import Derived.Shelf.SlicesE.Reverse
namespace Go.Proofs.YtdheeddnkdhfeaaGreatDoor
open Go.RowKit Go.Proofs.Tryz
attribute [local go_sem ↓] Go.wp_at_zero Go.wp_at_succ
set_option maxHeartbeats 2000000 in
theorem Qyj (w:World)(qb g o:Nat)(N:Qam) (ls:List (List Int)) (CA:Option Addr) (NC cC:Nat) (cl:List Int) (Q:Option Addr) (L cq mb a:Nat) (x:Tri) (h:OR w qb g o N ls CA NC cC cl Q L cq mb) (hok:Qap N) (hx:N.ar[a]?=some x) :
 Calls prog 165 #[.pointer (some ⟨qb,0,none⟩),.int .i64 0,.int .i64 a] w fun e w'=>∃ (O C:Option Addr) (nO cO cC':Nat),e=.returned (.tuple #[.slice O nO cO,.slice C nO cC']) ∧
  RdI (msk w' (fun b=>w.heap.size≤b∧b<w'.heap.size)) O nO (idx (·.1) N.ar x.2.1)∧RdI (msk w' (fun b=>w.heap.size≤b∧b<w'.heap.size)) C nO ((idx (·.1) N.ar x.2.1).map (fun b=>Qaq N a b.toNat))∧nO≤16384∧Below w.heap.size w w':=by
 obtain ⟨u,v,e1,e2,hu,hv⟩:=Qdi hok hx;obtain ⟨os,hos⟩:∃ os,os=idx (·.1) N.ar x.2.1:=⟨_,rfl⟩;obtain ⟨no,hno⟩:∃ no,no=os.length:=⟨_,rfl⟩
 have hnl:no≤16384:=by
  exact Kcp
 have HTO:=Zh (Qeu g a N x w h.gr hx);have HOU:=Zh (show Calls prog 153 #[.pointer (some ⟨g,0,none⟩),.int .i64 x.2.1] w fun e w'=>∃ A n c,e=.returned (.slice A n c)∧Own w' w.heap.size 3 1 A n c (Qag os)∧Below w.heap.size w w' by rw [hos,e2];exact Qni g v N w h.gr hv)
 have HTN:=Zh (fun V (hV:Below w.heap.size w V) (b:Nat) (y:Tri) (hy:N.ar[b]?=some y)=>Qna g a b N x y V (h.gr.below hV) hx hy)
 have HCL:=Zh (show ∀ i b,os[i]?=some b→∃ (n:Nat) (y:Tri),b=(n:Int)∧N.ar[n]?=some y from fun i b hb=>by
  rw [hos] at hb;obtain ⟨n,y,rfl,hy,_⟩:=Qfm.1 (Zm hb);exact ⟨n,y,rfl,hy⟩)
 rw [←hos];obtain ⟨cs,hcs⟩:∃ cs,cs=os.map (fun b=>Qaq N a b.toNat):=⟨_,rfl⟩;rw [←hcs];have HCS:=Zh (show ∀ i n,os[i]?=some ((n:Nat):Int)→cs[i]?=some (Qaq N a n) from fun i n hb=>by rw [hcs,Yt,hb];simp)
 have HLC:=Zh (show cs.length=no by rw [hcs,List.length_map,hno])
 have HNO:=Zh hno;have HQ:=Zh (show ∀ V,Below w.heap.size w V→V.cell? ⟨qb,0,none⟩=some (.pointer (some ⟨g,0,none⟩)) from fun V hV=>(h.below hV).q0)
 have q0:=h.q0;have hmk:=Qet no (by omega);clear h hok hx hos hno hcs e1 e2 hu hv
 go_enter func165,ntmps165
 go_wp2_with fail
 with_reducible refine HTO.out.mono ?_
 rintro r w' ⟨rfl,rfl⟩
 go_wp2_with fail
 with_reducible refine HOU.out.mono ?_
 rintro r w1 ⟨O,nO,cO,rfl,hO,hb1⟩;obtain rfl:no=nO:=by rw [HNO.out];exact hO.rds.rdI.1
 have HO:=Zh hO;have HB1:=Zh hb1;clear hO hb1 q0
 go_wp2_with fail
 (refine Qai ?_;intro w2 hw2)
 have hb2:Below w1.heap.size w1 w2:=by rw [hw2];exact Qah
 have hC2:Blk w2 w1.heap.size 2 (Qcj (cs.take 0 ++List.replicate (no-0) 0)):=by rw [hw2,List.take_zero,List.nil_append,Nat.sub_zero,←Qcf];exact Qbh
 have HC2:=Zh hC2;have HB2:=Zh hb2;clear hw2 hC2 hb2
 go_loopw [37] (fun uk V=>∃ kk:Nat,kk≤no∧uk=.int .i64 kk∧Below w1.heap.size w1 V∧Blk V w1.heap.size 2 (Qcj (cs.take kk ++List.replicate (no-kk) 0))) (fun uk _=>no-(intOf uk).toNat)
 case atStart=>exact ⟨0,Nat.zero_le _,rfl,HB2.out,HC2.out⟩
 case round =>
  clear HC2 HB2;obtain ⟨kk,hkk,rfl,hb,hC⟩:=hrel;have HB:=Zh hb;have HC:=Zh hC;have hlt1:=hC.lt
  by_cases hlt:kk<no
  rotate_left
  · obtain rfl:kk=no:=by omega
    have j2:¬((kk:Int)<(kk:Int)):=by omega
    clear hb hC
    go_wp2_with fail
    refine bodyPost_ret (v:=.tuple #[.slice O kk cO,.slice (some ⟨w1.heap.size,0,none⟩) kk kk]) (by simp [results,results165,go_sem]) rfl ?_;refine ⟨O,_,kk,⟨cO,kk,rfl⟩,(HO.out.below HB.out).rdM (fun _ h1 h2=>⟨h1,h2⟩),?_,hnl,Zb HB1.out HB.out⟩;have hC:=HC.out;rw [Yy,List.replicate_zero,List.append_nil,Ye (by rw [HLC.out];exact Zn _)] at hC;have:=hC.rdM (G:=fun b=>w.heap.size≤b∧b<wr.heap.size) ⟨HB1.out.size,hlt1⟩
    rwa [HLC.out] at this
  · have j2:(kk:Int)<(no:Int):=by omega
    exact Kah
def NxoR (w:World)(G:Nat→Prop)(mb n:Nat)(N:Qam) (ls:List (List Int)) (St:Qbd) (OS:Nat→Int→Int→Prop) (a:Nat) (r:Ending) (w':World):Prop :=
 ∃ (O C:Option Addr) (nO cO cC n':Nat) (os cs:List Int) (f':Nat→Nat→Option Value),r=.returned (.tuple #[.slice O nO cO,.slice C nO cC])∧NxO N St OS a os cs∧RdI (msk w' (G2 G w w')) O nO os∧RdI (msk w' (G2 G w w')) C nO cs ∧
  MpQ w' mb n' f'∧n'≤n+1∧MpC w' (G2 G w w') N.ar ls f'∧Nxw mb w w'∧nO≤16384
set_option maxRecDepth 20000 in
set_option maxHeartbeats 2000000 in
theorem Qwv (w:World)(qb g o:Nat)(N:Qam) (ls:List (List Int)) (CA:Option Addr) (NC cC:Nat) (cl:List Int) (Q:Option Addr) (L cq mb a J j to c9:Nat) (l l9:List Int) (y:Tri) (G H:Nat→Prop) (n:Nat) (f:Nat→Nat→Option Value) (h:OR (msk w H) qb g o N ls CA NC cC cl Q L cq mb) (hHm:¬H mb) (hGm:¬G mb) (hcl:RdI (msk w G) CA NC cl)
 (hm:MpQ w mb n f) (hn:n≤900000000000000000) (hmc:MpC w G N.ar ls f) (hok:Qap N) (hP:Qaw N.vs.length ls) (hA:Qcy N ls cl) (hcc:NC≤cC∧cC≤9223372036854775807) (hSm:Qbx (Qac N.ar ls)≤1000000000) (hy:N.ar[a]?=some y) (hl:ls[j]?=some l) (hgd:Qaa l y.1≠Qaa l y.2.1) (hat:a≠to) (hj:J=j+1) :
 Calls prog 165 #[.pointer (some ⟨qb,0,none⟩),.int .i64 J,.int .i64 a] w (NxoR w G mb n N ls (StQ N l9 c9 to (Qcs N l)) (OpS N l9 c9 to) a):=by
 have hlv:=hP.lvl l (Zm hl);obtain ⟨_,v,_,e2,_,hv⟩:=Qdi hok hy;obtain ⟨c,hc,hcm,hcv⟩:=Qcl hlv hv;have hcv2:=hc;rw [←e2] at hc;obtain ⟨x,hx⟩:∃ x,(Qaf N.ar l)[c]?=some x:=⟨_,Zg (by rw [Qan];exact hcm)⟩;obtain ⟨i,hi⟩:=Yr ((Qcv hx).2 ⟨y,hy,by rw [←hc];exact hgd,hc⟩);have HNX:=Zh (nxO_kid (l:=l9) (c:=c9) (to:=to) hok hA hl hy hgd hat hc hx hi);have hL6:=hP.l6;have hlen:=hlv.len;have hvs:=hok.lv;have hil:=(Zs hi).1;have hll:=(Zs hl).1;have HQ:=Zh (show ∀ V,Nxw mb w V→OR V qb g o N ls CA NC cC cl Q L cq mb from fun V hV=>h.le ((G2.le hV hHm).trans (Qat _ _)))
 have HG2:=Zh (show ∀ V,Nxw mb w V→Le (msk w G) (msk V (G2 G w V)) from fun V hV=>G2.le hV hGm)
 have HMQ:=Zh hm;have HMC:=Zh hmc;have HCL:=Zh hcl;have HCC:=Zh hcc;have HTO:=Zh (Qeu g a N y w (h.gr.le (Qat _ _)) hy);rw [e2] at HTO;have hLl:=h.part.1;have HCO:=Zh (Qho w qb g o N ls CA NC cC cl Q L cq mb J j v l (h.le (Qat _ _)) hj hl (by omega) (by omega));rw [hcv2] at HCO;have HGT:=Zh (fun V (hV:Nxw mb w V)=>Qgc o j c N.ar ls l x V (h.ov.le ((G2.le hV hHm).trans (Qat _ _))) hl (by omega) hx (by have:=hok.la;omega));have HFR:=Zh (fun V (hV:Nxw mb w V)=>Qpz o j c i N ls l x V (h.ov.le ((G2.le hV hHm).trans (Qat _ _))) hl hx hil (by omega) hSm);have HSO:=Zh (Qdp hx);have HPI:=Zh (Qdy HSO.out hi);have hgl:=Qbi hx;have hla:=hok.la;have HGL:=Zh (show x.1.length≤16384∧x.2.length≤16384 by omega)
 have hq:=(h.le (Qat _ _));have q0:=hq.q0;have q6:=hq.q6;have m6:((J:Int) == 0)=false:=by simp;omega
 have m7:(j:Int)+1=(J:Int):=by omega
 simp only [m7] at HGT HFR;have HX0:=Zh (show Nxw mb w w from Nxw.below (Zr _ _) hm.lt)
 have HJ:=Zh hj;have HJL:=Zh (show J≤1000000000000∧c≤1000000000000 by have:=hlv.hi _ (Zm hcv);omega)
 have HL:=Zh hl;have HX:=Zh hx;have HI:=Zh hi;clear h hGm hHm hcl hmc hok hP hA hSm hy hgd hl hlv hc hcv2 hcm hcv hx hi hq e2 hgl hla hlen hvs hj hcc hm m7 hil hll hL6 hLl hat hv
 go_enter func165,ntmps165
 go_wp2_with fail
 with_reducible refine HTO.out.mono ?_
 rintro r w' ⟨rfl,rfl⟩
 go_wp2_with fail
 with_reducible refine HCO.out.mono ?_
 rintro r w' ⟨rfl,rfl⟩
 cases hf:f J c with
 | some u =>
  obtain ⟨j',l',x',A1,n1,c1,A2,n2,c2,ej,hl',hx',rfl,hr1,hr2⟩:=HMC.out J c u hf;obtain rfl:j=j':=by have:=HJ.out;omega
  rw [HL.out] at hl'
  cases hl'
  rw [HX.out] at hx'
  cases hx'
  have HR1:=Zh hr1;have HR2:=Zh hr2;clear ej hr1 hr2
  go_wp2_with (at_lookup;with_reducible refine Qnc rfl _ _ rfl J c rfl HMQ.out rfl HJL.out.1 HJL.out.2 ?_)
  (refine Qae ?_;intro w6 hw6)
  have hb6:Below w.heap.size w w6:=by rw [hw6];exact Qah
  have HC6:=Zh (show Blk w6 w.heap.size 135 #[.slice A1 n1 c1,.slice A2 n2 c2] by rw [hw6];exact Blk.new _ _ _)
  have HX6:=Zh (Nxw.below hb6 HMQ.out.lt);have HMV:=Zh (HMQ.out.below hb6);have HNN:=Zh (show n≤n+1 by omega)
  have HMCV:=Zh (HMC.out.le (HG2.out w6 HX6.out));have HR1:=Zh (HR1.out.le (HG2.out w6 HX6.out));have HR2:=Zh (HR2.out.le (HG2.out w6 HX6.out));clear hw6 hb6 hf;have hq6:=HQ.out w6 HX6.out;have q1:=hq6.q1;have z0:w6.cell? ⟨w.heap.size,0,none⟩=some (.slice A1 n1 c1):=Zq HC6.out;have HPL:=Zh (Qdr A1 n1 c1 x.1 (a:Int) w6 (HR1.out.le (Qat _ _)) HSO.out (by rw [←HR1.out.1];have:=HGL.out.1;omega));rw [HPI.out] at HPL;clear hq6;with_reducible refine HPL.out.mono ?_
  rintro r w7 ⟨rfl,hb7⟩;have HX7:=Zh (HX6.out.trans (Nxw.below hb7 HMV.out.lt));have HB7:=Zh hb7;have q1:=(HQ.out w7 HX7.out).q1;have HAT:=Zh (HFR.out w7 HX7.out);have w0:¬((i:Int)<0):=by omega
  clear z0 hb7
  by_cases hn0:x.2.length=0
  · have hfr:Qiv (Qac N.ar ls) (Qaf N.ar l) j c x i = -1:=by unfold Qiv;rw [if_pos hn0]
    rw [hfr] at HAT;have HN0:=Zh hn0;clear hfr hn0
    go_wp2_with fail
    with_reducible refine HAT.out.mono ?_
    rintro r w8 ⟨rfl,hb8⟩;have HB8:=Zh (Zb HB7.out hb8);clear hb8 q1
    go_wp2_with fail
    refine wp_region_held_drew (S:=fun V=>V=w8.drew) (by kernel_rfl) rfl (fun _=>?_);refine tz 0 104 ?_;refine tz 1 105 ?_;refine tz 2 106 ?_;refine tz 3 107 ?_;refine tz 4 108 ?_;refine tz 5 109 ?_;refine tz 6 110 ?_;refine tw 7 111 ?_;refine tw 8 112 ?_;refine tw 9 113 ?_;refine tw 10 114 ?_;refine tw 11 115 ?_;refine tw 12 116 ?_;refine tw 13 117 ?_;refine tw 14 118 ?_;refine tw 15 119 ?_;refine tw 16 120 ?_;refine tw 17 121 ?_;refine tz 18 122 ?_;refine Zd ?_;obtain ⟨v9,hv9⟩:∃ V,V=w8.drew:=⟨_,rfl⟩;rw [←hv9];have HB9:=Zh (show Below w6.heap.size w6 v9 by rw [hv9];exact HB8.out.drew)
    clear hv9
    go_wp2_with fail
    refine bodyPost_ret (v:=.tuple #[.slice none 0 0,.slice none 0 0]) (by simp [results,results165,go_sem]) rfl ?_;have hx2:x.2=[]:=List.eq_nil_of_length_eq_zero HN0.out;have hnx:=HNX.out;rw [hx2] at hnx;exact ⟨none,none,0,0,0,n,[],_,f,rfl,hnx,⟨rfl,fun i x h=>by simp at h⟩,⟨by simp,fun i x h=>by simp at h⟩,HMV.out.below HB9.out,HNN.out,HMCV.out.le (G2.more HB9.out),HX6.out.trans (Nxw.below HB9.out HMV.out.lt),by omega⟩
  · obtain ⟨e0,he0⟩:∃ e0,e0=Qey (Qac N.ar ls) (Qaf N.ar l) j c x i 0:=⟨_,rfl⟩
    have hfr:Qiv (Qac N.ar ls) (Qaf N.ar l) j c x i=(e0:Int):=by unfold Qiv;rw [if_neg hn0,he0]
    rw [hfr] at HAT;have HNX2:=Zh HNX.out;rw [←he0] at HNX2;have hn2:n2=x.2.length:=HR2.out.1.symm;have hlen2:=HNX2.out.len;rw [Yw,List.length_drop,HCL.out.1] at hlen2;have hbd:e0+n2≤NC∧0<n2∧n2≤16384:=by have:=HGL.out;omega
    have hcx:=HCC.out;have HCT:=Zh (Qjf CA NC cC e0 n2 (by omega) hbd.2.1);have HBD:=Zh hbd;have w1:¬((e0:Int)<0):=by omega
    have w2:¬((NC:Int)<(e0:Int)+(n2:Int)):=by omega
    have w3:decide ((i:Int)<0)=false:=by simp
    have w4:decide ((e0:Int)<0)=false:=by simp
    have w5:decide ((NC:Int)<(e0:Int)+(n2:Int))=false:=by simp;omega
    have HWR:=Zh (show IntKind.i64.wrap ((e0:Int)+(n2:Int))=(e0:Int)+(n2:Int) from IntWalk.i64_in _ (by omega))
    have hwr:=HWR.out;have hct:=HCT.out;have HN2:=Zh hn2;clear hfr he0 hn0 hn2 hlen2 hbd hcx
    go_wp2_with fail
    with_reducible refine HAT.out.mono ?_
    rintro r w8 ⟨rfl,hb8⟩;have HX8:=Zh (HX7.out.trans (Nxw.below hb8 (Yu HMV.out.lt HB7.out.size)));have HB8:=Zh (Zb HB7.out hb8);have HC8:=Zh (HC6.out.below HB8.out HC6.out.lt);have HSX:=Zh (show ∀ V,Below w8.heap.size w8 V→V.cell? ⟨qb,2,none⟩=some (.slice CA NC cC)∧V.cell? ⟨w.heap.size,1,none⟩=some (.slice A2 n2 c2) from fun V hV=>⟨Zc hV (Zn _) (HQ.out w8 HX8.out).q2,Zc hV (Zn _) (Zq HC8.out)⟩)
    clear hb8 q1
    go_wp2_with fail
    refine wp_region_held_drew (S:=fun V=>Below w8.heap.size w8 V) (by kernel_rfl) (Zr _ _).drew (fun _=>?_);refine tz 0 104 ?_;refine tz 1 105 ?_;refine tz 2 106 ?_;refine tz 3 107 ?_;refine tz 4 108 ?_;refine tz 5 109 ?_;refine tz 6 110 ?_;refine tz 7 111 ?_;refine tz 8 112 ?_;refine tz 9 113 ?_;refine tz 10 114 ?_;refine tz 11 115 ?_;refine tz 12 116 ?_;refine tz 13 117 ?_;refine tz 14 118 ?_;refine tz 15 119 ?_;refine tz 16 120 ?_;refine tz 17 121 ?_;refine tz 18 122 ?_;refine Zd ?_
    go_wp2_with fail
    refine wp_region_held_drew (S:=fun V=>Below w8.heap.size w8 V) (by kernel_rfl) (Zr _ _).drew.drew (fun _=>?_);refine tz 0 123 ?_;refine tz 1 124 ?_;refine tz 2 125 ?_;refine tz 3 126 ?_;refine tz 4 127 ?_;refine tz 5 128 ?_;refine tz 6 129 ?_;refine tz 7 130 ?_;refine tz 8 131 ?_;refine tz 9 132 ?_;refine tz 10 133 ?_;refine tz 11 134 ?_;refine tz 12 135 ?_;refine tz 13 6 ?_;refine tz 14 7 ?_;refine Zd ?_;obtain ⟨v9,hv9⟩:∃ V,V=w8.drew.drew:=⟨_,rfl⟩;rw [←hv9];have HB9:=Zh (show Below w6.heap.size w6 v9 by rw [hv9];exact HB8.out.drew.drew)
    clear hv9
    go_wp2_with fail
    refine bodyPost_ret (v:=.tuple #[.slice A2 n2 c2,.slice (CA.map (·.add e0)) n2 (cC-e0)]) (by simp [results,results165,go_sem]) rfl ?_;have hcl:=HCL.out.sub e0 n2 HBD.out.1;rw [HN2.out] at hcl;refine ⟨A2,_,n2,c2,_,n,x.2,_,f,rfl,HNX2.out,HR2.out.le (G2.more HB9.out),?_,HMV.out.below HB9.out,HNN.out,HMCV.out.le (G2.more HB9.out),HX6.out.trans (Nxw.below HB9.out HMV.out.lt),HBD.out.2.2⟩;rw [HN2.out];exact hcl.le (HG2.out v9 (HX6.out.trans (Nxw.below HB9.out HMV.out.lt)))
 | none =>
  have q1:=(HQ.out w HX0.out).q1;have hqb:qb<w.heap.size:=Qaj q1
  go_wp2_with (at_lookup;with_reducible refine Qnc rfl _ _ rfl J c rfl HMQ.out rfl HJL.out.1 HJL.out.2 ?_)
  (refine Qae ?_;intro w6 hw6)
  have hb6:Below w.heap.size w w6:=by rw [hw6];exact Qah
  have hC6:Blk w6 w.heap.size 135 #[.slice none 0 0,.slice none 0 0]:=by rw [hw6];exact Blk.new _ _ _
  have HX6:=Zh (Nxw.below hb6 HMQ.out.lt);clear hw6 hf q1;with_reducible refine (HGT.out w6 HX6.out).mono ?_
  rintro r w7 ⟨A1,n1,c1,A2,n2,c2,rfl,ho1,ho2,hb7⟩;have hC7:=hC6.below hb7 hC6.lt;obtain ⟨z0,z1,f0,f1⟩:=hC7.two;have HO1:=Zh ((ho1.far (Qad w7 w.heap.size 0 (.slice A1 n1 c1)) (.inr (ho1.ne hC6.lt))).far (Qad _ w.heap.size 1 (.slice A2 n2 c2)) (.inr (ho1.ne hC6.lt)));have HO2:=Zh ((ho2.far (Qad w7 w.heap.size 0 (.slice A1 n1 c1)) (.inr (ho2.ne hC6.lt))).far (Qad _ w.heap.size 1 (.slice A2 n2 c2)) (.inr (ho2.ne hC6.lt)));have HB7:=Zh (Zi (o:=1) (u:=.slice A2 n2 c2) (Zi (o:=0) (u:=.slice A1 n1 c1) (Zb hb6 hb7) (Zn _)) (Zn _));have HC7:=Zh ((hC7.set_ 0 (.slice A1 n1 c1)).set_ 1 (.slice A2 n2 c2));have HZ6:=Zh (show w.heap.size≤w6.heap.size from hb6.size)
  clear ho1 ho2 hC6 hC7 hb6 hb7
  go_wp2_with fail
  (refine Qai ?_;intro w8 hw8)
  have hb8:Below w.heap.size w w8:=by rw [hw8];exact HB7.out
  have HC8:=Zh (show Blk w8 w.heap.size 135 #[.slice A1 n1 c1,.slice A2 n2 c2] by rw [hw8];exact HC7.out)
  have HO1:=Zh (show Own w8 w6.heap.size 3 1 A1 n1 c1 (Qag x.1) by rw [hw8];exact HO1.out)
  have HO2:=Zh (show Own w8 w6.heap.size 3 1 A2 n2 c2 (Qag x.2) by rw [hw8];exact HO2.out)
  have HB8:=Zh hb8;have HX8:=Zh (Nxw.below hb8 HMQ.out.lt);clear hw8 hb8 HB7 HC7;have x6:=(HQ.out w8 HX8.out).q6;have z0:w8.cell? ⟨w.heap.size,0,none⟩=some (.slice A1 n1 c1):=Zq HC8.out;have z1:w8.cell? ⟨w.heap.size,1,none⟩=some (.slice A2 n2 c2):=Zq HC8.out;refine Qbl 8 (S:=fun V=>V.cell? ⟨qb,4,none⟩=some (.map (some mb))∧V.cell? ⟨w.heap.size,0,none⟩=some (.slice A1 n1 c1)∧V.cell? ⟨w.heap.size,1,none⟩=some (.slice A2 n2 c2)) (by kernel_rfl) ⟨x6,z0,z1⟩ (fun _=>?_);refine tkK 0 84 (h:=⟨_,tv,?_⟩);simp only [pE,List.set];refine tkK 1 85 (h:=⟨_,tv,?_⟩);simp only [pE,List.set];refine tkK 2 86 (h:=⟨_,tv,?_⟩);simp only [pE,List.set];refine tkK 3 87 (h:=⟨_,tv,?_⟩);simp only [pE,List.set];refine tkK 4 88 (h:=⟨_,tv,?_⟩);simp only [pE,List.set];refine tkK 5 89 (h:=⟨_,tv,?_⟩);simp only [pE,List.set];refine tkK 6 90 (h:=⟨_,tv,?_⟩);simp only [pE,List.set];refine tkK 7 91 (h:=⟨_,tv,?_⟩);simp only [pE,List.set];have hmq8:MpQ w8.drew mb n f:=(HMQ.out.below HB8.out).at_ rfl;refine Qby (k:=8) (by kernel_rfl) rfl (fun K hK=>?_);refine (if_pos (by rfl)).mpr ?_;refine Qkb _ _ _ rfl J c _ rfl hmq8 (by omega) rfl rfl HJL.out.1 HJL.out.2 (fun w9 hm9 hg9=>?_);refine hK.out _ _ ?_;clear hK K;refine Qbt (by kernel_rfl) ?_ _;clear x6 z0 z1 hmq8;have hX8:Nxw mb w w8.drew:=Nxw.below HB8.out.drew HMQ.out.lt;have HX9:=Zh (hX8.trans (Nxw.grown hg9 (Yu HMQ.out.lt HB8.out.size)));have hC8:Blk w8.drew w.heap.size 135 #[.slice A1 n1 c1,.slice A2 n2 c2]:=HC8.out;have HC9:=Zh (hC8.grown hg9 (fun e=>by have:=HMQ.out.lt;cases e;omega))
  have ho1:Own w8.drew w6.heap.size 3 1 A1 n1 c1 (Qag x.1):=HO1.out;have ho2:Own w8.drew w6.heap.size 3 1 A2 n2 c2 (Qag x.2):=HO2.out;have hmb6:mb<w6.heap.size:=Yu HMQ.out.lt HZ6.out
  have HR1:=Zh (show RdI (msk w9 (G2 G w w9)) A1 n1 x.1 from (ho1.far hg9 (.inr (ho1.ne hmb6))).rdM (fun b h1 h2=>.inr ⟨Yx HZ6.out h1,h2⟩))
  have HR2:=Zh (show RdI (msk w9 (G2 G w w9)) A2 n2 x.2 from (ho2.far hg9 (.inr (ho2.ne hmb6))).rdM (fun b h1 h2=>.inr ⟨Yx HZ6.out h1,h2⟩))
  have HMV:=Zh hm9;have HNN:=Zh (show n+1≤n+1 from Zn _)
  have hput:=(HMC.out.le (HG2.out w9 HX9.out)).put (c1:=c1) (c2:=c2) HL.out HX.out HR1.out HR2.out;rw [←HJ.out] at hput;have HMCV:=Zh hput;clear hput ho1 ho2 hmb6 hC8 hX8 hg9 hm9 HX8 HC8 HO1 HO2 HB8 HX6;have z0:w9.cell? ⟨w.heap.size,0,none⟩=some (.slice A1 n1 c1):=Zq HC9.out;have HX6:=HX9;have HC6:=HC9;clear HX9 HC9
  go_wp2_with fail
  clear z0;have hq6:=HQ.out w9 HX6.out;have q1:=hq6.q1;have z0:w9.cell? ⟨w.heap.size,0,none⟩=some (.slice A1 n1 c1):=Zq HC6.out;have HPL:=Zh (Qdr A1 n1 c1 x.1 (a:Int) w9 (HR1.out.le (Qat _ _)) HSO.out (by rw [←HR1.out.1];have:=HGL.out.1;omega));rw [HPI.out] at HPL;clear hq6;with_reducible refine HPL.out.mono ?_
  rintro r w7 ⟨rfl,hb7⟩;have HX7:=Zh (HX6.out.trans (Nxw.below hb7 HMV.out.lt));have HB7:=Zh hb7;have q1:=(HQ.out w7 HX7.out).q1;have HAT:=Zh (HFR.out w7 HX7.out);have w0:¬((i:Int)<0):=by omega
  clear z0 hb7
  by_cases hn0:x.2.length=0
  · have hfr:Qiv (Qac N.ar ls) (Qaf N.ar l) j c x i = -1:=by unfold Qiv;rw [if_pos hn0]
    rw [hfr] at HAT;have HN0:=Zh hn0;clear hfr hn0
    go_wp2_with fail
    with_reducible refine HAT.out.mono ?_
    rintro r w8 ⟨rfl,hb8⟩;have HB8:=Zh (Zb HB7.out hb8);clear hb8 q1
    go_wp2_with fail
    refine wp_region_held_drew (S:=fun V=>V=w8.drew) (by kernel_rfl) rfl (fun _=>?_);refine tz 0 104 ?_;refine tz 1 105 ?_;refine tz 2 106 ?_;refine tz 3 107 ?_;refine tz 4 108 ?_;refine tz 5 109 ?_;refine tz 6 110 ?_;refine tw 7 111 ?_;refine tw 8 112 ?_;refine tw 9 113 ?_;refine tw 10 114 ?_;refine tw 11 115 ?_;refine tw 12 116 ?_;refine tw 13 117 ?_;refine tw 14 118 ?_;refine tw 15 119 ?_;refine tw 16 120 ?_;refine tw 17 121 ?_;refine tz 18 122 ?_;refine Zd ?_;obtain ⟨v9,hv9⟩:∃ V,V=w8.drew:=⟨_,rfl⟩;rw [←hv9];have HB9:=Zh (show Below w9.heap.size w9 v9 by rw [hv9];exact HB8.out.drew)
    clear hv9
    go_wp2_with fail
    refine bodyPost_ret (v:=.tuple #[.slice none 0 0,.slice none 0 0]) (by simp [results,results165,go_sem]) rfl ?_;have hx2:x.2=[]:=List.eq_nil_of_length_eq_zero HN0.out;have hnx:=HNX.out;rw [hx2] at hnx;exact ⟨none,none,0,0,0,(n+1),[],_,(fun p q=>if p=J∧q=c then some (.agg #[.slice A1 n1 c1,.slice A2 n2 c2]) else f p q),rfl,hnx,⟨rfl,fun i x h=>by simp at h⟩,⟨by simp,fun i x h=>by simp at h⟩,HMV.out.below HB9.out,HNN.out,HMCV.out.le (G2.more HB9.out),HX6.out.trans (Nxw.below HB9.out HMV.out.lt),by omega⟩
  · obtain ⟨e0,he0⟩:∃ e0,e0=Qey (Qac N.ar ls) (Qaf N.ar l) j c x i 0:=⟨_,rfl⟩
    have hfr:Qiv (Qac N.ar ls) (Qaf N.ar l) j c x i=(e0:Int):=by unfold Qiv;rw [if_neg hn0,he0]
    rw [hfr] at HAT;have HNX2:=Zh HNX.out;rw [←he0] at HNX2;have hn2:n2=x.2.length:=HR2.out.1.symm;have hlen2:=HNX2.out.len;rw [Yw,List.length_drop,HCL.out.1] at hlen2;have hbd:e0+n2≤NC∧0<n2∧n2≤16384:=by have:=HGL.out;omega
    have hcx:=HCC.out;have HCT:=Zh (Qjf CA NC cC e0 n2 (by omega) hbd.2.1);have HBD:=Zh hbd;have w1:¬((e0:Int)<0):=by omega
    have w2:¬((NC:Int)<(e0:Int)+(n2:Int)):=by omega
    have w3:decide ((i:Int)<0)=false:=by simp
    have w4:decide ((e0:Int)<0)=false:=by simp
    have w5:decide ((NC:Int)<(e0:Int)+(n2:Int))=false:=by simp;omega
    have HWR:=Zh (show IntKind.i64.wrap ((e0:Int)+(n2:Int))=(e0:Int)+(n2:Int) from IntWalk.i64_in _ (by omega))
    have hwr:=HWR.out;have hct:=HCT.out;have HN2:=Zh hn2;clear hfr he0 hn0 hn2 hlen2 hbd hcx
    go_wp2_with fail
    with_reducible refine HAT.out.mono ?_
    rintro r w8 ⟨rfl,hb8⟩;have HX8:=Zh (HX7.out.trans (Nxw.below hb8 (Yu HMV.out.lt HB7.out.size)));have HB8:=Zh (Zb HB7.out hb8);have HC8:=Zh (HC6.out.below HB8.out HC6.out.lt);have HSX:=Zh (show ∀ V,Below w8.heap.size w8 V→V.cell? ⟨qb,2,none⟩=some (.slice CA NC cC)∧V.cell? ⟨w.heap.size,1,none⟩=some (.slice A2 n2 c2) from fun V hV=>⟨Zc hV (Zn _) (HQ.out w8 HX8.out).q2,Zc hV (Zn _) (Zq HC8.out)⟩)
    clear hb8 q1
    go_wp2_with fail
    refine wp_region_held_drew (S:=fun V=>Below w8.heap.size w8 V) (by kernel_rfl) (Zr _ _).drew (fun _=>?_);refine tz 0 104 ?_;refine tz 1 105 ?_;refine tz 2 106 ?_;refine tz 3 107 ?_;refine tz 4 108 ?_;refine tz 5 109 ?_;refine tz 6 110 ?_;refine tz 7 111 ?_;refine tz 8 112 ?_;refine tz 9 113 ?_;refine tz 10 114 ?_;refine tz 11 115 ?_;refine tz 12 116 ?_;refine tz 13 117 ?_;refine tz 14 118 ?_;refine tz 15 119 ?_;refine tz 16 120 ?_;refine tz 17 121 ?_;refine tz 18 122 ?_;refine Zd ?_
    go_wp2_with fail
    refine wp_region_held_drew (S:=fun V=>Below w8.heap.size w8 V) (by kernel_rfl) (Zr _ _).drew.drew (fun _=>?_);refine tz 0 123 ?_;refine tz 1 124 ?_;refine tz 2 125 ?_;refine tz 3 126 ?_;refine tz 4 127 ?_;refine tz 5 128 ?_;refine tz 6 129 ?_;refine tz 7 130 ?_;refine tz 8 131 ?_;refine tz 9 132 ?_;refine tz 10 133 ?_;refine tz 11 134 ?_;refine tz 12 135 ?_;refine tz 13 6 ?_;refine tz 14 7 ?_;refine Zd ?_;obtain ⟨v9,hv9⟩:∃ V,V=w8.drew.drew:=⟨_,rfl⟩;rw [←hv9];have HB9:=Zh (show Below w9.heap.size w9 v9 by rw [hv9];exact HB8.out.drew.drew)
    clear hv9
    go_wp2_with fail
    refine bodyPost_ret (v:=.tuple #[.slice A2 n2 c2,.slice (CA.map (·.add e0)) n2 (cC-e0)]) (by simp [results,results165,go_sem]) rfl ?_;have hcl:=HCL.out.sub e0 n2 HBD.out.1;rw [HN2.out] at hcl;refine ⟨A2,_,n2,c2,_,(n+1),x.2,_,(fun p q=>if p=J∧q=c then some (.agg #[.slice A1 n1 c1,.slice A2 n2 c2]) else f p q),rfl,HNX2.out,HR2.out.le (G2.more HB9.out),?_,HMV.out.below HB9.out,HNN.out,HMCV.out.le (G2.more HB9.out),HX6.out.trans (Nxw.below HB9.out HMV.out.lt),HBD.out.2.2⟩;rw [HN2.out];exact hcl.le (HG2.out v9 (HX6.out.trans (Nxw.below HB9.out HMV.out.lt)))
end Go.Proofs.YtdheeddnkdhfeaaGreatDoor
namespace Go.Proofs.YtdheeddnkdhfeaaGreatDoor
open Go.RowKit Go.Sort Go.Shelf Go.Proofs.Tryz
attribute [local go_sem ↓] Go.wp_at_zero Go.wp_at_succ
theorem revI_ok (A:Option Addr)(n c B:Nat)(zs:List Int)(w:World) (h:Own w B 3 1 A n c (Qag zs)) (hB:B≤w.heap.size) (hn:n≤1000000000) :
 Calls prog 189 #[.slice A n c] w fun e w'=>e=.returned (.tuple #[])∧Own w' B 3 1 A n c (Qag zs.reverse)∧Below B w w':=by
 have hlen:zs.length=n:=by have:=h.1;simpa [Qag] using this
 rcases Nat.eq_zero_or_pos n with h0|h0
 · subst h0
   obtain rfl:zs=[]:=List.eq_nil_of_length_eq_zero hlen;have hcon:=AnyE.slices_Reverse_empty revInt A c w;refine Calls.mono (show Calls prog 189 _ _ _ from hcon) ?_
   rintro e w' ⟨rfl,rfl⟩;exact ⟨rfl,h,Zr _ _⟩
 · obtain ⟨g,cur,rfl,_,_,_⟩:=h.block h0
   obtain ⟨hl,hg,hBg,hH,h1,h2,h3⟩:=h.sorted;have hcon:=AnyE.slices_Reverse revInt (Value.int .i64) (fun _=>rfl) g 0 c zs w hH (by omega);rw [hl] at hcon;refine Calls.mono (show Calls prog 189 _ _ _ from hcon) ?_
   rintro e w' ⟨rfl,q,rfl⟩;have ho:=h3 zs.reverse q #[] (by simpa using hlen);rw [Go.Sort.grow_empty] at ho;have hgr:=grownBy_sortedI (w:=w) (g:=g) (n:=q) (os:=#[]) zs.reverse.toArray;rw [Go.Sort.grow_empty] at hgr;exact ⟨rfl,ho,(Zr B w).grown hgr hB fun k hk=>by cases hk;exact hBg⟩
def lenOf:Value→Nat
 | .slice _ n _=>n
 | _=>0
section
variable {E:OD} {w:World} {G X:Nat→Prop} {n:Nat} {f:Nat→Nat→Option Value} {bf dl:List Int} {hp:Nat→Option Int} {R Lp:Int}
set_option maxRecDepth 20000 in
set_option maxHeartbeats 2000000 in
theorem oBack_ok (h:OpW w G X E n f bf dl hp R Lp)(St:Qbd)(s to:Nat)(v:Int)(dn:Nat→Option Int)(bs:List Nat)(cs:List Int)(hv:Vi St s bf dn to v bs cs)(hl:bs.length≤16384)(hlb:bf.length=E.na) :
 Calls prog 164 #[.pointer (some ⟨E.qb,0,none⟩),.int .i64 s,.int .i64 to] w fun e w'=>∃ A n c,e=.returned (.slice A n c)∧Own w' w.heap.size 3 1 A n c (Qag (nis bs))∧Below w.heap.size w w':=by
 have HV:=Zh hv;have HL:=Zh hl;have HQ:=Zh (show ∀ V,Below w.heap.size w V→V.cell? ⟨E.qb,6,none⟩=some (.slice (some ⟨E.bb,0,none⟩) E.na E.na) from fun V hV=>Zc hV (Zn _) (h.at_ rfl))
 have HB:=Zh h.bfB;have HLB:=Zh hlb;obtain ⟨qb,hqb⟩:∃ q,q=E.qb:=⟨_,rfl⟩;obtain ⟨bb,hbb⟩:∃ q,q=E.bb:=⟨_,rfl⟩;obtain ⟨na,hna⟩:∃ q,q=E.na:=⟨_,rfl⟩;rw [←hqb] at HQ ⊢;rw [←hbb] at HQ HB;rw [←hna] at HQ HLB;clear h hv hl hlb hqb hbb hna
 go_enter func164,ntmps164
 go_wp2_with fail
 go_loopw [7,8] (fun ul ub W=>∃ (q:Nat) (c1:Int) (b1:List Nat) (k1:List Int) (A:Option Addr) (n c:Nat) (M:List Nat),ub=.int .i64 q∧ul=.slice A n c∧Vi St s bf dn q c1 b1 k1∧bs=b1 ++M.reverse∧n=M.length∧Own W w.heap.size 3 1 A n c (Qag (nis M))∧Below w.heap.size w W) (fun ul _ _=>bs.length-lenOf ul)
 case atStart=>exact ⟨to,v,bs,cs,none,0,0,[],rfl,rfl,HV.out,by simp,rfl,Own.nil _ _ _ _,Zr _ _⟩
 case round =>
  obtain ⟨q,c1,b1,k1,A,n,c,M,rfl,rfl,hv,he,hn,ho,hb⟩:=hrel;have HO:=Zh ho;have HBW:=Zh hb;have HE:=Zh he;have HN:=Zh hn
  have hnl:n≤bs.length:=by
   have:=congrArg List.length he;rw [Yp,List.length_reverse] at this;omega
  have hn9:n≤16384:=Yx hnl HL.out;have q6:=HQ.out wr hb
  by_cases hqs:q=s
  · subst hqs
    have HM:=Zh (show bs=M.reverse from by
     cases hv with
     | start=>simpa using he
     | step _ _ h3 _ _ _=>exact absurd (List.mem_cons_self ..) h3)
    have HRV:=Zh (revI_ok A n c w.heap.size (nis M) wr ho hb.size (by omega));clear hv he ho hb hn q6 hnl
    go_wp2_with fail
    with_reducible refine HRV.out.mono ?_
    rintro e w2 ⟨rfl,hr,hb2⟩;have HR:=Zh hr;have HB2:=Zh (HBW.out.trans hb2);clear hr hb2
    go_wp2_with fail
    go_ret
    refine ⟨A,n,c,rfl,?_,HB2.out⟩;have:=HR.out;rw [show (nis M).reverse=nis bs by rw [HM.out];simp [nis]] at this
    exact this
  · obtain ⟨p,b2,k2,cp,hv2,hh1,hbq⟩:∃ p b2 k2 cp,Vi St s bf dn p cp b2 k2∧b1=b2 ++[q]∧bf[q]?=some ((p:Nat):Int):=by
     cases hv with
     | start=>exact absurd rfl hqs
     | step h1 h2 h3 h4 h5 h6=>exact ⟨_,_,_,_,h1,rfl,h4⟩
    have HV2:=Zh hv2;have he2:bs=b2 ++(M ++[q]).reverse:=by rw [he,hh1];simp
    have hnlt:n<bs.length:=by
     have:=congrArg List.length he2;rw [Yp,List.length_reverse,Yp,List.length_singleton] at this;omega
    have HE2:=Zh he2;have HLT:=Zh hnlt;have hql:=(Zs hbq).1;have hqn:(q:Int)<(na:Int):=by have:=HLB.out;omega
    have hq0:(0:Int)≤(q:Int):=by omega
    have hne:¬(q:Int)=(s:Int):=by omega
    have k7:=(HB.out.below hb HB.out.lt).cellI hbq;have HBQ:=Zh hbq;obtain ⟨W2,hW2⟩:∃ W2,W2=wr.alloc (.cells #[.int .i64 (q:Nat)] 3):=⟨_,rfl⟩;have hbW:Below wr.heap.size wr W2:=by rw [hW2];exact Qah
    have hrdW:Rds W2 1 (some ⟨wr.heap.size,0,none⟩) 1 (Qag (nis [q])):=by rw [hW2];exact (Blk.new wr 3 #[.int .i64 (q:Nat)]).rds rfl
    have hownW:=HO.out.below hbW;have hszW:w.heap.size≤W2.heap.size:=Yx HBW.out.size hbW.size;have HBW2:=Zh (Zb HBW.out hbW);have HW2:=Zh hW2;clear hv he ho hb hn hv2 hh1 hbq he2 hnl hnlt hql hW2 hbW
    go_wp2_with (at_builtin;rw [←HW2.out];with_reducible refine Qal rfl (.tmp 20) (.tmp 22) 61 rfl 3 _ 1 8 Qbm underlying61 rfl (by omega) rfl rfl hownW hrdW (Qao _) (by omega) (by omega) hszW ?_)
    intro A' c' w3 ho3 hg3 hat3;have hb3:Below w.heap.size w w3:=Zo HBW2.out hg3 hownW hszW;have q6:=HQ.out w3 hb3;have k7:=(HB.out.below hb3 HB.out.lt).cellI HBQ.out;have HO3:=Zh ho3;have HB3:=Zh hb3;clear hownW hrdW hszW ho3 hg3 hat3 hb3
    go_wp2_with fail
    go_roundw
    case rel=>exact ⟨p,_,b2,k2,A',n+1,c',M ++[q],rfl,rfl,HV2.out,HE2.out,by rw [Yp,HN.out];rfl,by rw [Qfj,Qbj];exact HO3.out,HB3.out⟩
    case measure=>have:=HLT.out;simp only [lenOf];omega
end
end Go.Proofs.YtdheeddnkdhfeaaGreatDoor
