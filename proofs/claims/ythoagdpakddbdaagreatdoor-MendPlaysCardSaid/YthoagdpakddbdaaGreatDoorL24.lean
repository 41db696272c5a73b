/- Parts of the proof: MeN, MeJ, MeT. -/
import Derived.Test.YthoagdpakddbdaaGreatDoorL23
namespace Go.Proofs.YthoagdpakddbdaaGreatDoor
open Go.RowKit Go.Proofs.Tryz
attribute [local go_sem ↓] Go.wp_at_zero Go.wp_at_succ
set_option maxRecDepth 20000 in
set_option maxHeartbeats 4000000 in
theorem Qrr (A B C:Option Addr)(n m k c d e:Nat)(N:Qai)(CA:Option Addr)(cn cc:Nat)(l:List Chn)(w:World)(h:Qbc w A B C n m k N)(hN:Qav N)(hl:Qig w CA cn l)(hb:Qcj N l)(hl256:l.length≤256) :
 Calls prog 24 #[.agg #[.slice A n c,.slice B m d,.slice C k e],.slice CA cn cc] w (AppQ w n m k (Qdq N l)):=by
 have h1:=hN.lv;have h2:=hN.la;have h3:=hN.lt;rw [h.1.1] at h1;rw [h.2.1.1] at h2;rw [h.2.2.1] at h3;have hc256:cn≤256:=by rw [←hl.1];exact hl256
 have HCP:=Zh (fun (V:World) (hV:Below w.heap.size w V)=>Qsc A B C n m k c d e N V (h.below hV) (by omega) (by omega) (by omega) (fun t ht=>by
  have:=(hN.tabs t ht).len;have h5:=hN.tabs t ht;have:=Qgo h5.i0 h5.i16 h5.o0 h5.o16;omega))
 have HL:=Zh hl;have HB:=Zh hb;have HN:=Zh hN;have HLN:=Zh hl.1;clear h hl hb hN hl256 h1 h2 h3
 go_enter func24,ntmps24
 go_wp2_with fail
 (refine Qac ?_;intro w1 hw1)
 have hb1:Below w.heap.size w w1:=by rw [hw1];exact Qaf
 have hJ:Blk w1 w.heap.size 26 #[.slice A n c,.slice B m d,.slice C k e]:=by rw [hw1];exact Qaz
 have hR:Blk w1 (w.heap.size+1) 26 #[.slice none 0 0,.slice none 0 0,.slice none 0 0]:=by rw [hw1];exact Qaz
 have hz1:w1.heap.size=w.heap.size+2:=by rw [hw1];simp
 clear hw1;with_reducible refine (HCP.out w1 hb1).mono ?_
 rintro r w2 ⟨A',B',C',c',d',e',K,xs,rfl,hK,hv,ha,hy,hd,hvK,haK,hb2⟩;have HS:=Zh (ApS.start hb1 hz1 hR hK hv ha hy hd hvK haK hb2);clear hJ hR hv ha hy hd hvK haK hK
 go_wp2_with fail
 obtain ⟨Bs,hBs⟩:∃ X,X=w1.heap.size:=⟨_,rfl⟩;obtain ⟨g,hgs⟩:∃ X,X=w2.heap.size:=⟨_,rfl⟩;rw [←hBs,←hgs] at HS;rw [←hgs];have HJJ:=Zh (hz1.trans rfl);clear hBs hgs hz1 hb1 hb2
 go_loopw [6] (fun q V=>∃ j:Nat,j≤cn∧q=.int .i64 j∧ApS w V Bs g K A' B' C' n m k c' d' e' xs (Qdq N (l.take j))) (fun q _=>cn+1-(intOf q).toNat)
 case atStart=>exact ⟨0,Nat.zero_le _,rfl,HS.out⟩
 case round =>
  obtain ⟨j,hj,rfl,hA⟩:=hrel
  by_cases hlt:j<cn
  rotate_left
  · obtain rfl:j=cn:=by omega
    rw [Ye (by rw [HLN.out];exact Zn _)] at hA;have i3:¬((j:Int)<(j:Int)):=by omega
    obtain ⟨d0,d1,d2⟩:=hA.bl.three;obtain ⟨r0,r1,r2⟩:=hA.rs.three;have f0:=hA.rs.frozen 0;have f1:=hA.rs.frozen 1;have f2:=hA.rs.frozen 2;have HA:=Zh hA;clear hA
    go_wp2_with fail
    refine bodyPost_ret (v:=.agg #[.slice A' n c',.slice B' m d',.slice C' k e']) (by simp [results,results24,go_sem,r0,r1,r2]) rfl ?_;obtain ⟨q1,q2⟩:=HA.out.res3 (.slice A' n c') (.slice B' m d') (.slice C' k e');exact ⟨A',B',C',c',d',e',rfl,q1,q2⟩
  obtain ⟨lb,lo,x,y,z,u,v,rfl,hc,k1,k2,k3,k4,k5⟩:=(HL.out.below hA.bel).at_ hlt;have hst:=Qte (N:=N) hc;have hck:=HB.out.at_ hc;have hNj:=Qpo HN.out (HB.out.pre j);obtain ⟨d0,d1,d2⟩:=hA.bl.three;have xg:=hA.bl.lt;have i3:(j:Int)<(cn:Int):=by omega
  have i4:(0:Int)≤(j:Int):=by omega
  have HST:=Zh hst;have HC:=Zh hc;have HA:=Zh hA;have HNJ:=Zh hNj;clear hst hc hNj hA
  rcases hck with ⟨a,hs⟩|⟨p,i,t,hs⟩
  · obtain rfl:x=1:=hs.k
    obtain rfl:y=(a:Int):=hs.at_;obtain rfl:z=0:=hs.i;obtain rfl:u=0:=hs.o;have hal:=hs.lt;obtain ⟨⟨ax,ay,az⟩,hax⟩:∃ e,(Qdq N (l.take j)).ar[a]?=some e:=⟨_,Zg hal⟩;have ham:(Qdq N (l.take j)).ar.length=m:=HA.out.rd.2.1.1;rw [ham] at hal;obtain ⟨gb,cur,rfl,hge,hblk,_,_,hget⟩:=HA.out.a.block (by omega);have fz:=hblk.frozen (a*3+2);obtain ⟨_,_,e0,_,_,c3⟩:=HA.out.a.rds.rd3.2 a _ hax
    cases e0
    rw [Yz] at c3;have i5:(a:Int)<(m:Int):=by omega
    have i6:(0:Int)≤(a:Int):=by omega
    have HX:=Zh hax;have HE:=Zh (show Qpa (Qdq N (l.take j)) (1,(a:Int),0,0,v)=(Qdq N (l.take j)).setW a ax ay v from hs.eq hax)
    have HST2:=Zh (HA.out.setA hax v);rw [←HE.out,←HST.out] at HST2;have xb:=hblk.lt;clear hblk hge hget hs hax ham
    go_wp2_with fail
    go_roundw
    case rel=>exact ⟨j+1,by omega,by go_num,by first|exact HST2.out.alloc _|exact (HST2.out.alloc _).alloc _⟩
    case measure=>simp [intOf];omega
  · obtain rfl:x=2:=hs.k
    obtain rfl:y=(p:Int):=hs.at_;have hil:=hs.lt HNJ.out;have HBE:=Zh (show Qpa (Qdq N (l.take j)) (2,(p:Int),z,u,v)=(Qdq N (l.take j)).bend p (t.turn i v) from hs.eq)
    have htt:=hs.tt;obtain ⟨ti,tO,ci,co,cs,rfl,hz,hu,hci,hco,hii⟩:=hs.nat HNJ.out;obtain rfl:z=(ci:Int):=hz;obtain rfl:u=(co:Int):=hu;have hpk:=(Zs htt).1;rw [HA.out.y.2.1] at hpk;obtain ⟨A2,n2,c2,p1,p2,p3,hown,_⟩:=HA.out.y.2.2.1 p _ htt;obtain ⟨cb,cur,rfl,_,hblk,_,_,hget⟩:=HA.out.y.1.block (by omega);have hn2:n2=cs.length:=by have:=hown.1;simp [Qad] at this;omega
    simp only at hil;obtain ⟨gb,cur2,rfl,_,hblk2,_,_,_⟩:=hown.block (by omega);have fz:=hblk2.frozen i;obtain ⟨_,_,e0,c3⟩:=hown.rds.rdI.2 i _ (Zg hil)
    cases e0
    rw [Yz] at c3;have q1:wr.cell? ⟨cb,p*3,none⟩=some (.int .i64 ti):=by rw [hblk.cell];exact hget _ _ p1
    have q2:wr.cell? ⟨cb,p*3+1,none⟩=some (.int .i64 tO):=by rw [hblk.cell];exact hget _ _ p2
    have q3:wr.cell? ⟨cb,p*3+2,none⟩=some (.slice (some ⟨gb,0,none⟩) n2 c2):=by rw [hblk.cell];exact hget _ _ p3
    have htb:=HNJ.out.tabs _ (Zm htt);have hi16:=htb.i16;have ho16:=htb.o16;simp only at hi16 ho16;have hmb:=Qgo (a:=(ci:Int)) (b:=(tO:Int)) (by omega) (by omega) (by omega) (by omega);obtain ⟨k0,hk0⟩:∃ k0,k0=ci*tO:=⟨_,rfl⟩;have m1:(ci:Int)*(tO:Int)=(k0:Int):=by rw [hk0];simp
    rw [m1] at hmb;have m2:(k0:Int)+(co:Int)=(i:Int):=by rw [hii,←hk0];simp
    have wk0:IntKind.i64.wrap (k0:Int)=(k0:Int):=IntWalk.i64_in _ (by omega);have wk:IntKind.i64.wrap (i:Int)=(i:Int):=IntWalk.i64_in _ (by omega);have i5:(p:Int)<(k:Int):=by omega
    have i6:(0:Int)≤(p:Int):=by omega
    have i7:(i:Int)<(n2:Int):=by omega
    have i8:(0:Int)≤(i:Int):=by omega
    have HST2:=Zh (HA.out.setT htt p3 (i:=i) v);rw [←HBE.out,←HST.out] at HST2;have xb:=hblk2.lt;have xc:=hblk.lt;clear hblk hget hs htt p1 p2 p3 hown hblk2 hi16 ho16 htb hmb hk0 hii hn2 hci hco hpk
    go_wp2_with fail
    go_roundw
    case rel=>exact ⟨j+1,by omega,by go_num,by first|exact HST2.out.alloc _|exact (HST2.out.alloc _).alloc _⟩
    case measure=>simp [intOf];omega
set_option maxHeartbeats 2000000 in
theorem Qlr (A B C Q:Option Addr)(n m k c d e L cq li:Nat)(qq:Int)(N:Qai) (ls:List (List Int)) (l:List Int) (w:World) (h:Qbc w A B C n m k N) (hok:Qav N) (hq:RdT w Q L ls) (hl:ls[li]?=some l) (hll:l.length=N.vs.length) (hL:L≤1000000) :
 Calls prog 62 #[.agg #[.slice A n c,.slice B m d,.slice C k e],.agg #[.slice Q L cq],.int .i64 ((li:Int)+1),.int .i64 qq] w fun r w'=>∃ A' n' c',r=.returned (.slice A' n' c')∧RdI w' A' n' (Qcx (inB l qq) N.ar)∧(∀ b,Qaa A'=some b→w.heap.size≤b)∧Below w.heap.size w w':=by
 have HH:=Zh h;have HM:=Zh h.2.1.1;have hm:m≤16384:=by rw [←h.2.1.1];exact hok.la
 have hliL:li<L:=by rw [←hq.1];exact (Zs hl).1
 obtain ⟨qb,qo,LA,ln,lc,l',rfl,hl',q1,q2,q3,q4⟩:=hq.at_ hliL;rw [hl] at hl'
 cases hl'
 have hln:ln=N.vs.length:=by rw [←q2.1];exact hll
 have i5:(li:Int)+1-1=(li:Int):=by omega
 have i6:(li:Int)<(L:Int):=by omega
 have i7:(0:Int)≤(li:Int):=by omega
 have wl:IntKind.i64.wrap (li:Int)=(li:Int):=IntWalk.i64_in _ (by omega);have HQ:=Zh q2;have HQ1:=Zh q1;have HLN:=Zh hln;have hlv:=hok.lv;have HAR:=Zh hok.arcs;clear h hq hl q1 q2 q3 q4 hll hln hok
 go_enter func62,ntmps62
 go_wp2_with fail
 (refine Qag ?_;intro w1 hw1)
 have hb1:Below w.heap.size w w1:=by rw [hw1];exact Qaf
 have hX:Blk w1 w.heap.size 26 #[.slice A n c,.slice B m d,.slice C k e]:=by
  rw [hw1];refine Blk.alloc ?_ _;exact Blk.new _ _ _
 have hY:Blk w1 (w.heap.size+1) 29 #[.slice (some ⟨qb,qo,none⟩) L cq]:=by
  rw [hw1];refine Blk.new' _ _ _ ?_;simp
 clear hw1
 go_loopw [9,10] (fun z q V=>∃ (i:Nat) (A':Option Addr) (c':Nat),i≤m∧q=.int .i64 i∧z=.slice A' (Qcx (inB l qq) (N.ar.take i)).length c'∧Own V w1.heap.size 3 1 A' (Qcx (inB l qq) (N.ar.take i)).length c' (Qad (Qcx (inB l qq) (N.ar.take i)))∧Below w1.heap.size w1 V) (fun _ q _=>m-(intOf q).toNat)
 case atStart=>exact ⟨0,none,0,Nat.zero_le _,rfl,rfl,Own.nil _ _ _ _,Zr _ _⟩
 case round =>
  obtain ⟨i,A',c',hi,rfl,rfl,hown,hbl⟩:=hrel;have hXr:=hX.below hbl hX.lt;have hYr:=hY.below hbl hY.lt;have x1:=hXr.cell 1;have xl:=hXr.lt;have y0:=hYr.cell 0;have yl:=hYr.lt;simp only [Yo,Yn,List.getElem?_cons_succ] at x1 y0;have hbd:(Qcx (inB l qq) (N.ar.take i)).length≤i:=Yx (Qfi _ _) (by rw [Yw];omega);have HOW:=Zh hown;obtain ⟨no,hno⟩:∃ no,no=(Qcx (inB l qq) (N.ar.take i)).length:=⟨_,rfl⟩;rw [←hno] at hbd ⊢;have HNO:=Zh hno;clear hown hno
  by_cases hlt:i<m
  rotate_left
  · obtain rfl:i=m:=by omega
    have i1:¬((i:Int)<(i:Int)):=by omega
    go_wp2_with fail
    go_ret
    refine ⟨A',no,⟨c',rfl⟩,?_,fun b hb=>by have:=(HOW.out.lt b hb).1;have:=hb1.size;omega,Zb hb1 hbl⟩;have:=HOW.out.rds.rdI;rw [Ye (by rw [HM.out];exact Zn _)] at this;rw [HNO.out,Ye (by rw [HM.out];exact Zn _)];exact this
  · have i1:(i:Int)<(m:Int):=by omega
    have i2:(0:Int)≤(i:Int):=by omega
    go_wp2_with fail
    with_reducible refine (Qfv _ L cq li wr hliL).mono ?_
    rintro r w2 ⟨rfl,hb2⟩;have hbl2:=Zb hbl hb2;have HOW2:=Zh (HOW.out.below hb2);have hbw:=Zb hb1 hbl2;clear x1 xl y0 yl hXr hYr hb2 hbl HOW;obtain ⟨y,hy⟩:∃ y,N.ar[i]?=some y:=⟨_,Zg (by rw [HM.out];exact hlt)⟩;obtain ⟨b,o,rfl,c0,c1,c2⟩:=(HH.out.below hbw).2.1.2 i y hy;have ho:=HAR.out y (Zm hy);have f0:=ho.f0;have f1:=ho.f1;have g0:=ho.g0;have g1:=ho.g1;obtain ⟨u,hu⟩:∃ u:Nat,y.1=(u:Int):=⟨y.1.toNat,by omega⟩;obtain ⟨v,hv⟩:∃ v:Nat,y.2.1=(v:Int):=⟨y.2.1.toNat,by omega⟩;rw [hu] at c0;rw [hv] at c1;have hun:u<ln:=by rw [HLN.out];omega
    have hvn:v<ln:=by rw [HLN.out];omega
    obtain ⟨b1,o1,z1,rfl,hz1,d1⟩:=(HQ.out.below hbw).at_ hun;obtain ⟨b1',o1',z2,e',hz2,d2⟩:=(HQ.out.below hbw).at_ hvn
    cases e'
    have hqc:=Zc hbw (Zn _) HQ1.out;have hXr:=hX.below hbl2 hX.lt;have hYr:=hY.below hbl2 hY.lt
    have hcr:inB l qq y=(z1 == qq && z2 == qq):=by
     unfold inB;rw [hu,hv,Qbg hz1,Qbg hz2]
    have j1:(u:Int)<(ln:Int):=by omega
    have j2:(v:Int)<(ln:Int):=by omega
    have j3:(0:Int)≤(u:Int):=by omega
    have j4:(0:Int)≤(v:Int):=by omega
    have HY:=Zh hy;have HCR:=Zh hcr
    have HSX:=Zh (show ∀ V,Below w2.heap.size w2 V→V.cell? ⟨w.heap.size,1,none⟩=some (.slice (some ⟨b,o,none⟩) m d)∧V.cell? ⟨w.heap.size+1,0,none⟩=some (.slice (some ⟨qb,qo,none⟩) L cq)∧V.cell? ⟨qb,qo+li,none⟩=some (.slice (some ⟨b1,o1,none⟩) ln lc)∧V.cell? ⟨b,o+i*3,none⟩=some (.int .i64 u)∧V.cell? ⟨b,o+i*3+1,none⟩=some (.int .i64 v)∧V.cell? ⟨b1,o1+u,none⟩=some (.int .i64 z1)∧V.cell? ⟨b1,o1+v,none⟩=some (.int .i64 z2) from
     fun V hV=>⟨by rw [(hXr.below hV hXr.lt).cell];rfl,by rw [(hYr.below hV hYr.lt).cell];rfl,Zc hV (Zn _) hqc,Zc hV (Zn _) c0,Zc hV (Zn _) c1,Zc hV (Zn _) d1,Zc hV (Zn _) d2⟩)
    clear hy hcr c0 c1 c2 d1 d2 hqc hXr hYr hu hv hz1 hz2 f0 f1 g0 g1 ho
    go_wp2_with fail
    refine wp_region_held_drew (S:=fun V=>Below w2.heap.size w2 V) (by kernel_rfl) (Zr _ _).drew (fun _=>?_)
    by_cases hv1:z1=qq
    rotate_left
    · have f1:(z1 == qq)=false:=by simpa using hv1
      have e1:(z1 == qq && z2 == qq)=false:=by rw [f1,Bool.false_and]
      have HE:=Zh hv1;clear hv1;refine tz 0 23 ?_;refine tz 1 24 ?_;refine tz 2 25 ?_;refine tz 3 26 ?_;refine tz 4 27 ?_;refine tz 5 28 ?_;refine tz 6 29 ?_;refine tz 7 30 ?_;refine tz 8 31 ?_;refine tz 9 32 ?_;refine tz 10 33 ?_;refine tz 11 34 ?_;refine tz 12 35 ?_;refine tz 13 36 ?_;refine tz 14 37 ?_;refine tz 15 38 ?_;refine tz 16 39 ?_;refine tw 17 40 ?_;refine tw 18 41 ?_;refine tw 19 42 ?_;refine tw 20 43 ?_;refine tw 21 44 ?_;refine tw 22 45 ?_;refine tw 23 46 ?_;refine tw 24 47 ?_;refine tw 25 48 ?_;refine tw 26 49 ?_;refine tw 27 50 ?_;refine tw 28 51 ?_;refine tw 29 52 ?_;refine tw 30 53 ?_;refine tw 31 54 ?_;refine tw 32 55 ?_;refine tz 33 56 ?_;refine Zd ?_;clear HSX;have HN1:=Zh (show Qcx (inB l qq) (N.ar.take (i+1))=Qcx (inB l qq) (N.ar.take i) by rw [Qev HY.out,HCR.out,e1];simp)
      go_wp2_with fail
      go_roundw
      case rel=>exact ⟨i+1,A',c',by omega,by go_num,by rw [HN1.out,HNO.out],by rw [HN1.out];exact HOW2.out.drew,hbl2.drew⟩
      case measure=>simp [intOf];omega
    subst hv1
    by_cases hv2:z2=z1
    rotate_left
    · have f2:(z2 == z1)=false:=by simpa using hv2
      have e1:(z1 == z1 && z2 == z1)=false:=by rw [f2,Bool.and_false]
      have HE:=Zh hv2;clear hv2;refine tz 0 23 ?_;refine tz 1 24 ?_;refine tz 2 25 ?_;refine tz 3 26 ?_;refine tz 4 27 ?_;refine tz 5 28 ?_;refine tz 6 29 ?_;refine tz 7 30 ?_;refine tz 8 31 ?_;refine tz 9 32 ?_;refine tz 10 33 ?_;refine tz 11 34 ?_;refine tz 12 35 ?_;refine tz 13 36 ?_;refine tz 14 37 ?_;refine tz 15 38 ?_;refine tz 16 39 ?_;refine tz 17 40 ?_;refine tz 18 41 ?_;refine tz 19 42 ?_;refine tz 20 43 ?_;refine tz 21 44 ?_;refine tz 22 45 ?_;refine tz 23 46 ?_;refine tz 24 47 ?_;refine tz 25 48 ?_;refine tz 26 49 ?_;refine tz 27 50 ?_;refine tz 28 51 ?_;refine tz 29 52 ?_;refine tz 30 53 ?_;refine tz 31 54 ?_;refine tz 32 55 ?_;refine tz 33 56 ?_;refine Zd ?_;clear HSX;have HN1:=Zh (show Qcx (inB l z1) (N.ar.take (i+1))=Qcx (inB l z1) (N.ar.take i) by rw [Qev HY.out,HCR.out,e1];simp)
      go_wp2_with fail
      go_roundw
      case rel=>exact ⟨i+1,A',c',by omega,by go_num,by rw [HN1.out,HNO.out],by rw [HN1.out];exact HOW2.out.drew,hbl2.drew⟩
      case measure=>simp [intOf];omega
    subst hv2;refine tz 0 23 ?_;refine tz 1 24 ?_;refine tz 2 25 ?_;refine tz 3 26 ?_;refine tz 4 27 ?_;refine tz 5 28 ?_;refine tz 6 29 ?_;refine tz 7 30 ?_;refine tz 8 31 ?_;refine tz 9 32 ?_;refine tz 10 33 ?_;refine tz 11 34 ?_;refine tz 12 35 ?_;refine tz 13 36 ?_;refine tz 14 37 ?_;refine tz 15 38 ?_;refine tz 16 39 ?_;refine tz 17 40 ?_;refine tz 18 41 ?_;refine tz 19 42 ?_;refine tz 20 43 ?_;refine tz 21 44 ?_;refine tz 22 45 ?_;refine tz 23 46 ?_;refine tz 24 47 ?_;refine tz 25 48 ?_;refine tz 26 49 ?_;refine tz 27 50 ?_;refine tz 28 51 ?_;refine tz 29 52 ?_;refine tz 30 53 ?_;refine tz 31 54 ?_;refine tz 32 55 ?_;refine tz 33 56 ?_;refine Zd ?_;clear HSX;have e1:(z2 == z2 && z2 == z2)=true:=by simp
    obtain ⟨W1,hW1⟩:∃ W1,W1=w2.drew:=⟨_,rfl⟩;have hbW1:Below w1.heap.size w1 W1:=by rw [hW1];exact hbl2.drew
    have hown2:Own W1 w1.heap.size 3 1 A' no c' (Qad (Qcx (inB l z2) (N.ar.take i))):=by
     rw [hW1];have:=HOW2.out;rw [←HNO.out] at this;exact this.drew
    rw [←hW1];obtain ⟨W2,hW2⟩:∃ W2,W2=W1.alloc (.cells #[.int .i64 i] 3):=⟨_,rfl⟩;have hown3:Own W2 w1.heap.size 3 1 A' no c' (Qad (Qcx (inB l z2) (N.ar.take i))):=by rw [hW2];exact hown2.alloc _
    have hrd:Rds W2 1 (some ⟨W1.heap.size,0,none⟩) 1 (Qad [(i:Int)]):=by rw [hW2];exact (Blk.new W1 3 #[.int .i64 i]).rds rfl
    have hba:Below w1.heap.size w1 W2:=by rw [hW2];exact Below.alloc hbW1 hbW1.size _
    have hsz:w1.heap.size≤W2.heap.size:=hba.size;have HW2:=Zh hW2;clear hW2 hown2 hW1 hbW1
    go_wp2_with (at_builtin;rw [←HW2.out];with_reducible refine Qas rfl (.tmp 57) (.tmp 59) 93 rfl 3 _ 1 8 Qbk underlying93 rfl (by omega) rfl rfl hown3 hrd (Qam _) (by omega) (by omega) hsz ?_)
    intro A3 c3 w8 ho8 hg8 _;have hb8:Below w1.heap.size w1 w8:=Zo hba hg8 hown3 hsz;have HN0:=Zh (show Qcx (inB l z2) (N.ar.take (i+1))=Qcx (inB l z2) (N.ar.take i) ++[(i:Int)] by rw [Qev HY.out,HCR.out,e1,if_pos rfl])
    have HO8:=Zh (show Own w8 w1.heap.size 3 1 A3 (no+1) c3 (Qad (Qcx (inB l z2) (N.ar.take (i+1)))) by rw [HN0.out,Qbi];exact ho8)
    have HN1:=Zh (show (Qcx (inB l z2) (N.ar.take (i+1))).length=no+1 by rw [HN0.out,Yp,←HNO.out];rfl)
    clear hown3 hrd hba hsz ho8 hg8
    go_wp2_with fail
    go_roundw
    case rel=>exact ⟨i+1,A3,c3,by omega,by go_num,by rw [HN1.out],by rw [HN1.out];exact HO8.out,hb8⟩
    case measure=>simp [intOf];omega
theorem mbI_le (l:List Int)(q:Int)(k:Nat):(mbI (l.take k) q).length≤k:=Yx (Qzt _ _) (by rw [Yw];omega)
set_option maxHeartbeats 2000000 in
theorem Qkq (Q:Option Addr)(L cq li:Nat)(qq:Int) (ls:List (List Int)) (l:List Int) (w:World) (hq:RdT w Q L ls) (hl:ls[li]?=some l) (hll:l.length≤1000000) (hL:L≤1000000) :
 Calls prog 63 #[.agg #[.slice Q L cq],.int .i64 ((li:Int)+1),.int .i64 qq] w fun r w'=>∃ A' n' c',r=.returned (.slice A' n' c')∧RdI w' A' n' (mbI l qq)∧(∀ b,Qaa A'=some b→w.heap.size≤b)∧Below w.heap.size w w':=by
 have hliL:li<L:=by rw [←hq.1];exact (Zs hl).1
 obtain ⟨qb,qo,LA,ln,lc,l',rfl,hl',q1,q2,q3,q4⟩:=hq.at_ hliL;rw [hl] at hl'
 cases hl'
 have hln:l.length=ln:=q2.1;have i5:(li:Int)+1-1=(li:Int):=by omega
 have i6:(li:Int)<(L:Int):=by omega
 have i7:(0:Int)≤(li:Int):=by omega
 have wl:IntKind.i64.wrap (li:Int)=(li:Int):=IntWalk.i64_in _ (by omega);rw [hln] at hll;have HQ:=Zh q2;have HQ1:=Zh q1;have HLN:=Zh hln;clear hq hl q1 q2 q3 q4 hln
 go_enter func63,ntmps63
 go_wp2_with fail
 (refine Qac ?_;intro w1 hw1)
 have hb1:Below w.heap.size w w1:=by rw [hw1];exact Qaf
 have hY1:Blk w1 w.heap.size 29 #[.slice (some ⟨qb,qo,none⟩) L cq]:=by rw [hw1];exact Qaz
 clear hw1;with_reducible refine (Qfv _ L cq li w1 hliL).mono ?_
 rintro r w2 ⟨rfl,hb2⟩;have hb:=Zb hb1 hb2;have HY:=Zh (hY1.below hb2 hY1.lt);clear hb1 hb2 hY1
 go_wp2_with fail
 go_loopw [7,8] (fun z q V=>∃ (i:Nat) (A':Option Addr) (c':Nat),i≤ln∧q=.int .i64 i∧z=.slice A' (mbI (l.take i) qq).length c'∧Own V w2.heap.size 3 1 A' (mbI (l.take i) qq).length c' (Qad (mbI (l.take i) qq))∧Below w2.heap.size w2 V) (fun _ q _=>ln-(intOf q).toNat)
 case atStart=>exact ⟨0,none,0,Nat.zero_le _,rfl,rfl,Own.nil _ _ _ _,Zr _ _⟩
 case round =>
  obtain ⟨i,A',c',hi,rfl,rfl,hown,hbl⟩:=hrel;have hYr:=HY.out.below hbl HY.out.lt;have y0:wr.cell? ⟨w.heap.size,0,none⟩=some (.slice (some ⟨qb,qo,none⟩) L cq):=Zq hYr;have yl:=hYr.lt;have hbw:=Zb hb hbl;have y1:=Zc hbw (Zn _) HQ1.out;have hbd:=mbI_le l qq i;have HOW:=Zh hown;obtain ⟨no,hno⟩:∃ no,no=(mbI (l.take i) qq).length:=⟨_,rfl⟩;rw [←hno] at hbd ⊢;have HNO:=Zh hno;clear hown hno hYr
  by_cases hlt:i<ln
  rotate_left
  · obtain rfl:i=ln:=by omega
    have i1:¬((i:Int)<(i:Int)):=by omega
    go_wp2_with fail
    go_ret
    refine ⟨A',no,⟨c',rfl⟩,?_,fun b hb'=>by have:=(HOW.out.lt b hb').1;have:=hb.size;omega,hbw⟩;have:=HOW.out.rds.rdI;rw [Ye (by rw [HLN.out];exact Zn _)] at this;rw [HNO.out,Ye (by rw [HLN.out];exact Zn _)];exact this
  have i1:(i:Int)<(ln:Int):=by omega
  have i2:(0:Int)≤(i:Int):=by omega
  obtain ⟨b1,o1,z,rfl,hz,d1⟩:=(HQ.out.below hbw).at_ hlt;have HZ:=Zh hz;clear hz
  by_cases hv:z=qq
  rotate_left
  · have e1:(z == qq)=false:=by simpa using hv
    have HN1:=Zh (show mbI (l.take (i+1)) qq=mbI (l.take i) qq by rw [Qtm HZ.out,if_neg hv,List.append_nil])
    have HV:=Zh hv;clear hv
    go_wp2_with fail
    go_roundw
    case rel=>exact ⟨i+1,A',c',by omega,by go_num,by rw [HN1.out,HNO.out],by rw [HN1.out];exact HOW.out,hbl⟩
    case measure=>simp [intOf];omega
  subst hv;obtain ⟨W2,hW2⟩:∃ W2,W2=wr.alloc (.cells #[.int .i64 i] 3):=⟨_,rfl⟩
  have hown2:Own wr w2.heap.size 3 1 A' no c' (Qad (mbI (l.take i) z)):=by
   have:=HOW.out;rw [←HNO.out] at this;exact this
  have hown3:Own W2 w2.heap.size 3 1 A' no c' (Qad (mbI (l.take i) z)):=by rw [hW2];exact hown2.alloc _
  have hrd:Rds W2 1 (some ⟨wr.heap.size,0,none⟩) 1 (Qad [(i:Int)]):=by rw [hW2];exact (Blk.new wr 3 #[.int .i64 i]).rds rfl
  have hba:Below w2.heap.size w2 W2:=by rw [hW2];exact Below.alloc hbl hbl.size _
  have hsz:w2.heap.size≤W2.heap.size:=hba.size;have HW2:=Zh hW2;have HBW:=Zh hb;clear hW2 hown2 hbl hbw hb
  go_wp2_with (at_builtin;rw [←HW2.out];with_reducible refine Qas rfl (.tmp 35) (.tmp 37) 93 rfl 3 _ 1 8 Qbk underlying93 rfl (by omega) rfl rfl hown3 hrd (Qam _) (by omega) (by omega) hsz ?_)
  intro A3 c3 w8 ho8 hg8 _;have hb8:Below w2.heap.size w2 w8:=Zo hba hg8 hown3 hsz;have HN0:=Zh (show mbI (l.take (i+1)) z=mbI (l.take i) z ++[(i:Int)] by rw [Qtm HZ.out,if_pos rfl])
  have HO8:=Zh (show Own w8 w2.heap.size 3 1 A3 (no+1) c3 (Qad (mbI (l.take (i+1)) z)) by rw [HN0.out,Qbi];exact ho8)
  have HN1:=Zh (show (mbI (l.take (i+1)) z).length=no+1 by rw [HN0.out,Yp,←HNO.out];rfl)
  clear hown3 hrd hba hsz ho8 hg8 y0 y1 d1
  go_wp2_with fail
  go_roundw
  case rel=>exact ⟨i+1,A3,c3,by omega,by go_num,by rw [HN1.out],by rw [HN1.out];exact HO8.out,hb8⟩
  case measure=>simp [intOf];omega
def Qie (f:Nat→Bool)(M j:Nat)(v:Bool):List Bool:=(List.range M).map (fun q=>if q<j then f q else if q=j then v else false)
theorem Qji (f:Nat→Bool)(M j:Nat)(v:Bool):(Qie f M j v).length=M:=by simp [Qie]
theorem Qjo {f:Nat→Bool}{M j:Nat}{v:Bool}(h:j<M):(Qie f M j v)[j]?=some v:=by
 unfold Qie;rw [Yt,List.getElem?_range h];simp
theorem Qst {f:Nat→Bool}{M j:Nat}{v u:Bool}:(Qie f M j v).set j u=Qie f M j u:=by
 apply List.ext_getElem?
 intro q
 by_cases hq:q<M
 · by_cases e:j=q
   · subst e
     rw [Yg (by rw [Qji];exact hq),Qjo hq]
   · rw [Yh e]
     unfold Qie;rw [Yt,Yt,List.getElem?_range hq];simp [Ne.symm e]
 · rw [Yd (by rw [Yq,Qji];omega),Yd (by rw [Qji];omega)]
theorem Qwl {f:Nat→Bool}{M j:Nat}:Qie f M j (f j)=Qie f M (j+1) false:=by
 unfold Qie
 apply List.map_congr_left
 intro q _
 by_cases h1:q<j
 · rw [if_pos h1,if_pos (by omega)]
 · by_cases h2:q=j
   · subst h2
     rw [if_neg h1,if_pos rfl,if_pos (by omega)]
   · rw [if_neg h1,if_neg h2,if_neg (by omega)]
     split <;> rfl
theorem Qwt (f:Nat→Bool)(M:Nat):Qie f M 0 false=List.replicate M false:=by
 unfold Qie;rw [List.eq_replicate_iff];refine ⟨by simp,fun b hb=>?_⟩;obtain ⟨q,_,rfl⟩:=List.mem_map.1 hb;simp
theorem rowC_all (f:Nat→Bool)(M:Nat):Qie f M M false=(List.range M).map f:=by
 unfold Qie
 apply List.map_congr_left
 intro q hq;rw [if_pos (List.mem_range.1 hq)]
structure TuI (B rb:Nat) (W4 W6 V:World) (row:List Bool):Prop where
 b4:Below B W4 V
 kp:Qax (fun b=>b≠rb) W6 V
 sz:W6.heap.size≤V.heap.size
 rw:Blk V rb 4 (Qca row)
section
variable {B rb:Nat} {W4 W6 V V':World} {row:List Bool}
theorem TuI.start (h:Below B W4 W6) (hr:Blk W6 rb 4 (Qca row)):TuI B rb W4 W6 W6 row:=⟨h,Qax.refl _ _,Zn _,hr⟩
theorem TuI.below (h:TuI B rb W4 W6 V row)(hB:B≤V.heap.size)(hb:Below V.heap.size V V'):TuI B rb W4 W6 V' row:=⟨h.b4.trans (hb.mono hB),h.kp.trans (Qax.below hb) h.sz,Yx h.sz hb.size,h.rw.below hb h.rw.lt⟩
theorem TuI.set (h:TuI B rb W4 W6 V row)(hB:B≤rb){q:Nat}{v:Bool}{row':List Bool}(e:row.set q v=row'):TuI B rb W4 W6 (V.setCell ⟨rb,q,none⟩ (.bool v)) row' :=
 ⟨h.b4.setCell (by exact hB) _,h.kp.trans (Qax.set V rb q _ (by simp)) h.sz,by simpa [World.setCell] using h.sz,h.rw.setB e⟩
theorem TuI.le (h:TuI B rb W4 W6 V row):Le (msk W6 (fun b=>b≠rb)) (msk V (fun b=>b≠rb)):=h.kp.msk
end
set_option maxRecDepth 20000 in
set_option maxHeartbeats 8000000 in
theorem Qls (A B C A2 B2 C2 Q:Option Addr)(n m k c d e c2 d2 e2 L cq:Nat)(N M:Qai) (ls:List (List Int)) (w:World) (h:Qbc w A B C n m k N) (g:Qbc w A2 B2 C2 n m k M) (hN:Qav N) (hM:Qav M) (hq:RdT w Q L ls) (hP:Qbw N.vs.length ls) :
 Calls prog 27 #[.agg #[.slice A n c,.slice B m d,.slice C k e],.agg #[.slice A2 n c2,.slice B2 m d2,.slice C2 k e2],.agg #[.slice Q L cq]] w (DrP w L (tb ls (fun i q=>netB N M (ls.getD i []) q))):=by
 have HLL:=Zh (show L=ls.length from hq.1.symm)
 have hL6:L≤6:=by rw [HLL.out];exact hP.l6
 have hn4:=hN.lv;have hm4:=hN.la;have hk4:=hN.lt;rw [h.1.1] at hn4;rw [h.2.1.1] at hm4;rw [h.2.2.1] at hk4;have HNV:=Zh h.1.1;have HNA:=Zh h.2.1.1;have HNT:=Zh h.2.2.1;have HH:=Zh h;have HG:=Zh g;have HN:=Zh hN;have HM:=Zh hM;have HQ:=Zh hq;have HP:=Zh hP;clear h g hN hM hq hP;obtain ⟨F,hF⟩:∃ F:Nat→Nat→Bool,F=fun i q=>netB N M (ls.getD i []) q:=⟨_,rfl⟩
 rw [←hF];have HF:=Zh hF;clear hF
 go_enter func27,ntmps27
 go_wp2_with fail
 (refine Qag ?_;intro w1 hw1)
 have hb1:Below w.heap.size w w1:=by rw [hw1];exact Qaf
 have hX:Blk w1 w.heap.size 26 #[.slice A n c,.slice B m d,.slice C k e]:=by rw [hw1];exact Qaz
 have hX2:Blk w1 (w.heap.size+1) 26 #[.slice A2 n c2,.slice B2 m d2,.slice C2 k e2]:=by rw [hw1];exact Qaz
 have hY:Blk w1 (w.heap.size+1+1) 29 #[.slice Q L cq]:=by rw [hw1];exact Qaz
 have HB1:=Zh hb1;have HX:=Zh hX;have HX2:=Zh hX2;have HY:=Zh hY;clear hw1 hb1 hX hX2 hY
 have HCELL:=Zh (show ∀ V,Below w1.heap.size w1 V→V.cell? ⟨w.heap.size,0,none⟩=some (.slice A n c)∧V.cell? ⟨w.heap.size,1,none⟩=some (.slice B m d)∧V.cell? ⟨w.heap.size,2,none⟩=some (.slice C k e)∧V.cell? ⟨w.heap.size+1,0,none⟩=some (.slice A2 n c2)∧V.cell? ⟨w.heap.size+1,1,none⟩=some (.slice B2 m d2)∧V.cell? ⟨w.heap.size+1,2,none⟩=some (.slice C2 k e2)∧V.cell? ⟨w.heap.size+1+1,0,none⟩=some (.slice Q L cq) from fun V hV=>by
  have h1:=(HX.out.below hV HX.out.lt).three;have h2:=(HX2.out.below hV HX2.out.lt).three;have h3:=(HY.out.below hV HY.out.lt).cell 0;exact ⟨h1.1,h1.2.1,h1.2.2,h2.1,h2.2.1,h2.2.2,h3⟩)
 go_loopw [7,8] (fun z q V=>Below w1.heap.size w1 V∧∃ (i:Nat) (R:Option Addr) (cp:Nat) (bs:List Nat),i≤L∧q=.int .i64 ((i:Int)+1)∧z=.slice R i cp∧TlO V w1.heap.size R i cp bs ((tb ls F).take i)) (fun _ q _=>L+1-(intOf q).toNat)
 case atStart=>exact ⟨Zr _ _,0,none,0,[],Nat.zero_le _,rfl,rfl,by rw [List.take_zero];exact TlO.start _ _⟩
 case round =>
  obtain ⟨hbl,i,R,cp,bs,hi,rfl,rfl,hT⟩:=hrel;have HT:=Zh hT;clear hT;obtain ⟨x0,x1,x2,y0,y1,y2,z0⟩:=HCELL.out wr hbl;have hbw:=Zb HB1.out hbl
  by_cases hlt:i<L
  rotate_left
  · obtain rfl:i=L:=by omega
    have i3:¬((i:Int)+1≤(i:Int)):=by omega
    have HF2:=Zh (show RdQ wr R i (tb ls F) by
     have h1:=HT.out;rw [Ye (by rw [Qfy,←HLL.out];exact Zn _)] at h1;refine h1.rdQ (fun r hr=>?_);obtain ⟨i',hi'⟩:=Yr hr;have hl':=(Zs hi').1;rw [Qfy] at hl';have h2:=Zg hl';have h3:=Qei (f:=F) h2;rw [hi'] at h3
     cases h3
     rw [List.length_map,List.length_range];have h4:=HP.out.lvl _ (Zm h2);have h5:=Qbq (l:=ls[i']) (n:=(N.vs.length:Int)) (fun x hx=>h4.hi x hx) (by omega);have:=HN.out.lv;omega)
    clear HT x0 x1 x2 y0 y1 y2
    go_wp2_with fail
    go_ret
    exact ⟨R,cp,rfl,HF2.out,hbw⟩
  have i1:(i:Int)+1≤(L:Int):=by omega
  obtain ⟨l,hl⟩:∃ l,ls[i]?=some l:=⟨_,Zg (by rw [←HLL.out];exact hlt)⟩;have hlv:=HP.out.lvl l (Zm hl);have hmn:=Qbq (l:=l) (n:=(N.vs.length:Int)) (fun x hx=>hlv.hi x hx) (by omega);have HCN:=Zh (Qjx Q L cq i ls l wr (HQ.out.below hbw) hl (by omega) (fun x hx=>⟨hlv.lo x hx,by have:=hlv.hi x hx;have:=HNV.out;omega⟩) (by have:=hlv.len;have:=HNV.out;omega));obtain ⟨Mc,hMc⟩:∃ Mc,Mc=(Qaj l).toNat:=⟨_,rfl⟩
  have hM0:Qaj l=(Mc:Int):=by
   have:0≤Qaj l:=Qbt l;omega
  rw [hM0] at HCN hmn;have hM4:Mc≤4096:=by have:=HNV.out;omega
  have hmk:=Qft Mc (by omega);have HL:=Zh hl;have HLV:=Zh hlv;have HMC:=Zh hMc;clear hl hlv hMc hM0 hmn
  go_wp2_with fail
  with_reducible refine HCN.out.mono ?_
  rintro r w4 ⟨rfl,hb4⟩;have hbl4:=Zb hbl hb4;have HT4:=Zh (HT.out.below hb4);have HB4:=Zh hbl4;clear HT hb4 hbl hbw HCN x0 x1 x2 y0 y1 y2 z0
  go_wp2_with fail
  (refine Qag ?_;intro w5 hw5)
  have hb5:Below w4.heap.size w4 w5:=by rw [hw5];exact Qaf
  have hr5:Blk w5 w4.heap.size 4 (Qca (Qie (F i) Mc 0 false)):=by
   rw [hw5,Qwt,show Qca (List.replicate Mc false)=Qbd (.bool false) Mc by simp [Qbd,Qca]]
   exact Blk.new _ _ _
  obtain ⟨rb,hrb⟩:∃ rb,rb=w4.heap.size:=⟨_,rfl⟩;rw [←hrb] at hr5 ⊢;have HRB:=Zh hrb;have hz4:=hbl4.size;have hz1:=HB1.out.size;clear hw5 hmk hbl4 hrb
  go_loopw [10] (fun q V=>Below w4.heap.size w4 V∧∃ j:Nat,j≤Mc∧q=.int .i64 j∧Blk V rb 4 (Qca (Qie (F i) Mc j false))) (fun q _=>Mc-(intOf q).toNat)
  case atStart=>exact ⟨hb5,0,Nat.zero_le _,rfl,hr5⟩
  case round =>
   clear hb5 hr5;obtain ⟨hb4,j,hj,rfl,hr⟩:=hrel;have hbl:=Zb HB4.out hb4;have hbw:=Zb HB1.out hbl
   by_cases hjm:j<Mc
   rotate_left
   · obtain rfl:j=Mc:=by omega
     have k3:¬((j:Int)<(j:Int)):=by omega
     have e1:(tb ls F)[i]?=some (Qie (F i) j j false):=by rw [rowC_all,Qei HL.out,HMC.out]
     have HTN:=Zh (show (tb ls F).take (i+1)=(tb ls F).take i ++[Qie (F i) j j false] by
      rw [Yf (Zs e1).1,(Zs e1).2])
     obtain ⟨W2,hW2⟩:∃ W2,W2=wr.alloc (.cells #[.slice (some ⟨rb,0,none⟩) j j] 80):=⟨_,rfl⟩;have HW2:=Zh hW2;have hb2:Below wr.heap.size wr W2:=by rw [hW2];exact Qaf
     have hrb2:Blk W2 rb 4 (Qca (Qie (F i) j j false)):=hr.below hb2 hr.lt
     have hrd:Rds W2 1 (some ⟨wr.heap.size,0,none⟩) 1 [rcel rb (Qie (F i) j j false)]:=by
      rw [hW2];unfold rcel;rw [Qji];have:=(Blk.new wr 80 #[.slice (some ⟨rb,0,none⟩) j j]).rds (s:=1) (m:=1) rfl
      simpa using this
     have hT2:=HT4.out.below (Zb hb4 hb2);have hown:=hT2.own;have hsz:w1.heap.size≤W2.heap.size:=by have:=hbl.size;have:=hb2.size;omega
     have HR2:=Zh hrb2;have HT2:=Zh hT2;have HB2:=Zh (Zb hbl hb2);have HBS:=Zh HT4.out.lt;have HRS:=Zh (fun g e=>(HT4.out.own.lt g e).2);clear hW2 hb2 hrb2 hT2 hr hb4 hbl hbw e1
     go_wp2_with (at_builtin;rw [←HW2.out];with_reducible refine Qas rfl (.tmp 112) (.tmp 114) 40 rfl 80 _ 1 24 infoQ underlying40 rfl (by omega) rfl rfl hown hrd (rcel_one _ _) (by omega) (by omega) hsz ?_)
     intro R3 c3 w8 ho8 hg8 hat8;have hb8:=Zo HB2.out hg8 hown hsz
     have HT8:=Zh (show TlO w8 w1.heap.size R3 (i+1) c3 (bs ++[rb]) ((tb ls F).take (i+1)) by
      rw [HTN.out];exact HT2.out.push HR2.out (by have:=HRB.out;omega) (fun b hb e=>by have:=HBS.out b hb;have:=HRB.out;omega) (fun e=>by have:=HRS.out _ e;have:=HRB.out;omega) ho8 hg8 hat8)
     clear hown hrd ho8 hg8 hat8
     go_wp2_with fail
     go_roundw
     case rel=>exact ⟨hb8,i+1,R3,c3,_,by omega,by go_num,rfl,HT8.out⟩
     case measure=>simp [intOf];omega
   have k3:(j:Int)<(Mc:Int):=by omega
   obtain ⟨x0,x1,x2,y0,y1,y2,z0⟩:=HCELL.out wr hbl;have HIN:=Zh (fun V (hV:Below w.heap.size w V)=>Qlr A B C Q n m k c d e L cq i (j:Int) N ls l V (HH.out.below hV) HN.out (HQ.out.below hV) HL.out HLV.out.len (by omega));have HME:=Zh (fun V (hV:Below w.heap.size w V)=>Qkq Q L cq i (j:Int) ls l V (HQ.out.below hV) HL.out (by have:=HLV.out.len;have:=HNV.out;omega) (by omega));have hrl:=hr.lt;have hzw:=HX.out.lt;have hzw2:=HX2.out.lt;have HBW0:=Zh hbw;have HBI:=Zh (show w4.heap.size≤rb from Nat.le_of_eq HRB.out.symm)
   have HBJ:=Zh (show w1.heap.size≤rb by have:=HRB.out;omega)
   go_wp2_with fail
   with_reducible refine (HIN.out wr hbw).mono ?_
   rintro r w6 ⟨A',na,ca,rfl,hA',hAb,hb6⟩;have HU6:=Zh (show TuI w4.heap.size rb w4 w6 w6 (Qie (F i) Mc j false) from TuI.start (Zb hb4 hb6) (hr.below hb6 hr.lt))
   have HA':=Zh (show RdI (msk w6 (fun b=>b≠rb)) A' na (Qcx (inB l (j:Int)) N.ar) from RdK.msk hA' (fun b hb=>by have:=hAb b hb;omega))
   have hna:na≤m:=by
    have h1:=Qfi (inB l (j:Int)) N.ar;have h2:(Qcx (inB l (j:Int)) N.ar).length=na:=hA'.1;have:=HNA.out;omega
   clear hA' hAb hb6 hb4 hr hbl hbw x0 x1 x2 y0 y1 y2 z0 HIN
   go_wp2_with fail
   go_loopw [12] (fun q V=>∃ a:Nat,a≤na∧q=.int .i64 a∧TuI w4.heap.size rb w4 w6 V (Qie (F i) Mc j (((Qcx (inB l (j:Int)) N.ar).take a).any (Qsr N M)))) (fun q _=>na-(intOf q).toNat)
   case atStart=>exact ⟨0,Nat.zero_le _,rfl,by simpa using HU6.out⟩
   case round =>
    obtain ⟨a,ha,rfl,hU⟩:=hrel;have hbl:=Zb HB4.out hU.b4;have hbw:=Zb HB1.out hbl;obtain ⟨x0,x1,x2,y0,y1,y2,z0⟩:=HCELL.out wr hbl;have HU:=Zh hU
    by_cases haa:a<na
    rotate_left
    · obtain rfl:a=na:=by omega
      have k4:¬((a:Int)<(a:Int)):=by omega
      have HR0:=Zh (show Blk wr rb 4 (Qca (Qie (F i) Mc j ((Qcx (inB l (j:Int)) N.ar).any (Qsr N M)))) by
       have:=hU.rw;rw [Ye (by rw [HA'.out.1];exact Zn _)] at this;exact this)
      have hb4:=hU.b4;clear hU HU6 HU HA'
      go_wp2_with fail
      with_reducible refine (HME.out wr hbw).mono ?_
      rintro r w7 ⟨A3,nv,cv,rfl,hV',hVb,hb7⟩;have HU7:=Zh (show TuI w4.heap.size rb w4 w7 w7 (Qie (F i) Mc j ((Qcx (inB l (j:Int)) N.ar).any (Qsr N M))) from TuI.start (Zb hb4 hb7) (HR0.out.below hb7 HR0.out.lt))
      have HV':=Zh (show RdI (msk w7 (fun b=>b≠rb)) A3 nv (mbI l (j:Int)) from RdK.msk hV' (fun b hb=>by have:=hVb b hb;have:=HR0.out.lt;omega))
      have hnv:nv≤n:=by
       have h1:=Qzt l (j:Int);have h2:(mbI l (j:Int)).length=nv:=hV'.1;have:=HNV.out;have:=HLV.out.len;omega
      clear hV' hVb hb7 hb4 hbl hbw x0 x1 x2 y0 y1 y2 z0 HR0 HME
      go_wp2_with fail
      go_loopw [14] (fun q V=>∃ b:Nat,b≤nv∧q=.int .i64 b∧TuI w4.heap.size rb w4 w7 V (Qie (F i) Mc j ((Qcx (inB l (j:Int)) N.ar).any (Qsr N M) || ((mbI l (j:Int)).take b).any (vrtD N M)))) (fun q _=>nv-(intOf q).toNat)
      case atStart=>exact ⟨0,Nat.zero_le _,rfl,by simpa using HU7.out⟩
      case round =>
       obtain ⟨b,hb,rfl,hU⟩:=hrel;have hbl:=Zb HB4.out hU.b4;have hbw:=Zb HB1.out hbl;obtain ⟨x0,x1,x2,y0,y1,y2,z0⟩:=HCELL.out wr hbl;have HU:=Zh hU
       by_cases hbb:b<nv
       rotate_left
       · obtain rfl:b=nv:=by omega
         have k5:¬((b:Int)<(b:Int)):=by omega
         have HR0:=Zh (show Blk wr rb 4 (Qca (Qie (F i) Mc (j+1) false)) by
          have h1:=hU.rw;rw [Ye (by rw [HV'.out.1];exact Zn _)] at h1
          have h2:F i j=((Qcx (inB l (j:Int)) N.ar).any (Qsr N M) || (mbI l (j:Int)).any (vrtD N M)):=by
           rw [HF.out]
           show netB N M (ls.getD i []) j=_
           rw [Qes HL.out]
           rfl
          rw [←h2,Qwl] at h1;exact h1)
         have hb4:=hU.b4;clear hU HU HU7 HV' x0 x1 x2 y0 y1 y2 z0
         go_wp2_with fail
         go_roundw
         case rel=>exact ⟨hb4,j+1,by omega,by go_num,HR0.out⟩
         case measure=>simp [intOf];omega
       have i5:(b:Int)<(nv:Int):=by omega
       have i6:(0:Int)≤(b:Int):=by omega
       obtain ⟨ab,ao,y,rfl,hy,cy⟩:=(HV'.out.le hU.le).at_ hbb;obtain ⟨habr,cy⟩:=Qao.1 cy;simp only at habr;obtain ⟨vi,rfl,hlvi⟩:=Qru.1 (Zm hy);have hvn:vi<n:=by have:=(Zs hlvi).1;have:=HLV.out.len;have:=HNV.out;omega
       obtain ⟨⟨vx,vy,vt⟩,hvx⟩:∃ r,N.vs[vi]?=some r:=⟨_,Zg (by rw [HNV.out];exact hvn)⟩;obtain ⟨nb,no,rfl,_,_,q2⟩:=(HH.out.below hbw).1.2 vi _ hvx;have hvo:=HN.out.verts _ (Zm hvx);have hv0:=hvo.t0;have hv1:=hvo.t1;simp only at hv0 hv1 q2;obtain ⟨tt,rfl⟩:∃ tt:Nat,vt=(tt:Int):=⟨vt.toNat,by omega⟩;have htk:tt<k:=by have:=HNT.out;omega
       obtain ⟨t1,ht1⟩:∃ r,N.ts[tt]?=some r:=⟨_,Zg (by rw [HNT.out];exact htk)⟩;obtain ⟨t2,ht2⟩:∃ r,M.ts[tt]?=some r:=⟨_,Zg (by rw [HG.out.2.2.1];exact htk)⟩;obtain ⟨tb',to',eC,e0,e1,TA,tn,tc,e2,hr1,_⟩:=HH.out.2.2.2 tt t1 ht1;obtain ⟨tb2,to2,eC2,f0,f1,TA2,tn2,tc2,f2,hr2,_⟩:=HG.out.2.2.2 tt t2 ht2;subst eC;subst eC2
       have htn:tn≤256:=by
        have h1:=HN.out.tabs t1 (Zm ht1);have h2:=Qgo h1.i0 h1.i16 h1.o0 h1.o16;have h3:=h1.len;have h4:=hr1.1;omega
       have htn2:tn2≤256:=by
        have h1:=HM.out.tabs t2 (Zm ht2);have h2:=Qgo h1.i0 h1.i16 h1.o0 h1.o16;have h3:=h1.len;have h4:=hr2.1;omega
       have HST:=Zh (fun V (hV:Below w.heap.size w V)=>Qfl TA TA2 tn tn2 tc tc2 t1 t2 V (hr1.below hV) (hr2.below hV) (by omega) (by omega));have htb:tb'<w.heap.size:=by have:=Qae e0;simpa using this
       have htb2:tb2<w.heap.size:=by have:=Qae f0;simpa using this
       have HD:=Zh (show vrtD N M (vi:Int)=!(tabB t1 t2) by
        unfold vrtD;rw [Yl,Ya (l:=N.vs),hvx,Option.getD_some,Yl,Ya,Ya,ht1,ht2]
        rfl)
       have HY:=Zh hy;have i7:(vi:Int)<(n:Int):=by omega
       have i8:(0:Int)≤(vi:Int):=by omega
       have i9:(tt:Int)<(k:Int):=by omega
       have i10:(0:Int)≤(tt:Int):=by omega
       have HE:=Zh (show ∀ V,Below w.heap.size w V→V.cell? ⟨tb',to'+tt*3,none⟩=some (.int .i64 t1.ins)∧V.cell? ⟨tb',to'+tt*3+1,none⟩=some (.int .i64 t1.outs)∧V.cell? ⟨tb',to'+tt*3+2,none⟩=some (.slice TA tn tc)∧V.cell? ⟨tb2,to2+tt*3,none⟩=some (.int .i64 t2.ins)∧V.cell? ⟨tb2,to2+tt*3+1,none⟩=some (.int .i64 t2.outs)∧V.cell? ⟨tb2,to2+tt*3+2,none⟩=some (.slice TA2 tn2 tc2) from fun V hV=>⟨Zc hV (Zn _) e0,Zc hV (Zn _) e1,Zc hV (Zn _) e2,Zc hV (Zn _) f0,Zc hV (Zn _) f1,Zc hV (Zn _) f2⟩)
       obtain ⟨vo,hvo⟩:∃ vo,vo=((Qcx (inB l (j:Int)) N.ar).any (Qsr N M) || ((mbI l (j:Int)).take b).any (vrtD N M)):=⟨_,rfl⟩;rw [←hvo] at hU;clear e0 e1 e2 f0 f1 f2 hr1 hr2 hvx hv0 hv1 ht1 ht2 hy hlvi hbl hbw HU HU7;have HU:=Zh hU
       have HNX:=Zh (show ∀ (V:World) (v:Bool),TuI w4.heap.size rb w4 w7 V (Qie (F i) Mc j vo)→v=(vo || !(tabB t1 t2))→TuI w4.heap.size rb w4 w7 (V.setCell ⟨rb,j,none⟩ (.bool v)) (Qie (F i) Mc j ((Qcx (inB l (j:Int)) N.ar).any (Qsr N M) || ((mbI l (j:Int)).take (b+1)).any (vrtD N M))) from fun V v h1 hv=>by
        refine h1.set HBI.out ?_;rw [Qst,Qtn HY.out,HD.out,←Bool.or_assoc,←hvo,←hv])
       clear hU hvo y0 y1 x1
       go_wp2_with fail
       refine wp_region_held_drew (S:=fun V=>V=wr.drew) (by kernel_rfl) rfl (fun _=>?_);refine tz 0 82 ?_;refine tz 1 83 ?_;refine tz 2 84 ?_;refine tz 3 85 ?_;refine tz 4 86 ?_;refine tz 5 87 ?_;refine tz 6 88 ?_;refine tz 7 89 ?_;refine tz 8 90 ?_;refine tz 9 15 ?_;refine Zd ?_;clear x0 cy q2;have HU9:=Zh (HU.out.below (by have:=HU.out.rw.lt;have:=HBI.out;omega) (Zr _ _).drew.drew)
       go_wp2_with fail
       obtain ⟨w9,hw9⟩:∃ W,W=wr.drew:=⟨_,rfl⟩;rw [←hw9] at HU9 ⊢;clear hw9 HU;have hbl9:=Zb HB4.out HU9.out.b4;have hbw9:=Zb HB1.out hbl9;have hro:=HU9.out.rw;have k6:w9.drew.cell? ⟨rb,j,none⟩=some (.bool vo):=hro.cellB (Qjo hjm);have k7:=hro.frozen j
       have HSB:=Zh (show ∀ V,Below w1.heap.size w1 V→V.cell? ⟨w.heap.size,2,none⟩=some (.slice (some ⟨tb',to',none⟩) k e)∧V.cell? ⟨w.heap.size+1,2,none⟩=some (.slice (some ⟨tb2,to2,none⟩) k e2)∧V.cell? ⟨tb',to'+tt*3,none⟩=some (.int .i64 t1.ins)∧V.cell? ⟨tb',to'+tt*3+1,none⟩=some (.int .i64 t1.outs)∧V.cell? ⟨tb',to'+tt*3+2,none⟩=some (.slice TA tn tc)∧V.cell? ⟨tb2,to2+tt*3,none⟩=some (.int .i64 t2.ins)∧V.cell? ⟨tb2,to2+tt*3+1,none⟩=some (.int .i64 t2.outs)∧V.cell? ⟨tb2,to2+tt*3+2,none⟩=some (.slice TA2 tn2 tc2) from fun V hV=>by
        obtain ⟨_,_,a2,_,_,b2,_⟩:=HCELL.out V hV;exact ⟨a2,b2,HE.out V (Zb HB1.out hV)⟩)
       obtain ⟨S,hSe⟩:∃ S:World→Prop,S=fun V=>V.cell? ⟨w.heap.size,2,none⟩=some (.slice (some ⟨tb',to',none⟩) k e)∧V.cell? ⟨w.heap.size+1,2,none⟩=some (.slice (some ⟨tb2,to2,none⟩) k e2)∧V.cell? ⟨tb',to'+tt*3,none⟩=some (.int .i64 t1.ins)∧V.cell? ⟨tb',to'+tt*3+1,none⟩=some (.int .i64 t1.outs)∧V.cell? ⟨tb',to'+tt*3+2,none⟩=some (.slice TA tn tc)∧V.cell? ⟨tb2,to2+tt*3,none⟩=some (.int .i64 t2.ins)∧V.cell? ⟨tb2,to2+tt*3+1,none⟩=some (.int .i64 t2.outs)∧V.cell? ⟨tb2,to2+tt*3+2,none⟩=some (.slice TA2 tn2 tc2):=⟨_,rfl⟩
       have HSX:=Zh (show ∀ V,S V→V.cell? ⟨w.heap.size,2,none⟩=some (.slice (some ⟨tb',to',none⟩) k e)∧V.cell? ⟨w.heap.size+1,2,none⟩=some (.slice (some ⟨tb2,to2,none⟩) k e2)∧V.cell? ⟨tb',to'+tt*3,none⟩=some (.int .i64 t1.ins)∧V.cell? ⟨tb',to'+tt*3+1,none⟩=some (.int .i64 t1.outs)∧V.cell? ⟨tb',to'+tt*3+2,none⟩=some (.slice TA tn tc)∧V.cell? ⟨tb2,to2+tt*3,none⟩=some (.int .i64 t2.ins)∧V.cell? ⟨tb2,to2+tt*3+1,none⟩=some (.int .i64 t2.outs)∧V.cell? ⟨tb2,to2+tt*3+2,none⟩=some (.slice TA2 tn2 tc2) from fun V h=>by rw [hSe] at h;exact h)
       have HS1:=Zh (show ∀ V,Below w1.heap.size w1 V→S V from fun V hV=>by rw [hSe];exact HSB.out V hV)
       have hbj:=HBJ.out;have HS3:=Zh (show ∀ V u,Below w1.heap.size w1 V→S (V.setCell ⟨rb,j,none⟩ u) from fun V u hV=>HS1.out _ (hV.setCell (by exact hbj) _))
       have hS2:S w9.drew:=HS1.out _ hbl9;clear hSe HSB hro;refine wp_region_held_drew (S:=S) (by kernel_rfl) hS2 (fun _=>?_);refine tz 0 91 ?_;refine tz 1 92 ?_;refine tz 2 93 ?_;refine tz 3 94 ?_;refine tz 4 95 ?_;refine Zk 5 (fun K hK=>?_);go_simp;refine hK.out _ _ hS2 (fun _=>?_);clear hK K;refine tz 6 97 ?_
       cases vo with
       | true =>
        refine tw 7 98 ?_;refine tw 8 99 ?_;refine tw 9 100 ?_;refine tw 10 101 ?_;refine tw 11 102 ?_;refine tw 12 103 ?_;refine tw 13 104 ?_;refine tw 14 105 ?_;refine tw 15 106 ?_;refine tw 16 107 ?_;refine tw 17 108 ?_;refine tw 18 109 ?_;refine tz 19 110 ?_;refine tz 20 111 ?_;refine Zk 21 (fun K hK=>?_);go_simp;refine hK.out _ _ (HS3.out _ _ hbl9) (fun _=>?_);clear hK K;refine Zd ?_;have HVF:=Zh (HNX.out _ true HU9.out rfl);clear HSX k6 k7 hS2
        go_wp2_with fail
        go_roundw
        case rel=>exact ⟨b+1,by omega,by go_num,HVF.out⟩
        case measure=>simp [intOf];omega
       | false =>
        clear k6 k7;refine tz 7 98 ?_;refine tz 8 99 ?_;refine tz 9 100 ?_;refine tz 10 101 ?_;refine tz 11 102 ?_;refine tz 12 103 ?_;refine tz 13 104 ?_;refine tz 14 105 ?_;refine tz 15 106 ?_;refine tz 16 107 ?_;refine Zk 17 (fun K hK=>?_);go_simp;with_reducible refine (HST.out w9.drew hbw9).mono ?_
        rintro r w10 ⟨rfl,hb10⟩;have HU10:=Zh (HU9.out.below (by have:=HU9.out.rw.lt;have:=HBI.out;omega) hb10);have hbl10:=Zb HB4.out HU10.out.b4;have k7:=HU10.out.rw.frozen j;go_simp;refine hK.out _ _ (HS1.out _ hbl10) (fun _=>?_);clear hK K hS2 hb10 HU9 hbl9 hbw9;refine tz 18 109 ?_;refine tz 19 110 ?_;refine tz 20 111 ?_;have hS2:S w10:=HS1.out _ hbl10;have k6:w10.cell? ⟨rb,j,none⟩=some (.bool false):=HU10.out.rw.cellB (Qjo hjm);refine Zk 21 (fun K hK=>?_);go_simp;refine hK.out _ _ (HS3.out _ _ hbl10) (fun _=>?_);clear hK K;refine Zd ?_;have HVF:=Zh (HNX.out _ (!(tabB t1 t2)) HU10.out (by simp));clear HSX k7 hS2
        go_wp2_with fail
        go_roundw
        case rel=>exact ⟨b+1,by omega,by go_num,HVF.out⟩
        case measure=>simp [intOf];omega
    have i5:(a:Int)<(na:Int):=by omega
    have i6:(0:Int)≤(a:Int):=by omega
    obtain ⟨ab,ao,y,rfl,hy,cy⟩:=(HA'.out.le hU.le).at_ haa;obtain ⟨habr,cy⟩:=Qao.1 cy;simp only at habr;obtain ⟨ai,arc,rfl,harc,_⟩:=Qhm.1 (Zm hy);have ham:ai<m:=by have:=(Zs harc).1;have:=HNA.out;omega
    obtain ⟨arc2,harc2⟩:∃ r,M.ar[ai]?=some r:=⟨_,Zg (by rw [HG.out.2.1.1];exact ham)⟩;obtain ⟨nb,no,rfl,_,_,q2⟩:=(HH.out.below hbw).2.1.2 ai arc harc;obtain ⟨nb2,no2,rfl,_,_,r2⟩:=(HG.out.below hbw).2.1.2 ai arc2 harc2
    have hnb:nb<w.heap.size:=by
     obtain ⟨_,_,e,c,_⟩:=HH.out.2.1.2 ai arc harc
     cases e
     have:=Qae c
     simpa using this
    have hnb2:nb2<w.heap.size:=by
     obtain ⟨_,_,e,c,_⟩:=HG.out.2.1.2 ai arc2 harc2
     cases e
     have:=Qae c
     simpa using this
    obtain ⟨z,hz⟩:∃ z,z=arc.2.2:=⟨_,rfl⟩;obtain ⟨z',hz'⟩:∃ z,z=arc2.2.2:=⟨_,rfl⟩;rw [←hz] at q2;rw [←hz'] at r2
    have HD:=Zh (show Qsr N M (ai:Int)=(z != z') by
     unfold Qsr;rw [Yl,Ya,Ya,harc,harc2,hz,hz']
     rfl)
    have HY:=Zh hy;have i7:(ai:Int)<(m:Int):=by omega
    have i8:(0:Int)≤(ai:Int):=by omega
    obtain ⟨vo,hvo⟩:∃ vo,vo=((Qcx (inB l (j:Int)) N.ar).take a).any (Qsr N M):=⟨_,rfl⟩;have hro:=hU.rw;rw [←hvo] at hro;have k6:wr.drew.cell? ⟨rb,j,none⟩=some (.bool vo):=hro.drew.cellB (Qjo hjm);have k7:=hro.drew.frozen j
    have HVT:=Zh (show ∀ v:Bool,v=(vo || z != z')→TuI w4.heap.size rb w4 w6 (wr.drew.setCell ⟨rb,j,none⟩ (.bool v)) (Qie (F i) Mc j (((Qcx (inB l (j:Int)) N.ar).take (a+1)).any (Qsr N M))) from fun v hv=>by
     have h1:=HU.out.below (by have:=HU.out.rw.lt;have:=HBI.out;omega) (Zr _ _).drew;refine h1.set HBI.out ?_;rw [Qst,Qtn HY.out,HD.out,←hvo,←hv])
    obtain ⟨S,hSe⟩:∃ S:World→Prop,S=fun V=>V.cell? ⟨w.heap.size,1,none⟩=some (.slice (some ⟨nb,no,none⟩) m d)∧V.cell? ⟨w.heap.size+1,1,none⟩=some (.slice (some ⟨nb2,no2,none⟩) m d2)∧V.cell? ⟨ab,ao+a,none⟩=some (.int .i64 ai)∧V.cell? ⟨nb,no+ai*3+2,none⟩=some (.int .i64 z)∧V.cell? ⟨nb2,no2+ai*3+2,none⟩=some (.int .i64 z'):=⟨_,rfl⟩
    have HSX:=Zh (show ∀ V,S V→V.cell? ⟨w.heap.size,1,none⟩=some (.slice (some ⟨nb,no,none⟩) m d)∧V.cell? ⟨w.heap.size+1,1,none⟩=some (.slice (some ⟨nb2,no2,none⟩) m d2)∧V.cell? ⟨ab,ao+a,none⟩=some (.int .i64 ai)∧V.cell? ⟨nb,no+ai*3+2,none⟩=some (.int .i64 z)∧V.cell? ⟨nb2,no2+ai*3+2,none⟩=some (.int .i64 z') from fun V h=>by rw [hSe] at h;exact h)
    have hS2:S wr.drew:=by rw [hSe];exact ⟨x1,y1,cy,q2,r2⟩
    have hwz:=HB1.out.size;have hbj:=HBJ.out
    have HS3:=Zh (show ∀ u,S (wr.drew.setCell ⟨rb,j,none⟩ u) from fun u=>by
     have h2:=HSX.out _ hS2;rw [hSe];refine ⟨?_,?_,?_,?_,?_⟩
     all_goals rw [World.cell?_setCell_other _ _ _ _ (by intro h;simp only [Addr.mk.injEq] at h;omega)]
     all_goals first|exact h2.1|exact h2.2.1|exact h2.2.2.1|exact h2.2.2.2.1|exact h2.2.2.2.2)
    clear hSe cy q2 r2 hz hz' harc harc2 hy hU x0 x2 y0 y2 z0 hbl hbw hro HU HU6 hvo
    go_wp2_with fail
    clear x1 y1;refine wp_region_held_drew (S:=S) (by kernel_rfl) hS2 (fun _=>?_);refine tz 0 44 ?_;refine tz 1 45 ?_;refine tz 2 46 ?_;refine tz 3 47 ?_;refine tz 4 48 ?_;refine Zk 5 (fun K hK=>?_);go_simp;refine hK.out _ _ hS2 (fun _=>?_);clear hK K;refine tz 6 50 ?_
    cases vo with
    | true =>
     refine tw 7 51 ?_;refine tw 8 52 ?_;refine tw 9 53 ?_;refine tw 10 54 ?_;refine tw 11 55 ?_;refine tw 12 56 ?_;refine tw 13 57 ?_;refine tw 14 58 ?_;refine tw 15 59 ?_;refine tw 16 60 ?_;refine tw 17 61 ?_;refine tw 18 62 ?_;refine tw 19 63 ?_;refine tw 20 64 ?_;refine tw 21 65 ?_;refine tw 22 66 ?_;refine tw 23 67 ?_;refine tw 24 68 ?_;refine tw 25 69 ?_;refine tz 26 70 ?_;refine tz 27 71 ?_;refine Zk 28 (fun K hK=>?_);go_simp;refine hK.out _ _ (HS3.out _) (fun _=>?_);clear hK K;refine Zd ?_;have HVF:=Zh (HVT.out true rfl);clear HSX k6 k7 hS2
     go_wp2_with fail
     go_roundw
     case rel=>exact ⟨a+1,by omega,by go_num,HVF.out⟩
     case measure=>simp [intOf];omega
    | false =>
     refine tz 7 51 ?_;refine tz 8 52 ?_;refine tz 9 53 ?_;refine tz 10 54 ?_;refine tz 11 55 ?_;refine tz 12 56 ?_;refine tz 13 57 ?_;refine tz 14 58 ?_;refine tz 15 59 ?_;refine tz 16 60 ?_;refine tz 17 61 ?_;refine tz 18 62 ?_;refine tz 19 63 ?_;refine tz 20 64 ?_;refine tz 21 65 ?_;refine tz 22 66 ?_;refine tz 23 67 ?_;refine tz 24 68 ?_;refine tz 25 69 ?_;refine tz 26 70 ?_;refine tz 27 71 ?_;refine Zk 28 (fun K hK=>?_);go_simp;refine hK.out _ _ (HS3.out _) (fun _=>?_);clear hK K;refine Zd ?_;have HVF:=Zh (HVT.out (z != z') (by simp));clear HSX k6 k7 hS2
     go_wp2_with fail
     go_roundw
     case rel=>exact ⟨a+1,by omega,by go_num,HVF.out⟩
     case measure=>simp [intOf];omega
end Go.Proofs.YthoagdpakddbdaaGreatDoor
