/- Parts of the proof: MeE, MeF, MeH. -/
import Derived.Test.YthoagdpakddbdaaGreatDoorK1
import Derived.Test.YthoagdpakddbdaaGreatDoorK5
import Derived.Test.YthoagdpakddbdaaGreatDoorK23
import Derived.Test.YthoagdpakddbdaaGreatDoorK26
import Derived.Test.YthoagdpakddbdaaGreatDoorK28
import Derived.Test.YthoagdpakddbdaaGreatDoorK30
import Derived.Laws.StructEq
namespace Go.Proofs.YthoagdpakddbdaaGreatDoor
open Go.RowKit Go.Proofs.Tryz
attribute [local go_sem ↓] Go.wp_at_zero Go.wp_at_succ
set_option maxHeartbeats 1000000 in
theorem Qih (A B:Option Addr)(n m c d:Nat)(s t:Qbw)(w:World)(h:RdI w A n s.costs)(g:RdI w B m t.costs)(hn:n≤1000000000)(hm:m≤1000000000) :
 Calls prog 64 #[.agg #[.int .i64 s.ins,.int .i64 s.outs,.slice A n c],.agg #[.int .i64 t.ins,.int .i64 t.outs,.slice B m d]] w fun e w'=>e=.returned (.bool (tabB s t))∧Below w.heap.size w w':=by
 obtain ⟨si,so,sc⟩:=s;obtain ⟨ti,tO,tc⟩:=t;simp only at h g;have HR:=Zh h;have HS:=Zh g;unfold tabB;simp only;clear h g
 by_cases h1:si=ti
 rotate_left
 · have e1:(si == ti)=false:=by simpa using h1
   rw [e1,Bool.false_and,Bool.false_and];clear h1
   go_enter func64,ntmps64
   go_wp2_with fail
   go_ret
   exact ⟨rfl,Qae⟩
 have e1:(si == ti)=true:=by simpa using h1
 rw [e1,Bool.true_and];clear h1
 by_cases h2:so=tO
 rotate_left
 · have e2:(so == tO)=false:=by simpa using h2
   rw [e2,Bool.false_and];clear h2
   go_enter func64,ntmps64
   go_wp2_with fail
   go_ret
   exact ⟨rfl,Qae⟩
 have e2:(so == tO)=true:=by simpa using h2
 rw [e2,Bool.true_and];clear h2;obtain ⟨bb,hbb⟩:∃ bb,bb=decide (sc=tc):=⟨_,rfl⟩;rw [←hbb];have HB:=Zh hbb;clear hbb
 go_enter func64,ntmps64
 go_wp2_with fail
 (refine Qac ?_;intro w1 hw1)
 have hb1:Below w.heap.size w w1:=by rw [hw1];exact Qae
 clear hw1;with_reducible refine (Qeq A B n m c d sc tc w1 (HR.out.below hb1) (HS.out.below hb1) hn hm).mono ?_
 rintro e w2 ⟨rfl,k2,rfl⟩;rw [←HB.out]
 go_wp2_with fail
 go_ret
 exact ⟨rfl,Qap hb1 k2⟩
theorem Qxa (t:Qbw):tabB t t=true:=tabB_iff.2 rfl
set_option maxRecDepth 20000 in
set_option maxHeartbeats 4000000 in
theorem Qjr (A B C A' B' C':Option Addr)(n m k c d e c' d' e':Nat)(N:Qaj)(w:World)(h:Qbm w A B C n m k N)(h2:Qbm w A' B' C' n m k N)(hn:n≤1000000)(hm:m≤1000000)(hk:k≤1000000)(hc:∀ t∈N.ts,t.costs.length≤1000000) :
 Calls prog 53 #[.agg #[.slice A n c,.slice B m d,.slice C k e],.agg #[.slice A' n c',.slice B' m d',.slice C' k e']] w fun r w'=>r=.returned (.bool true)∧Below w.heap.size w w':=by
 have HV:=Zh h.1;have HA:=Zh h.2.1;have HY:=Zh h.2.2;have HV2:=Zh h2.1;have HA2:=Zh h2.2.1;have HY2:=Zh h2.2.2;have HC:=Zh hc;have e0:((n:Int) != (n:Int))=false:=by simp
 have e1:((m:Int) != (m:Int))=false:=by simp
 have e2:((k:Int) != (k:Int))=false:=by simp
 clear h h2 hc
 go_enter func53,ntmps53
 go_wp2_with fail
 (refine Qah ?_;intro w1 hw1)
 have hb1:Below w.heap.size w w1:=by rw [hw1];exact Qae
 have HX:=Zh (show Blk w1 w.heap.size 26 #[.slice A n c,.slice B m d,.slice C k e] by rw [hw1];exact Qau)
 have HX2:=Zh (show Blk w1 (w.heap.size+1) 26 #[.slice A' n c',.slice B' m d',.slice C' k e'] by rw [hw1];exact Qau)
 have HB1:=Zh hb1;clear hw1 hb1
 go_loopw [5] (fun q V=>Below w1.heap.size w1 V∧∃ i:Nat,i≤n∧q=.int .i64 i) (fun q _=>n-(intOf q).toNat)
 case atStart=>exact ⟨Zr _ _,0,Nat.zero_le _,rfl⟩
 case round =>
  obtain ⟨hbl,i,hi,rfl⟩:=hrel;obtain ⟨x0,x1,x2⟩:=(HX.out.below hbl HX.out.lt).three;obtain ⟨y0,y1,y2⟩:=(HX2.out.below hbl HX2.out.lt).three;have hbw:=Zb HB1.out hbl
  by_cases hlt:i<n
  · obtain ⟨b,o,p,q,r,rfl,hx,cx,cy,cz⟩:=(HV.out.below hbw).at_ hlt
    obtain ⟨b',o',p',q',r',rfl,hx',cx',cy',cz'⟩:=(HV2.out.below hbw).at_ hlt;rw [hx] at hx'
    cases hx'
    have i1:(i:Int)<(n:Int):=by omega
    have i2:(0:Int)≤(i:Int):=by omega
    clear hx x1 x2 y1 y2
    go_wp2_with fail
    go_quiet (fail)
    go_wp2_with fail
    go_roundw
    case rel=>exact ⟨Qap hbl _,i+1,by omega,by go_num⟩
    case measure=>simp [intOf];omega
  obtain rfl:i=n:=by omega
  have i1:¬(i:Int)<(i:Int):=by omega
  clear hlt hi
  go_wp2_with fail
  obtain ⟨w2,hw2⟩:∃ w2,w2=wr:=⟨_,rfl⟩;subst hw2
  go_loopw [6] (fun q V=>Below w1.heap.size w1 V∧∃ i:Nat,i≤m∧q=.int .i64 i) (fun q _=>m-(intOf q).toNat)
  case atStart=>exact ⟨hbl,0,Nat.zero_le _,rfl⟩
  case round =>
   clear hbl hbw x0 x1 x2 y0 y1 y2;obtain ⟨hbl,j,hj,rfl⟩:=hrel;obtain ⟨x0,x1,x2⟩:=(HX.out.below hbl HX.out.lt).three;obtain ⟨y0,y1,y2⟩:=(HX2.out.below hbl HX2.out.lt).three;have hbw:=Zb HB1.out hbl
   by_cases hlt:j<m
   · obtain ⟨b,o,p,q,r,rfl,hx,cx,cy,cz⟩:=(HA.out.below hbw).at_ hlt
     obtain ⟨b',o',p',q',r',rfl,hx',cx',cy',cz'⟩:=(HA2.out.below hbw).at_ hlt;rw [hx] at hx'
     cases hx'
     have i1:(j:Int)<(m:Int):=by omega
     have i2:(0:Int)≤(j:Int):=by omega
     clear hx x0 x2 y0 y2
     go_wp2_with fail
     go_quiet (fail)
     go_wp2_with fail
     go_roundw
     case rel=>exact ⟨Qap hbl _,j+1,by omega,by go_num⟩
     case measure=>simp [intOf];omega
   obtain rfl:j=m:=by omega
   have i1:¬(j:Int)<(j:Int):=by omega
   clear hlt hj
   go_wp2_with fail
   obtain ⟨w3,hw3⟩:∃ w3,w3=wr:=⟨_,rfl⟩;subst hw3
   go_loopw [7] (fun q V=>Below w1.heap.size w1 V∧∃ i:Nat,i≤k∧q=.int .i64 i) (fun q _=>k-(intOf q).toNat)
   case atStart=>exact ⟨hbl,0,Nat.zero_le _,rfl⟩
   case round =>
    clear hbl hbw x0 x1 x2 y0 y1 y2;obtain ⟨hbl,a,ha,rfl⟩:=hrel;obtain ⟨x0,x1,x2⟩:=(HX.out.below hbl HX.out.lt).three;obtain ⟨y0,y1,y2⟩:=(HX2.out.below hbl HX2.out.lt).three;have hbw:=Zb HB1.out hbl
    by_cases hlt:a<k
    · obtain ⟨b,o,t,rfl,ht,c0,c1,TA,tn,TC,c2,hr,_,_⟩:=HY.out.at_ hlt
      obtain ⟨b',o',t',rfl,ht',c0',c1',TB,tn',TD,c2',hr',_,_⟩:=HY2.out.at_ hlt;rw [ht] at ht'
      cases ht'
      have hct:=HC.out t (Zm ht);have htn:tn=t.costs.length:=hr.1.symm;have htn':tn'=t.costs.length:=hr'.1.symm;have HST:=Zh (fun V (hV:Below w.heap.size w V)=>Qih TA TB tn tn' TC TD t t V (hr.below hV) (hr'.below hV) (by omega) (by omega));have i1:(a:Int)<(k:Int):=by omega
      have i2:(0:Int)≤(a:Int):=by omega
      have HSX:=Zh (show ∀ V,Below w1.heap.size w1 V→V.cell? ⟨w.heap.size,2,none⟩=some (.slice (some ⟨b,o,none⟩) k e)∧V.cell? ⟨w.heap.size+1,2,none⟩=some (.slice (some ⟨b',o',none⟩) k e')∧V.cell? ⟨b,o+a*3,none⟩=some (.int .i64 t.ins)∧V.cell? ⟨b,o+a*3+1,none⟩=some (.int .i64 t.outs)∧V.cell? ⟨b,o+a*3+2,none⟩=some (.slice TA tn TC)∧V.cell? ⟨b',o'+a*3,none⟩=some (.int .i64 t.ins)∧V.cell? ⟨b',o'+a*3+1,none⟩=some (.int .i64 t.outs)∧V.cell? ⟨b',o'+a*3+2,none⟩=some (.slice TB tn' TD) from fun V hV=>by
       have hw:=Zb HB1.out hV;exact ⟨by rw [(HX.out.below hV HX.out.lt).cell];rfl,by rw [(HX2.out.below hV HX2.out.lt).cell];rfl,Zc hw (Zn _) c0,Zc hw (Zn _) c1,Zc hw (Zn _) c2,Zc hw (Zn _) c0',Zc hw (Zn _) c1',Zc hw (Zn _) c2'⟩)
      clear ht hr hr' c0 c1 c2 c0' c1' c2' x0 x1 y0 y1 htn htn' hct
      go_wp2_with fail
      refine wp_region_held_drew (S:=fun V=>Below w1.heap.size w1 V) (by kernel_rfl) hbl.drew (fun _=>?_);clear x2 y2;refine tz 0 76 ?_;refine tz 1 77 ?_;refine tz 2 78 ?_;refine tz 3 79 ?_;refine tz 4 80 ?_;refine tz 5 81 ?_;refine tz 6 82 ?_;refine tz 7 83 ?_;refine tz 8 84 ?_;refine tz 9 85 ?_;refine Zk 10 (fun K hK=>?_);go_simp;with_reducible refine (HST.out _ hbw.drew).mono ?_
      rintro r w4 ⟨rfl,hb4⟩;have hbl4:Below w1.heap.size w1 w4:=Zb hbl.drew hb4;rw [Qxa];clear hb4;go_simp;refine hK.out _ _ hbl4 (fun _=>?_);clear hK K;refine tz 11 87 ?_;refine Zd ?_;clear HSX
      go_wp2_with fail
      go_roundw
      case rel=>exact ⟨hbl4,a+1,by omega,by go_num⟩
      case measure=>simp [intOf];omega
    obtain rfl:a=k:=by omega
    have i1:¬(a:Int)<(a:Int):=by omega
    go_wp2_with fail
    go_ret
    exact ⟨rfl,hbw⟩
set_option maxRecDepth 20000 in
set_option maxHeartbeats 4000000 in
theorem same6_ok (g:Nat)(A B C:Option Addr)(n m k c d e:Nat)(N:Qaj)(w:World)(hg:Qgk w g N)(h:Qbm w A B C n m k N)(hok:Qas N) :
 Calls prog 23 #[.pointer (some ⟨g,0,none⟩),.agg #[.slice A n c,.slice B m d,.slice C k e]] w fun r w'=>r=.returned (.bool true)∧Below w.heap.size w w':=by
 have HG:=Zh hg;have HH:=Zh h;have HCO:=Zh hok.costs;have hnv:N.vs.length=n:=h.1.1;have hna:N.ar.length=m:=h.2.1.1;have hnt:N.ts.length=k:=h.2.2.1;have lv:=hok.lv;have la:=hok.la;have lt:=hok.lt;have e0:((n:Int) != (n:Int))=false:=by simp
 have e1:((m:Int) != (m:Int))=false:=by simp
 clear h hg
 go_enter func23,ntmps23
 go_wp2_with fail
 (refine Qah ?_;intro w1 hw1)
 have hb1:Below w.heap.size w w1:=by rw [hw1];exact Qae
 have HX:=Zh (show Blk w1 w.heap.size 26 #[.slice A n c,.slice B m d,.slice C k e] by rw [hw1];exact Qau)
 have HB1:=Zh hb1;clear hw1 hb1;have HSX:=Zh (show ∀ V,Below w1.heap.size w1 V→V.cell? ⟨w.heap.size,0,none⟩=some (.slice A n c)∧V.cell? ⟨w.heap.size,1,none⟩=some (.slice B m d)∧V.cell? ⟨w.heap.size,2,none⟩=some (.slice C k e) from fun V hV=>(HX.out.below hV HX.out.lt).three)
 refine wp_region_held_drew (S:=fun V=>Below w1.heap.size w1 V) (by kernel_rfl) (Zr _ _).drew (fun _=>?_);refine tz 0 6 ?_;refine tz 1 7 ?_;refine tz 2 8 ?_;refine tz 3 9 ?_;refine tz 5 11 ?_;refine tz 6 12 ?_;refine tz 7 13 ?_;refine Zk 4 (fun K hK=>?_);go_simp;with_reducible refine (Qhw g N w1.drew (HG.out.below HB1.out.drew)).mono ?_
 rintro r w' ⟨rfl,rfl⟩;rw [hnv];go_simp;refine hK.out _ _ (Zr _ _).drew (fun _=>?_);clear hK K;refine tz 8 14 ?_;refine tz 9 15 ?_;refine tz 10 16 ?_;refine tz 11 17 ?_;refine tz 13 19 ?_;refine tz 14 20 ?_;refine tz 15 21 ?_;refine Zk 12 (fun K hK=>?_);go_simp;with_reducible refine (Qgu g N w1.drew (HG.out.below HB1.out.drew)).mono ?_
 rintro r w' ⟨rfl,rfl⟩;rw [hna];go_simp;refine hK.out _ _ (Zr _ _).drew (fun _=>?_);clear hK K;refine tz 16 22 ?_;refine tz 17 23 ?_;refine tz 18 24 ?_;refine tz 19 25 ?_;refine tz 22 28 ?_;refine Zk 20 (fun K hK=>?_);go_simp;with_reducible refine (Qqn g N w1.drew (HG.out.below HB1.out.drew)).mono ?_
 rintro r w2 ⟨A1,B1,C1,a1,b1,c1,rfl,hN2,_,hb2⟩;rw [hnv,hna,hnt] at hN2 ⊢;have hbl2:Below w1.heap.size w1 w2:=(Zr _ _).drew.trans hb2;have HN2:=Zh hN2;clear hb2 hN2;go_simp;refine hK.out _ _ hbl2 (fun _=>?_);clear hK K;refine Zk 21 (fun K hK=>?_);go_simp;with_reducible refine (Qvf A1 B1 C1 n m k a1 b1 c1 N w2 HN2.out (by omega) (by omega) (by omega) HCO.out).mono ?_
 rintro r w3 ⟨A2,B2,C2,a2,b2,c2,rfl,hN3,hb3⟩;have hbl3:=Zb hbl2 hb3;have HN3:=Zh hN3;clear hb3 hN3 HN2;go_simp;refine hK.out _ _ hbl3 (fun _=>?_);clear hK K;refine Zk 23 (fun K hK=>?_);go_simp;with_reducible refine (Qjr A2 B2 C2 A B C n m k a2 b2 c2 c d e N w3 HN3.out (HH.out.below (Zb HB1.out hbl3)) (by omega) (by omega) (by omega) HCO.out).mono ?_
 rintro r w4 ⟨rfl,hb4⟩;have hbl4:=Zb hbl3 hb4;clear hb4 HN3;go_simp;refine hK.out _ _ hbl4 (fun _=>?_);clear hK K;refine tz 24 30 ?_;refine tz 25 31 ?_;refine Zd ?_;clear HSX
 go_wp2_with fail
 go_loopw [5] (fun q V=>Below w1.heap.size w1 V∧∃ i:Nat,i≤m∧q=.int .i64 i) (fun q _=>m-(intOf q).toNat)
 case atStart=>exact ⟨hbl4,0,Nat.zero_le _,rfl⟩
 case round =>
  clear hbl2 hbl3 hbl4;obtain ⟨hbl,i,hi,rfl⟩:=hrel;obtain ⟨x0,x1,x2⟩:=(HX.out.below hbl HX.out.lt).three;have hbw:=Zb HB1.out hbl
  by_cases hlt:i<m
  rotate_left
  · obtain rfl:i=m:=by omega
    have i1:¬(i:Int)<(i:Int):=by omega
    go_wp2_with fail
    go_ret
    exact ⟨rfl,hbw⟩
  obtain ⟨b,o,p,q,r,rfl,hx,cx,cy,cz⟩:=(HH.out.2.1).at_ hlt;have HXI:=Zh hx;have i1:(i:Int)<(m:Int):=by omega
  have i2:(0:Int)≤(i:Int):=by omega
  have e3:(p != p)=false:=by simp
  have e4:(q != q)=false:=by simp
  have e5:(r != r)=false:=by simp
  have HSX:=Zh (show ∀ V,Below w1.heap.size w1 V→V.cell? ⟨w.heap.size,1,none⟩=some (.slice (some ⟨b,o,none⟩) m d)∧V.cell? ⟨b,o+i*3,none⟩=some (.int .i64 p)∧V.cell? ⟨b,o+i*3+1,none⟩=some (.int .i64 q)∧V.cell? ⟨b,o+i*3+2,none⟩=some (.int .i64 r) from fun V hV=>by
   have hw:=Zb HB1.out hV;exact ⟨by rw [(HX.out.below hV HX.out.lt).cell];rfl,Zc hw (Zn _) cx,Zc hw (Zn _) cy,Zc hw (Zn _) cz⟩)
  clear hx cx cy cz x0 x2
  go_wp2_with fail
  clear x1;refine wp_region_held_drew (S:=fun V=>Below w1.heap.size w1 V) (by kernel_rfl) hbl.drew (fun _=>?_);refine tz 0 39 ?_;refine tz 1 40 ?_;refine tz 3 42 ?_;refine tz 4 43 ?_;refine tz 5 44 ?_;refine tz 6 45 ?_;refine tz 7 46 ?_;refine tz 8 47 ?_;refine Zk 2 (fun K hK=>?_);go_simp;with_reducible refine (Qgz g i N (p,q,r) wr.drew (HG.out.below hbw.drew) HXI.out).mono ?_
  rintro r' w' ⟨rfl,rfl⟩;go_simp;refine hK.out _ _ hbl.drew (fun _=>?_);clear hK K;refine tz 9 48 ?_;refine tz 10 49 ?_;refine tz 11 50 ?_;refine tz 12 51 ?_;refine tz 14 53 ?_;refine tz 15 54 ?_;refine tz 16 55 ?_;refine tz 17 56 ?_;refine tz 18 57 ?_;refine tz 19 58 ?_;refine Zk 13 (fun K hK=>?_);go_simp;with_reducible refine (Qkp g i N (p,q,r) wr.drew (HG.out.below hbw.drew) HXI.out).mono ?_
  rintro r' w' ⟨rfl,rfl⟩;go_simp;refine hK.out _ _ hbl.drew (fun _=>?_);clear hK K;refine tz 20 59 ?_;refine tz 21 60 ?_;refine tz 22 61 ?_;refine tz 23 62 ?_;refine tz 24 63 ?_;refine tz 26 65 ?_;refine tz 27 66 ?_;refine tz 28 67 ?_;refine tz 29 68 ?_;refine tz 30 69 ?_;refine tz 31 70 ?_;refine Zk 25 (fun K hK=>?_);go_simp;with_reducible refine (Qeh g i N (p,q,r) wr.drew (HG.out.below hbw.drew) HXI.out).mono ?_
  rintro r' w' ⟨rfl,rfl⟩;go_simp;refine hK.out _ _ hbl.drew (fun _=>?_);clear hK K;refine tz 32 71 ?_;refine tz 33 72 ?_;refine Zd ?_;clear HSX
  go_wp2_with fail
  go_roundw
  case rel=>exact ⟨hbl.drew,i+1,by omega,by go_num⟩
  case measure=>simp [intOf];omega
end Go.Proofs.YthoagdpakddbdaaGreatDoor
namespace Go.Proofs.YthoagdpakddbdaaGreatDoor
open Go.RowKit Go.Extern.Stop Go.Stop Go.Extern Go.Proofs.Tryz
attribute [local go_sem ↓] Go.wp_at_zero Go.wp_at_succ
def ChW (W:World)(B:Nat)(A:Option Addr)(L:List Chn):Prop:=0<L.length→∃ (g:Nat) (cs:Array Value),A=some ⟨g,0,none⟩∧B≤g∧Blk W g 71 cs ∧
 ∀ (j:Nat) (c:Chn),L[j]?=some c→cs[j*5]?=some (.int .i64 c.1)∧cs[j*5+1]?=some (.int .i64 c.2.1)∧cs[j*5+2]?=some (.int .i64 c.2.2.1)∧cs[j*5+3]?=some (.int .i64 c.2.2.2.1)∧cs[j*5+4]?=some (.int .i64 c.2.2.2.2)
theorem ChW.below {W W':World}{B:Nat}{A:Option Addr}{L:List Chn}(h:ChW W B A L)(hb:Below W.heap.size W W'):ChW W' B A L:=fun h0=>by
 obtain ⟨g,cs,e,h1,h2,h3⟩:=h h0;exact ⟨g,cs,e,h1,h2.below hb h2.lt,h3⟩
theorem ChW.kept {W W':World}{B:Nat}{A:Option Addr}{L:List Chn}{G:Nat→Prop}(h:ChW W B A L)(hk:Qaz G W W')(hG:∀ b,B≤b→b<W.heap.size→G b):ChW W' B A L:=fun h0=>by
 obtain ⟨g,cs,e,h1,h2,h3⟩:=h h0;exact ⟨g,cs,e,h1,hk.blkM h2 (hG g h1 h2.lt),h3⟩
theorem ChW.rd {W:World}{B:Nat}{A:Option Addr}{L:List Chn}{n:Nat}(h:ChW W B A L)(hn:L.length=n):Qiu W A n L :=
 ⟨hn,fun i x hx=>by
  obtain ⟨g,cs,rfl,h1,h2,h3⟩:=h (by have:=(Zs hx).1;omega);obtain ⟨k0,k1,k2,k3,k4⟩:=h3 i x hx;exact ⟨g,0,rfl,by rw [Nat.zero_add,h2.cell];exact k0,by rw [Nat.zero_add,h2.cell];exact k1,by rw [Nat.zero_add,h2.cell];exact k2,by rw [Nat.zero_add,h2.cell];exact k3,by rw [Nat.zero_add,h2.cell];exact k4⟩⟩
theorem ChW.of {W:World}{B n c:Nat}{A:Option Addr}{L:List Chn} (h:Own W B 71 5 A n c (Qbi L)) (hn:L.length=n):ChW W B A L:=fun h0=>by
 obtain ⟨g,cur,e,h1,h2,_,_,h3⟩:=h.block (by omega);refine ⟨g,cur,e,h1,h2,fun j c hj=>?_⟩;obtain ⟨k0,k1,k2,k3,k4⟩:=Qfs hj;exact ⟨h3 _ _ k0,h3 _ _ k1,h3 _ _ k2,h3 _ _ k3,h3 _ _ k4⟩
theorem ChW.set {W:World}{B i g:Nat}{L:List Chn}{x y z u v v':Int} (h:ChW W B (some ⟨g,0,none⟩) L) (hi:L[i]?=some (x,y,z,u,v)):ChW (W.setCell ⟨g,i*5+4,none⟩ (.int .i64 v')) B (some ⟨g,0,none⟩) (L.set i (x,y,z,u,v')):=fun _=>by
 have hil:=(Zs hi).1;obtain ⟨g',cs,e,h1,h2,h3⟩:=h (by omega)
 cases e
 refine ⟨g,_,rfl,h1,h2.set_ _ _,fun j c hj=>?_⟩;obtain ⟨a0,a1,a2,a3,a4⟩:=h3 i _ hi
 by_cases e:i=j
 · subst e
   rw [List.getElem?_set_self hil] at hj
   cases hj
   refine ⟨?_,?_,?_,?_,?_⟩
   · rw [Array.getElem?_setIfInBounds_ne (by omega)];exact a0
   · rw [Array.getElem?_setIfInBounds_ne (by omega)];exact a1
   · rw [Array.getElem?_setIfInBounds_ne (by omega)];exact a2
   · rw [Array.getElem?_setIfInBounds_ne (by omega)];exact a3
   · rw [Array.getElem?_setIfInBounds_self_of_lt (Array.getElem?_eq_some_iff.1 a4).1]
 · rw [List.getElem?_set_ne e] at hj
   obtain ⟨b0,b1,b2,b3,b4⟩:=h3 j _ hj;refine ⟨?_,?_,?_,?_,?_⟩
   all_goals rw [Array.getElem?_setIfInBounds_ne (by omega)];assumption
def Qgf (N:Qaj)(l:List Chn)(i:Nat):List Chn:=(Qdk N l).take i ++l.drop i
theorem Qtd (N:Qaj)(l:List Chn):Qgf N l 0=l:=by simp [Qgf]
theorem Qty (N:Qaj)(l:List Chn):Qgf N l l.length=Qdk N l:=by
 unfold Qgf;rw [List.drop_length,List.append_nil,List.take_of_length_le (by simp [Qdk])]
theorem Quf (N:Qaj)(l:List Chn)(i:Nat):(Qgf N l i).length=l.length:=by
 unfold Qgf Qdk;rw [List.length_append,List.length_take,List.length_map,List.length_drop];omega
theorem Qon {N:Qaj}{l:List Chn}{i:Nat}{c:Chn} (h:l[i]?=some c):(Qgf N l i)[i]?=some c:=by
 have hl:=(Zs h).1;unfold Qgf;rw [List.getElem?_append_right (by rw [List.length_take];omega),List.getElem?_drop];rw [show i+(i-(List.take i (Qdk N l)).length)=i by rw [List.length_take];unfold Qdk;rw [List.length_map];omega]
 exact h
theorem Qws {N:Qaj}{l:List Chn}{i:Nat}{c:Chn} (h:l[i]?=some c):(Qgf N l i).set i (Qme N c)=Qgf N l (i+1):=by
 have hl:=(Zs h).1;have hb:(Qdk N l)[i]?=some (Qme N c):=by unfold Qdk;rw [List.getElem?_map,h];rfl
 have hlen:(List.take i (Qdk N l)).length=i:=by rw [List.length_take];unfold Qdk;rw [List.length_map];omega
 unfold Qgf;rw [List.set_append_right _ _ (by omega),hlen,Nat.sub_self,List.drop_eq_getElem_cons hl,List.set_cons_zero,List.take_succ_eq_append_getElem (Zs hb).1,(Zs hb).2];simp
theorem how_back {N:Qaj}(hN:Qas N){l:List Chn}(h:Qbj N l) (ls:List (List Int)):tb ls (Qcz (Qef N l) ls (Qdk N l))=tb ls (Qcz N ls l):=Qcw (fun _ _ _ q _=>tch_back hN h _ q)
theorem infoCR:(Tryz.prog.info? 71).map (fun i=>(i.zero,i.size,i.bytes))=some (some (.agg #[.int .i64 0,.int .i64 0,.int .i64 0,.int .i64 0,.int .i64 0]),5,40):=by kernel_rfl
theorem Qiu.rds {w:World}{A:Option Addr}{n:Nat}{l:List Chn}(h:Qiu w A n l):Rds w 5 A n (Qbi l) :=
 ⟨by rw [Qfo,h.1],fun j v hv=>by
  have hjl:=(Zs hv).1;rw [Qfo] at hjl;obtain ⟨i,r,hj,hr⟩:∃ i r,j=i*5+r∧r<5:=⟨j / 5,j % 5,by omega,by omega⟩
  subst hj;obtain ⟨c,hc⟩:∃ c,l[i]?=some c:=⟨_,Zg (by omega)⟩;obtain ⟨b,o,e,h0,h1,h2,h3,h4⟩:=h.2 _ c hc;obtain ⟨k0,k1,k2,k3,k4⟩:=Qfs hc;refine ⟨b,o,e,?_⟩
  match r,hr with
  | 0,_=>rw [Nat.add_zero] at hv ⊢;rw [k0] at hv;cases hv;exact h0
  | 1,_=>rw [k1] at hv;cases hv;exact h1
  | 2,_=>rw [k2] at hv;cases hv;exact h2
  | 3,_=>rw [k3] at hv;cases hv;exact h3
  | 4,_=>rw [k4] at hv;cases hv;exact h4⟩
end Go.Proofs.YthoagdpakddbdaaGreatDoor
namespace Go.Proofs.YthoagdpakddbdaaGreatDoor
open Go.RowKit Go.Extern.Stop Go.Stop Go.Extern Go.Proofs.Tryz
attribute [local go_sem ↓] Go.wp_at_zero Go.wp_at_succ
set_option maxRecDepth 20000 in
set_option maxHeartbeats 8000000 in
theorem Qmj (A B C Q:Option Addr)(n m k c d e L cq:Nat)(N:Qaj) (ls:List (List Int)) (CA:Option Addr) (cn cc:Nat) (cl:List Chn) (w:World) (h:Qbm w A B C n m k N) (hk:k≤9223372036854775807) (hq:RdT w Q L ls) (hL:L≤9223372036854775807) (hc:Qiu w CA cn cl) (hcc:cn≤cc∧cc≤9223372036854775807) (hg:w.cell? ⟨0,0,none⟩=some Qmm) :
 Calls prog 5 #[.agg #[.slice A n c,.slice B m d,.slice C k e],.agg #[.slice Q L cq],.slice CA cn cc] w fun r w'=>r=.returned (.bool true)∧Below w.heap.size w w':=by
 have HC:=Zh hc;clear hc;have HH:=Zh h;have HT:=Zh hq;have HG:=Zh hg;have HNA:=Zh (show N.ar.length=m from h.2.1.1)
 have HNV:=Zh (show N.vs.length=n from h.1.1)
 clear h hq hg
 go_enter func5,ntmps5
 go_wp2_with fail
 (refine Qac ?_;intro w1 hw1)
 have hb1:Below w.heap.size w w1:=by rw [hw1];exact Qae
 have hX:Blk w1 w.heap.size 26 #[.slice A n c,.slice B m d,.slice C k e]:=by rw [hw1];exact Qau
 have hY:Blk w1 (w.heap.size+1) 29 #[.slice Q L cq]:=by rw [hw1];exact Qau
 clear hw1;with_reducible refine (Qsj w1 (Zc hb1 (Zn _) HG.out)).mono ?_
 rintro r w2 ⟨rfl,hb2⟩;have hq2:=hb2;have hX2:=hX.below hb2 hX.lt;have hY2:=hY.below hb2 hY.lt;have hb2':=Zb hb1 hb2;clear hX hY hb1 hb2;obtain ⟨x0,x1,x2⟩:=hX2.three;have y0:=hY2.cell 0;simp only [List.getElem?_toArray,List.getElem?_cons_zero] at y0
 go_wp2_with fail
 with_reducible refine (Qwm A B C Q n m k c d e L cq N ls w2 (HH.out.below hb2') hk (HT.out.below hb2') hL).mono ?_
 rintro r w3 ⟨hr,hb3⟩;have hb3':=Zb hb2' hb3;have hq3:=Zb hq2 hb3;have hX3:=hX2.below hb3 hX2.lt;have hY3:=hY2.below hb3 hY2.lt;clear x0 x1 x2 y0 hX2 hY2 hb2' hb3 hq2;obtain ⟨b,rfl,hGG⟩:=hr
 cases b with
 | false =>
  clear hGG
  go_wp2_with fail
  go_ret
  exact ⟨rfl,hb3'⟩
 | true =>
 have hmay:=hGG rfl;clear hGG;have HMAY:=Zh hmay;have hok:=hmay.small.ok;have hS9:=sumA_few hmay;have HB3:=Zh hb3';have HX3:=Zh hX3;have HY3:=Zh hY3;clear hmay hb3' hq3 hX3 hY3;obtain ⟨x0,x1,x2⟩:=HX3.out.three;have y0:=HY3.out.cell 0;simp only [List.getElem?_toArray,List.getElem?_cons_zero] at y0;obtain ⟨ps,c0,hck⟩:=ck_ex N cl
 go_wp2_with fail
 with_reducible refine (Qij A B C n m k c d e N CA cn cc cl w3 (HH.out.below HB3.out) (HC.out.below HB3.out) (by omega) ps c0 hck).mono ?_
 rintro r w4 ⟨⟨A4,n4,m4,rfl,hp4,hz4,h54⟩,hb4⟩;have hfl:∀ V,(Instr.field 48 (.agg #[.slice A4 n4 m4,.int .i64 c0]) 1).run prog V=.ok (.int .i64 c0) V:=fun V=>by rfl
 have HB4:=Zh (Zb HB3.out hb4);have HX4:=Zh (HX3.out.below hb4 HX3.out.lt);have HY4:=Zh (HY3.out.below hb4 HY3.out.lt);clear hp4 hz4 h54 hb4 x0 x1 x2 y0 HX3 HY3 HB3
 by_cases hc0:c0=0
 rotate_left
 · have e1:(c0 != 0)=true:=by simpa using hc0
   go_wp2_with fail
   go_ret
   exact ⟨rfl,HB4.out⟩
 subst hc0;obtain ⟨hl256,hbat⟩:=hck.ok;have HBAT:=Zh hbat;clear hck hbat;obtain ⟨x0,x1,x2⟩:=HX4.out.three;have y0:=HY4.out.cell 0;simp only [List.getElem?_toArray,List.getElem?_cons_zero] at y0;have HLN:=Zh (show cl.length=cn from HC.out.1)
 go_wp2_with fail
 have HSX:=Zh (show ∀ V,Below w4.heap.size w4 V→V.cell? ⟨w.heap.size,0,none⟩=some (.slice A n c)∧V.cell? ⟨w.heap.size,1,none⟩=some (.slice B m d)∧V.cell? ⟨w.heap.size,2,none⟩=some (.slice C k e)∧V.cell? ⟨w.heap.size+1,0,none⟩=some (.slice Q L cq) from fun V hV=>by
  obtain ⟨z0,z1,z2⟩:=(HX4.out.below hV HX4.out.lt).three;have q0:=(HY4.out.below hV HY4.out.lt).cell 0;simp only [List.getElem?_toArray,List.getElem?_cons_zero] at q0;exact ⟨z0,z1,z2,q0⟩)
 refine wp_region_held_drew (S:=fun V=>Below w4.heap.size w4 V) (by kernel_rfl) (Zr _ _).drew (fun _=>?_);clear x0 x1 x2 y0;refine tz 0 32 ?_;refine tz 2 34 ?_;refine tz 3 35 ?_;refine Zk 1 (fun K hK=>?_);go_simp;with_reducible refine (Qlm A B C n m k c d e N w4.drew (HH.out.below HB4.out.drew) hok).mono ?_
 rintro r w5 ⟨g,rfl,hG5,hb5⟩;have hb5':Below w4.heap.size w4 w5:=(Zr _ _).drew.trans hb5;have HG5:=Zh hG5;have hz5:=HB4.out.size;clear hb5 hG5;go_simp;refine hK.out _ _ hb5' (fun _=>?_);clear hK K;refine Zk 4 (fun K hK=>?_);go_simp;with_reducible refine (Qni A B C Q n m k c d e L cq N ls w5 (HH.out.below (Zb HB4.out hb5')) hok (HT.out.below (Zb HB4.out hb5')) HMAY.out.part).mono ?_
 rintro r w6 ⟨o,rfl,hO6,hb6⟩;have hz4x:w.heap.size+2≤w4.heap.size:=HY4.out.lt;obtain ⟨F,G,hGO,hFL⟩:∃ F G,GO w6 F G g o N ls∧∀ b,F b→w.heap.size+2≤b:=⟨_,_,⟨HG5.out.below hb6,hO6,fun b h1 h2=>by omega,fun b h=>h.2⟩,fun b h=>Nat.le_trans hz4x h.1⟩;have HS6:=Zh (show MdS w6 F G g o N ls (Qbo (gatesOf N.ar ls)) from ⟨hGO,HMAY.out.part,rfl,hS9⟩)
 have HFL:=Zh hFL;have hb6':=Zb hb5' hb6;have HB6:=Zh (Zb HB4.out hb6');have HX6:=Zh (HX4.out.below hb6' HX4.out.lt);have HY6:=Zh (HY4.out.below hb6' HY4.out.lt);clear hO6 hb6 hGO hFL HG5 hz5 hz4x;go_simp;refine hK.out _ _ hb6' (fun _=>?_);clear hK K;refine tz 5 7 ?_;refine tz 6 8 ?_;refine Zd ?_;clear HSX hb5' hb6' HX4 HY4 HB4;obtain ⟨NC,hNC⟩:∃ NC,NC=Qbo (gatesOf N.ar ls):=⟨_,rfl⟩;rw [←hNC] at HS6;have HNC:=Zh hNC;clear hNC;have hcn9:cn≤256:=by rw [←HLN.out];exact hl256
 have HW2:=Zh (show w.heap.size+2≤w6.heap.size from HY6.out.lt)
 have HF6:=Zh (fun b hb=>HS6.out.go.gr.lt (b:=b) hb);obtain ⟨v3,hv3⟩:∃ v3,v3=w6.alloc (.cells #[] 71):=⟨_,rfl⟩;have HV3:=Zh hv3;have hb3:Below w6.heap.size w6 v3:=by rw [hv3];exact Qae
 have hown2:Own v3 w6.heap.size 71 5 (some ⟨w6.heap.size,0,none⟩) 0 0 []:=by rw [hv3];exact Own.lit w6 #[] 0 (Zn _) (by omega) rfl
 have hrd2:Rds v3 5 CA cn (Qbi cl):=(HC.out.below (Zb HB6.out hb3)).rds;have hsz3:w6.heap.size≤v3.heap.size:=hb3.size;have HB63:=Zh hb3;clear hv3 hb3
 go_wp2_with (at_builtin;rw [←HV3.out];with_reducible refine Qat rfl (.tmp 43) (.tmp 44) 57 rfl 71 _ 5 40 infoCR underlying57 rfl (by omega) rfl rfl hown2 hrd2 (Qkl _) (by omega) (by omega) hsz3 ?_)
 intro A9 c9 w7 ho7 hg7 _;have hb7:=Bel.grownOwn HB63.out hg7 hown2 hsz3
 try simp only [Nat.zero_add,List.nil_append] at ho7
 try simp only [Nat.zero_add]
 have HW7:=Zh (show ChW w7 w6.heap.size A9 (Qgf N cl 0) by rw [Qtd];exact ChW.of ho7 HLN.out)
 have HB67:=Zh hb7;clear hown2 hrd2 ho7 hg7 hb7 HV3 HB63 hsz3
 go_wp2_with fail
 go_loopw [10] (fun q V=>Below w6.heap.size w6 V∧∃ i:Nat,i≤cn∧q=.int .i64 i∧ChW V w6.heap.size A9 (Qgf N cl i)) (fun q _=>cn-(intOf q).toNat)
 case atStart=>exact ⟨HB67.out,0,Nat.zero_le _,rfl,HW7.out⟩
 case round =>
  clear HB67 HW7;obtain ⟨hbl,i,hi,rfl,hW⟩:=hrel;have hX:=HX6.out.below hbl HX6.out.lt;obtain ⟨x0,x1,x2⟩:=hX.three;have xl:=hX.lt;clear hX
  by_cases hlt:i<cn
  · obtain ⟨⟨x,y,z,u,v⟩,hci⟩:∃ c,cl[i]?=some c:=⟨_,Zg (by rw [HLN.out];exact hlt)⟩
    obtain ⟨bg,cs,rfl,hbB,hbk,hcs⟩:=hW (by rw [Quf,HLN.out];omega);obtain ⟨s0,s1,s2,s3,s4⟩:=hcs i _ (Qon hci);have k0:wr.cell? ⟨bg,i*5,none⟩=some (.int .i64 x):=by rw [hbk.cell];exact s0
    have k1:wr.cell? ⟨bg,i*5+1,none⟩=some (.int .i64 y):=by rw [hbk.cell];exact s1
    have k2:wr.cell? ⟨bg,i*5+2,none⟩=some (.int .i64 z):=by rw [hbk.cell];exact s2
    have k3:wr.cell? ⟨bg,i*5+3,none⟩=some (.int .i64 u):=by rw [hbk.cell];exact s3
    have k4:wr.cell? ⟨bg,i*5+4,none⟩=some (.int .i64 v):=by rw [hbk.cell];exact s4
    have kf:=hbk.frozen (i*5+4);have kl:=hbk.lt;have hsz:=hbl.size;have hco:=HBAT.out.all _ (Zm hci);have i1:(i:Int)<(cn:Int):=by omega
    have i2:(0:Int)≤(i:Int):=by omega
    have HST:=Zh (fun (V:World) (v':Int) (hV:ChW V w6.heap.size (some ⟨bg,0,none⟩) (Qgf N cl i)) (e:oldW N (x,y,z,u,v)=v')=>show ChW (V.setCell ⟨bg,i*5+4,none⟩ (.int .i64 v')) w6.heap.size (some ⟨bg,0,none⟩) (Qgf N cl (i+1)) by
     have:=hV.set (v':=v') (Qon hci);have e2:=Qws (N:=N) hci;unfold Qme at e2;rw [e] at e2;rw [←e2];exact this)
    have HWW:=Zh hW;have HBL:=Zh hbl;have hww:w.heap.size≤w6.heap.size:=HB6.out.size;have hbw:Below w.heap.size w wr:=Zb HB6.out hbl;clear s0 s1 s2 s3 s4 hcs hbk hW hci
    rcases hco with ⟨a,hs⟩|⟨p,ii,t,hbn⟩
    · have hk':=hs.k;have hat:=hs.at_
      simp only at hk' hat;subst hk';subst hat;obtain ⟨⟨ax,ay,aw⟩,ha⟩:∃ e,N.ar[a]?=some e:=⟨_,Zg hs.lt⟩;have HOW:=Zh (hs.old ha);have ham:a<m:=by rw [←HNA.out];exact hs.lt
      obtain ⟨ab,ao,ax',ay',aw',rfl,ha',c0,c1,c2⟩:=HH.out.2.1.at_ ham;rw [ha] at ha'
      cases ha'
      have hab:=Qag c2;simp only at hab;have ca:=Zc hbw (Zn _) c2;have i3:(a:Int)<(m:Int):=by omega
      have i4:(0:Int)≤(a:Int):=by omega
      clear hs ha c0 c1 c2 x0 x2 hbl hbw
      go_wp2_with fail
      obtain ⟨S,hSe⟩:∃ S:World→Prop,S=fun V=>V.cell? ⟨w.heap.size,1,none⟩=some (.slice (some ⟨ab,ao,none⟩) m d)∧V.cell? ⟨bg,i*5+1,none⟩=some (.int .i64 a)∧V.cell? ⟨ab,ao+a*3+2,none⟩=some (.int .i64 aw):=⟨_,rfl⟩
      have HSX:=Zh (show ∀ V,S V→V.cell? ⟨w.heap.size,1,none⟩=some (.slice (some ⟨ab,ao,none⟩) m d)∧V.cell? ⟨bg,i*5+1,none⟩=some (.int .i64 a)∧V.cell? ⟨ab,ao+a*3+2,none⟩=some (.int .i64 aw) from fun V h=>by rw [hSe] at h;exact h)
      have hS2:S wr.drew:=by rw [hSe];exact ⟨x1,k1,ca⟩
      have hS3:S (wr.drew.setCell ⟨bg,i*5+4,none⟩ (.int .i64 aw)):=by
       rw [hSe];refine ⟨?_,?_,?_⟩
       all_goals rw [World.cell?_setCell_other _ _ _ _ (by intro h;simp only [Addr.mk.injEq] at h;omega)];assumption
      have k4':wr.drew.cell? ⟨bg,i*5+4,none⟩=some (.int .i64 v):=k4;have kf':wr.drew.frozen? ⟨bg,i*5+4,none⟩=false:=kf;clear hSe k0 k1 k2 k3 ca x1 k4 kf;refine wp_region_held_drew (S:=S) (by kernel_rfl) hS2 (fun _=>?_);refine tz 0 58 ?_;refine tz 1 59 ?_;refine tz 2 60 ?_;refine tz 3 61 ?_;refine tz 4 62 ?_;refine tz 5 63 ?_;refine tz 6 64 ?_;refine tz 7 65 ?_;refine tz 8 66 ?_;refine tz 9 67 ?_;refine tz 10 68 ?_;refine tz 11 69 ?_;refine tz 12 70 ?_;refine tz 13 71 ?_;refine Zk 14 (fun K hK=>?_);go_simp;refine hK.out _ _ hS3 (fun _=>?_);clear hK K;refine Zd ?_;clear HSX hS2 hS3;have HN9:=Zh (HST.out wr.drew aw (HWW.out.below (Zr _ _).drew) HOW.out);have hb9:Below w6.heap.size w6 (wr.drew.setCell ⟨bg,i*5+4,none⟩ (.int .i64 aw)):=Below.setCell HBL.out.drew hbB _;clear k4' kf'
      go_wp2_with fail
      go_roundw
      case rel=>exact ⟨hb9,i+1,by omega,by go_num,HN9.out⟩
      case measure=>simp [intOf];omega
    · have hk':=hbn.k;have hat:=hbn.at_
      simp only at hk' hat;subst hk';subst hat;have htt:=hbn.tt;have HOW:=Zh hbn.old;obtain ⟨ti,tO,ci,co,cost,rfl,e1,e2,q1,q2,rfl⟩:=hbn.nat hok;simp only at e1 e2;subst e1;subst e2;have hil:=hbn.lt hok;simp only at hil;have hpk:p<k:=by have h2:N.ts.length=k:=HH.out.2.2.1;rw [←h2];exact (Zs htt).1
      obtain ⟨tb,to_,t',rfl,ht',d0,d1,TA,tn,TC,d2,hr2,_,_⟩:=HH.out.2.2.at_ hpk;rw [htt] at ht'
      cases ht'
      simp only at d0 d1 hr2;have htn:tn=cost.length:=hr2.1.symm;obtain ⟨IX,hIX⟩:∃ IX,IX=ci*tO+co:=⟨_,rfl⟩;rw [←hIX] at hil HOW;obtain ⟨cb,co_,cx,rfl,hcx,ccx⟩:=hr2.at_ (show IX<tn by omega)
      have HOV:=Zh (show oldW N (2,(p:Int),(ci:Int),(co:Int),v)=cx by rw [HOW.out];simp only;rw [List.getD_eq_getElem?_getD,hcx];rfl)
      obtain ⟨PR,hPR⟩:∃ PR,PR=ci*tO:=⟨_,rfl⟩;rw [←hPR] at hIX;have hmul:(ci:Int)*(tO:Int)=(PR:Int):=by rw [hPR];simp
      have hcl6:=(hok.costs _ (Zm htt));simp only at hcl6;have g0:=Zc hbw (Zn _) d0;have g1:=Zc hbw (Zn _) d1;have g2:=Zc hbw (Zn _) d2;have g3:=Zc hbw (Zn _) ccx;have l3:=Qag ccx;have l0:=Qag d0;simp only at l3 l0;have i3:(p:Int)<(k:Int):=by omega
      have i4:(0:Int)≤(p:Int):=by omega
      have hixn:IX<tn:=by omega
      have htn9:tn≤1000000:=by omega
      clear hbn htt hr2 d0 d1 d2 ccx hcx x0 x1 hPR hbw htn hcl6 hil
      go_wp2_with fail
      clear k0;refine wp_region_held_drew (S:=fun V=>Below wr.heap.size wr V) (by kernel_rfl) (Zr _ _).drew (fun _=>?_);have HSX:=Zh (show ∀ V,Below wr.heap.size wr V→V.cell? ⟨w.heap.size,2,none⟩=some (.slice (some ⟨tb,to_,none⟩) k e)∧V.cell? ⟨bg,i*5+1,none⟩=some (.int .i64 p)∧V.cell? ⟨tb,to_+p*3,none⟩=some (.int .i64 ti)∧V.cell? ⟨tb,to_+p*3+1,none⟩=some (.int .i64 tO)∧V.cell? ⟨tb,to_+p*3+2,none⟩=some (.slice (some ⟨cb,co_,none⟩) tn TC) from fun V hV=>⟨Zc hV (Zn _) x2,Zc hV (Zn _) k1,Zc hV (Zn _) g0,Zc hV (Zn _) g1,Zc hV (Zn _) g2⟩)
      refine tz 0 72 ?_;refine tz 1 73 ?_;refine tz 2 74 ?_;refine tz 3 75 ?_;refine tz 4 76 ?_;refine tz 5 77 ?_;refine tz 6 78 ?_;refine tz 7 79 ?_;refine tz 8 80 ?_;refine Zk 9 (fun K hK=>?_);go_simp;have hb5:Below wr.heap.size wr (wr.alloc (.cells #[.int .i64 0,.int .i64 0,.slice none 0 0] 75)).drew:=Qae;refine hK.out _ _ hb5 (fun _=>?_);clear hK K;obtain ⟨W5,hW5⟩:∃ W5,W5=(wr.alloc (.cells #[.int .i64 0,.int .i64 0,.slice none 0 0] 75)).drew:=⟨_,rfl⟩;rw [←hW5] at hb5 ⊢;have hT5:Blk W5 wr.heap.size 75 #[.int .i64 0,.int .i64 0,.slice none 0 0]:=by rw [hW5];exact (Blk.new _ _ _).drew
      obtain ⟨t0,t1,t2⟩:=hT5.three;have f0:=hT5.frozen 0;have f1:=hT5.frozen 1;have f2:=hT5.frozen 2;clear hW5;refine Zk 10 (fun K hK=>?_);go_simp;have hb6:Below wr.heap.size wr (((W5.setCell ⟨wr.heap.size,0,none⟩ (.int .i64 ti)).setCell ⟨wr.heap.size,1,none⟩ (.int .i64 tO)).setCell ⟨wr.heap.size,2,none⟩ (.slice (some ⟨cb,co_,none⟩) tn TC)):=((hb5.setCell (Zn _) _).setCell (Zn _) _).setCell (Zn _) _;refine hK.out _ _ hb6 (fun _=>?_);clear hK K;refine Zd ?_;obtain ⟨W6,hW6⟩:∃ W6,W6=((W5.setCell ⟨wr.heap.size,0,none⟩ (.int .i64 ti)).setCell ⟨wr.heap.size,1,none⟩ (.int .i64 tO)).setCell ⟨wr.heap.size,2,none⟩ (.slice (some ⟨cb,co_,none⟩) tn TC):=⟨_,rfl⟩;rw [←hW6] at hb6 ⊢;have hT6:Blk W6 wr.heap.size 75 #[.int .i64 ti,.int .i64 tO,.slice (some ⟨cb,co_,none⟩) tn TC]:=by rw [hW6];exact ((hT5.set_ 0 _).set_ 1 _).set_ 2 _
      clear hW6 hb5 hT5 t0 t1 t2 f0 f1 f2 HSX x2
      go_wp2_with fail
      obtain ⟨S,hSe⟩:∃ S:World→Prop,S=fun V=>V.cell? ⟨wr.heap.size,1,none⟩=some (.int .i64 tO)∧V.cell? ⟨wr.heap.size,2,none⟩=some (.slice (some ⟨cb,co_,none⟩) tn TC)∧V.cell? ⟨bg,i*5+2,none⟩=some (.int .i64 ci)∧V.cell? ⟨bg,i*5+3,none⟩=some (.int .i64 co)∧V.cell? ⟨cb,co_+IX,none⟩=some (.int .i64 cx):=⟨_,rfl⟩
      have HSX:=Zh (show ∀ V,S V→V.cell? ⟨wr.heap.size,1,none⟩=some (.int .i64 tO)∧V.cell? ⟨wr.heap.size,2,none⟩=some (.slice (some ⟨cb,co_,none⟩) tn TC)∧V.cell? ⟨bg,i*5+2,none⟩=some (.int .i64 ci)∧V.cell? ⟨bg,i*5+3,none⟩=some (.int .i64 co)∧V.cell? ⟨cb,co_+IX,none⟩=some (.int .i64 cx)∧(ci:Int)*(tO:Int)=(PR:Int)∧IntKind.i64.wrap (PR:Int)=(PR:Int)∧(PR:Int)+(co:Int)=(IX:Int)∧IntKind.i64.wrap (IX:Int)=(IX:Int)∧(0:Int)≤(IX:Int)∧(IX:Int)<(tn:Int) from fun V h=>by
       rw [hSe] at h;exact ⟨h.1,h.2.1,h.2.2.1,h.2.2.2.1,h.2.2.2.2,hmul,IntWalk.i64_in _ (by omega),by omega,IntWalk.i64_in _ (by omega),by omega,by omega⟩)
      have m1:W6.drew.cell? ⟨wr.heap.size,1,none⟩=some (.int .i64 tO):=by have:=hT6.cell 1;exact this
      have m2:W6.drew.cell? ⟨wr.heap.size,2,none⟩=some (.slice (some ⟨cb,co_,none⟩) tn TC):=by have:=hT6.cell 2;exact this
      have m3:W6.drew.cell? ⟨bg,i*5+2,none⟩=some (.int .i64 ci):=Zc hb6 (Zn _) k2;have m4:W6.drew.cell? ⟨bg,i*5+3,none⟩=some (.int .i64 co):=Zc hb6 (Zn _) k3;have m5:W6.drew.cell? ⟨cb,co_+IX,none⟩=some (.int .i64 cx):=Zc hb6 (Zn _) g3;have hS2:S W6.drew:=by rw [hSe];exact ⟨m1,m2,m3,m4,m5⟩
      have hS3:S (W6.drew.setCell ⟨bg,i*5+4,none⟩ (.int .i64 cx)):=by
       rw [hSe];refine ⟨?_,?_,?_,?_,?_⟩
       all_goals rw [World.cell?_setCell_other _ _ _ _ (by intro h;simp only [Addr.mk.injEq] at h;omega)];assumption
      have k4':W6.drew.cell? ⟨bg,i*5+4,none⟩=some (.int .i64 v):=Zc hb6 (Zn _) k4;have kf':W6.drew.frozen? ⟨bg,i*5+4,none⟩=false:=by rw [←kf];exact Below.frozenOf hb6 (by exact kl)
      clear hSe k1 k2 k3 k4 kf g0 g1 g2 g3 m1 m2 m3 m4 m5 hT6 hIX hmul hixn;refine wp_region_held_drew (S:=S) (by kernel_rfl) hS2 (fun _=>?_);refine tz 0 81 ?_;refine tz 1 82 ?_;refine tz 2 83 ?_;refine tz 3 84 ?_;refine tz 4 85 ?_;refine tz 5 86 ?_;refine tz 6 87 ?_;refine tz 7 88 ?_;refine tz 8 89 ?_;refine tz 9 90 ?_;refine tz 10 91 ?_;refine tz 11 92 ?_;refine tz 12 93 ?_;refine tz 13 94 ?_;refine tz 14 95 ?_;refine tz 15 96 ?_;refine tz 16 97 ?_;refine tz 17 98 ?_;refine tz 18 99 ?_;refine tz 19 100 ?_;refine tz 20 101 ?_;refine tz 21 102 ?_;refine Zk 22 (fun K hK=>?_);go_simp;refine hK.out _ _ hS3 (fun _=>?_);clear hK K;refine Zd ?_;clear HSX hS2 hS3;have HN9:=Zh (HST.out W6.drew cx (HWW.out.below hb6.drew) HOV.out);have hb9:Below w6.heap.size w6 (W6.drew.setCell ⟨bg,i*5+4,none⟩ (.int .i64 cx)):=Below.setCell (HBL.out.trans (hb6.mono hsz)).drew hbB _;clear k4' kf'
      go_wp2_with fail
      go_roundw
      case rel=>exact ⟨hb9,i+1,by omega,by go_num,HN9.out⟩
      case measure=>simp [intOf];omega
  obtain rfl:i=cn:=by omega
  have i3:¬((i:Int)<(i:Int)):=by omega
  have HW:=Zh (show ChW wr w6.heap.size A9 (Qdk N cl) by rw [←Qty,HLN.out];exact hW)
  have HBr:=Zh (Zb HB6.out hbl);have HSr:=Zh (HS6.out.below hbl);have HXr:=Zh (HX6.out.below hbl HX6.out.lt);have hz6r:=hbl.size;clear hW hbl x0 x1 x2 xl hlt hi HS6 HX6 HY6
  go_wp2_with fail
  with_reducible refine (allQ_ok wr F G g o N ls NC HSr.out).mono ?_
  unfold AllQ;rintro r wa ⟨B0,wl,rfl,hz0,hB0,hA0,hba⟩;have hlt0:B0<wa.heap.size:=hB0.lt
  have hbt:=Qmg hok HBAT.out;have hap:=Qqv hok HBAT.out;have htb:=how_back hok HBAT.out ls;have HBT:=Zh hbt;have HAP:=Zh hap;have HTB:=Zh htb;have HSa:=Zh (HSr.out.below hba);have HBa:=Zh (Zb HBr.out hba);have HB0:=Zh hB0;have HA0:=Zh hA0;have HWa:=Zh (HW.out.below hba);have HXa:=Zh (HXr.out.below hba HXr.out.lt);have hzra:=hba.size;clear hB0 hA0 hba HSr HBr HW HXr hbt hap htb
  go_wp2_with fail
  with_reducible refine (Qqx CA i cc cl wa (HC.out.below HBa.out) (by omega)).mono ?_
  rintro r wb ⟨Ab,cb,rfl,hob,hbb⟩;have hzab:=hbb.size;have HDB:=Zh (doQ_ok wb F G g o N ls NC Ab i cb NC B0 wa.heap.size cl wl (HSa.out.below hbb) (HB0.out.below hbb HB0.out.lt) (fun h=>by have:=HF6.out B0 h;omega) HA0.out hob (fun b h=>by have:=HF6.out b h;omega) HBAT.out hl256);have HBb:=Zh (Zb HBa.out hbb);have HEb:=Zh (HB0.out.below hbb HB0.out.lt);have HWb:=Zh (HWa.out.below hbb);have HXb:=Zh (HXa.out.below hbb HXa.out.lt);clear hob hbb HSa HBa HB0 HWa HXa
  go_wp2_with fail
  with_reducible refine HDB.out.mono ?_
  unfold DoQ;rintro r wc ⟨Bc,dl,Fc,rfl,hzc,hBc,hAc,hSc,hFc,hKc,hszc,hBelc⟩;have HSc:=Zh hSc;have HFc:=Zh hFc;have HAc:=Zh hAc;have HCc:=Zh hBc;have hbel2:=hBelc (w.heap.size+2) (by have:=HXb.out.lt;have:=HBb.out.size;have:=HW2.out;omega) (fun b h=>HFL.out b h);have HBc:=Zh (HBb.out.trans (hbel2.mono (by omega)));have HXc:=Zh (HXb.out.below hbel2 (by omega));have HEc:=Zh (hKc.blkM HEb.out (fun h=>by have:=HF6.out B0 h;omega));have HWc:=Zh (HWb.out.kept hKc (fun b h1 _ h2=>by have:=HF6.out b h2;omega));have hltc:Bc<wc.heap.size:=hBc.lt
  obtain ⟨hi9,hhi⟩:∃ x,x=Qsv (tb ls (Qcz N ls cl)):=⟨_,rfl⟩;rw [←hhi];have HHI:=Zh hhi;clear hSc hFc hAc hBc hbel2 hKc hBelc HDB HBb HEb HWb HXb hhi
  go_wp2_with fail
  with_reducible refine (Qqx A9 i c9 (Qdk N cl) wc (HWc.out.rd (by unfold Qdk;rw [List.length_map];exact HLN.out)) (by omega)).mono ?_
  rintro r wd ⟨Ad,cd,rfl,hod,hbd⟩;have hzcd:=hbd.size;have HDD:=Zh (doQ_ok wd Fc G g o (Qef N cl) ls NC Ad i cd NC Bc wc.heap.size (Qdk N cl) dl (HSc.out.below hbd) (HCc.out.below hbd HCc.out.lt) (fun h=>by have:=(HFc.out Bc h).2;omega) HAc.out hod (fun b h=>by have:=(HFc.out b h).2;omega) HBT.out (by unfold Qdk;rw [List.length_map];exact hl256));have HBd:=Zh (Zb HBc.out hbd);have HEd:=Zh (HEc.out.below hbd HEc.out.lt);have HXd:=Zh (HXc.out.below hbd HXc.out.lt);clear hod hbd HSc HBc HCc HEc HWc HXc
  go_wp2_with fail
  with_reducible refine HDD.out.mono ?_
  unfold DoQ;rintro r we ⟨Be,el,Fe,rfl,hze,hBe,hAe,hSe,hFe,hKe,hsze,hBele⟩;rw [HTB.out,←HHI.out];rw [HAP.out] at hAe hSe;obtain rfl:=hAe.uniq HA0.out
  have hbel2:=hBele (w.heap.size+2) (by have:=HXd.out.lt;have:=HBd.out.size;have:=HW2.out;omega) (fun b h=>by
   rcases (HFc.out b h).1 with h1|h1
   · exact HFL.out b h1
   · have:=HW2.out;omega)
  have HBe:=Zh (HBd.out.trans (hbel2.mono (by omega)));have HXe:=Zh (HXd.out.below hbel2 (by omega))
  have HEe:=Zh (hKe.blkM HEd.out (fun h=>by
   rcases (HFc.out B0 h).1 with h1|h1
   · have:=HF6.out B0 h1;omega
   · omega))
  have HCe:=Zh hBe;have HSe:=Zh hSe;have hn9:NC≤1000000000:=by rw [HNC.out];exact hS9
  have hcl9:el.length=NC:=by rw [HA0.out.1];exact HNC.out.symm
  clear hBe hAe hSe hFe hKe hBele HDD HBd HEd HXd hbel2
  go_wp2_with fail
  with_reducible refine (Qeq (some ⟨Be,0,none⟩) (some ⟨B0,0,none⟩) NC NC NC NC el el we (HCe.out.rdI hcl9) (HEe.out.rdI hcl9) hn9 hn9).mono ?_
  rintro r wf ⟨rfl,kf,rfl⟩;rw [decide_eq_true rfl];have HXf:=Zh (show Blk (we.drewN kf) w.heap.size 26 #[.slice A n c,.slice B m d,.slice C k e] from HXe.out.drewN kf)
  have HBf:=Zh (Qap HBe.out kf);have HSf:=Zh (HSe.out.below (Qap (Zr _ _) kf));obtain ⟨x0,x1,x2⟩:=HXf.out.three;have xl:=HXf.out.lt
  go_wp2_with fail
  with_reducible refine (same6_ok g A B C n m k c d e N _ HSf.out.go.gr.rd (HH.out.below HBf.out) hok).mono ?_
  rintro r wg ⟨rfl,hbg⟩
  go_wp2_with fail
  go_ret
  exact ⟨rfl,Zb HBf.out hbg⟩
end Go.Proofs.YthoagdpakddbdaaGreatDoor
