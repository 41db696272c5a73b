/- Parts of the proof: MeE, RoW, RoP, RoQ, RoT, RoM. -/
import Derived.Test.YthoagdpakddbdaaGreatDoorL20
import Derived.Laws.StructEq
namespace Go.Proofs.YthoagdpakddbdaaGreatDoor
open Go.RowKit Go.Proofs.Tryz
attribute [local go_sem ↓] Go.wp_at_zero Go.wp_at_succ
set_option maxHeartbeats 1000000 in
theorem Qfl (A B:Option Addr)(n m c d:Nat)(s t:Qby)(w:World)(h:RdI w A n s.costs)(g:RdI w B m t.costs)(hn:n≤1000000000)(hm:m≤1000000000) :
 Calls prog 64 #[.agg #[.int .i64 s.ins,.int .i64 s.outs,.slice A n c],.agg #[.int .i64 t.ins,.int .i64 t.outs,.slice B m d]] w fun e w'=>e=.returned (.bool (tabB s t))∧Below w.heap.size w w':=by
 obtain ⟨si,so,sc⟩:=s;obtain ⟨ti,tO,tc⟩:=t;simp only at h g;have HR:=Zh h;have HS:=Zh g;unfold tabB;simp only;clear h g
 by_cases h1:si=ti
 rotate_left
 · have e1:(si == ti)=false:=by simpa using h1
   rw [e1,Bool.false_and,Bool.false_and];clear h1
   go_enter func64,ntmps64
   go_wp2_with fail
   go_ret
   exact ⟨rfl,Qaf⟩
 have e1:(si == ti)=true:=by simpa using h1
 rw [e1,Bool.true_and];clear h1
 by_cases h2:so=tO
 rotate_left
 · have e2:(so == tO)=false:=by simpa using h2
   rw [e2,Bool.false_and];clear h2
   go_enter func64,ntmps64
   go_wp2_with fail
   go_ret
   exact ⟨rfl,Qaf⟩
 have e2:(so == tO)=true:=by simpa using h2
 rw [e2,Bool.true_and];clear h2;obtain ⟨bb,hbb⟩:∃ bb,bb=decide (sc=tc):=⟨_,rfl⟩;rw [←hbb];have HB:=Zh hbb;clear hbb
 go_enter func64,ntmps64
 go_wp2_with fail
 (refine Qac ?_;intro w1 hw1)
 have hb1:Below w.heap.size w w1:=by rw [hw1];exact Qaf
 clear hw1;with_reducible refine (Qdw A B n m c d sc tc w1 (HR.out.below hb1) (HS.out.below hb1) hn hm).mono ?_
 rintro e w2 ⟨rfl,k2,rfl⟩;rw [←HB.out]
 go_wp2_with fail
 go_ret
 exact ⟨rfl,Qaw hb1 k2⟩
theorem Qyb (t:Qby):tabB t t=true:=Qnm.2 rfl
set_option maxRecDepth 20000 in
set_option maxHeartbeats 4000000 in
theorem Qkr (A B C A' B' C':Option Addr)(n m k c d e c' d' e':Nat)(N:Qai)(w:World)(h:Qbc w A B C n m k N)(h2:Qbc w A' B' C' n m k N)(hn:n≤1000000)(hm:m≤1000000)(hk:k≤1000000)(hc:∀ t∈N.ts,t.costs.length≤1000000) :
 Calls prog 53 #[.agg #[.slice A n c,.slice B m d,.slice C k e],.agg #[.slice A' n c',.slice B' m d',.slice C' k e']] w fun r w'=>r=.returned (.bool true)∧Below w.heap.size w w':=by
 have HV:=Zh h.1;have HA:=Zh h.2.1;have HY:=Zh h.2.2;have HV2:=Zh h2.1;have HA2:=Zh h2.2.1;have HY2:=Zh h2.2.2;have HC:=Zh hc;have e0:((n:Int) != (n:Int))=false:=by simp
 have e1:((m:Int) != (m:Int))=false:=by simp
 have e2:((k:Int) != (k:Int))=false:=by simp
 clear h h2 hc
 go_enter func53,ntmps53
 go_wp2_with fail
 (refine Qag ?_;intro w1 hw1)
 have hb1:Below w.heap.size w w1:=by rw [hw1];exact Qaf
 have HX:=Zh (show Blk w1 w.heap.size 26 #[.slice A n c,.slice B m d,.slice C k e] by rw [hw1];exact Qaz)
 have HX2:=Zh (show Blk w1 (w.heap.size+1) 26 #[.slice A' n c',.slice B' m d',.slice C' k e'] by rw [hw1];exact Qaz)
 have HB1:=Zh hb1;clear hw1 hb1
 go_loopw [5] (fun q V=>Below w1.heap.size w1 V∧∃ i:Nat,i≤n∧q=.int .i64 i) (fun q _=>n-(intOf q).toNat)
 case atStart=>exact ⟨Zr _ _,0,Nat.zero_le _,rfl⟩
 case round =>
  obtain ⟨hbl,i,hi,rfl⟩:=hrel;obtain ⟨x0,x1,x2⟩:=(HX.out.below hbl HX.out.lt).three;obtain ⟨y0,y1,y2⟩:=(HX2.out.below hbl HX2.out.lt).three;have hbw:=Zb HB1.out hbl
  by_cases hlt:i<n
  · obtain ⟨b,o,p,q,r,rfl,hx,cx,cy,cz⟩:=(HV.out.below hbw).at_ hlt
    obtain ⟨b',o',p',q',r',rfl,hx',cx',cy',cz'⟩:=(HV2.out.below hbw).at_ hlt;rw [hx] at hx'
    cases hx'
    have i1:(i:Int)<(n:Int):=by omega
    have i2:(0:Int)≤(i:Int):=by omega
    clear hx x1 x2 y1 y2
    go_wp2_with fail
    go_quiet (fail)
    go_wp2_with fail
    go_roundw
    case rel=>exact ⟨Qaw hbl _,i+1,by omega,by go_num⟩
    case measure=>simp [intOf];omega
  obtain rfl:i=n:=by omega
  have i1:¬(i:Int)<(i:Int):=by omega
  clear hlt hi
  go_wp2_with fail
  obtain ⟨w2,hw2⟩:∃ w2,w2=wr:=⟨_,rfl⟩;subst hw2
  go_loopw [6] (fun q V=>Below w1.heap.size w1 V∧∃ i:Nat,i≤m∧q=.int .i64 i) (fun q _=>m-(intOf q).toNat)
  case atStart=>exact ⟨hbl,0,Nat.zero_le _,rfl⟩
  case round =>
   clear hbl hbw x0 x1 x2 y0 y1 y2;obtain ⟨hbl,j,hj,rfl⟩:=hrel;obtain ⟨x0,x1,x2⟩:=(HX.out.below hbl HX.out.lt).three;obtain ⟨y0,y1,y2⟩:=(HX2.out.below hbl HX2.out.lt).three;have hbw:=Zb HB1.out hbl
   by_cases hlt:j<m
   · obtain ⟨b,o,p,q,r,rfl,hx,cx,cy,cz⟩:=(HA.out.below hbw).at_ hlt
     obtain ⟨b',o',p',q',r',rfl,hx',cx',cy',cz'⟩:=(HA2.out.below hbw).at_ hlt;rw [hx] at hx'
     cases hx'
     have i1:(j:Int)<(m:Int):=by omega
     have i2:(0:Int)≤(j:Int):=by omega
     clear hx x0 x2 y0 y2
     go_wp2_with fail
     go_quiet (fail)
     go_wp2_with fail
     go_roundw
     case rel=>exact ⟨Qaw hbl _,j+1,by omega,by go_num⟩
     case measure=>simp [intOf];omega
   obtain rfl:j=m:=by omega
   have i1:¬(j:Int)<(j:Int):=by omega
   clear hlt hj
   go_wp2_with fail
   obtain ⟨w3,hw3⟩:∃ w3,w3=wr:=⟨_,rfl⟩;subst hw3
   go_loopw [7] (fun q V=>Below w1.heap.size w1 V∧∃ i:Nat,i≤k∧q=.int .i64 i) (fun q _=>k-(intOf q).toNat)
   case atStart=>exact ⟨hbl,0,Nat.zero_le _,rfl⟩
   case round =>
    clear hbl hbw x0 x1 x2 y0 y1 y2;obtain ⟨hbl,a,ha,rfl⟩:=hrel;obtain ⟨x0,x1,x2⟩:=(HX.out.below hbl HX.out.lt).three;obtain ⟨y0,y1,y2⟩:=(HX2.out.below hbl HX2.out.lt).three;have hbw:=Zb HB1.out hbl
    by_cases hlt:a<k
    · obtain ⟨b,o,t,rfl,ht,c0,c1,TA,tn,TC,c2,hr,_,_⟩:=HY.out.at_ hlt
      obtain ⟨b',o',t',rfl,ht',c0',c1',TB,tn',TD,c2',hr',_,_⟩:=HY2.out.at_ hlt;rw [ht] at ht'
      cases ht'
      have hct:=HC.out t (Zm ht);have htn:tn=t.costs.length:=hr.1.symm;have htn':tn'=t.costs.length:=hr'.1.symm;have HST:=Zh (fun V (hV:Below w.heap.size w V)=>Qfl TA TB tn tn' TC TD t t V (hr.below hV) (hr'.below hV) (by omega) (by omega));have i1:(a:Int)<(k:Int):=by omega
      have i2:(0:Int)≤(a:Int):=by omega
      have HSX:=Zh (show ∀ V,Below w1.heap.size w1 V→V.cell? ⟨w.heap.size,2,none⟩=some (.slice (some ⟨b,o,none⟩) k e)∧V.cell? ⟨w.heap.size+1,2,none⟩=some (.slice (some ⟨b',o',none⟩) k e')∧V.cell? ⟨b,o+a*3,none⟩=some (.int .i64 t.ins)∧V.cell? ⟨b,o+a*3+1,none⟩=some (.int .i64 t.outs)∧V.cell? ⟨b,o+a*3+2,none⟩=some (.slice TA tn TC)∧V.cell? ⟨b',o'+a*3,none⟩=some (.int .i64 t.ins)∧V.cell? ⟨b',o'+a*3+1,none⟩=some (.int .i64 t.outs)∧V.cell? ⟨b',o'+a*3+2,none⟩=some (.slice TB tn' TD) from fun V hV=>by
       have hw:=Zb HB1.out hV;exact ⟨by rw [(HX.out.below hV HX.out.lt).cell];rfl,by rw [(HX2.out.below hV HX2.out.lt).cell];rfl,Zc hw (Zn _) c0,Zc hw (Zn _) c1,Zc hw (Zn _) c2,Zc hw (Zn _) c0',Zc hw (Zn _) c1',Zc hw (Zn _) c2'⟩)
      clear ht hr hr' c0 c1 c2 c0' c1' c2' x0 x1 y0 y1 htn htn' hct
      go_wp2_with fail
      refine wp_region_held_drew (S:=fun V=>Below w1.heap.size w1 V) (by kernel_rfl) hbl.drew (fun _=>?_);clear x2 y2;refine tz 0 76 ?_;refine tz 1 77 ?_;refine tz 2 78 ?_;refine tz 3 79 ?_;refine tz 4 80 ?_;refine tz 5 81 ?_;refine tz 6 82 ?_;refine tz 7 83 ?_;refine tz 8 84 ?_;refine tz 9 85 ?_;refine Zk 10 (fun K hK=>?_);go_simp;with_reducible refine (HST.out _ hbw.drew).mono ?_
      rintro r w4 ⟨rfl,hb4⟩;have hbl4:Below w1.heap.size w1 w4:=Zb hbl.drew hb4;rw [Qyb];clear hb4;go_simp;refine hK.out _ _ hbl4 (fun _=>?_);clear hK K;refine tz 11 87 ?_;refine Zd ?_;clear HSX
      go_wp2_with fail
      go_roundw
      case rel=>exact ⟨hbl4,a+1,by omega,by go_num⟩
      case measure=>simp [intOf];omega
    obtain rfl:a=k:=by omega
    have i1:¬(a:Int)<(a:Int):=by omega
    go_wp2_with fail
    go_ret
    exact ⟨rfl,hbw⟩
set_option maxRecDepth 20000 in
set_option maxHeartbeats 4000000 in
theorem Qtq (g:Nat)(A B C:Option Addr)(n m k c d e:Nat)(N:Qai)(w:World)(hg:Qgm w g N)(h:Qbc w A B C n m k N)(hok:Qav N) :
 Calls prog 23 #[.pointer (some ⟨g,0,none⟩),.agg #[.slice A n c,.slice B m d,.slice C k e]] w fun r w'=>r=.returned (.bool true)∧Below w.heap.size w w':=by
 have HG:=Zh hg;have HH:=Zh h;have HCO:=Zh hok.costs;have hnv:N.vs.length=n:=h.1.1;have hna:N.ar.length=m:=h.2.1.1;have hnt:N.ts.length=k:=h.2.2.1;have lv:=hok.lv;have la:=hok.la;have lt:=hok.lt;have e0:((n:Int) != (n:Int))=false:=by simp
 have e1:((m:Int) != (m:Int))=false:=by simp
 clear h hg
 go_enter func23,ntmps23
 go_wp2_with fail
 (refine Qag ?_;intro w1 hw1)
 have hb1:Below w.heap.size w w1:=by rw [hw1];exact Qaf
 have HX:=Zh (show Blk w1 w.heap.size 26 #[.slice A n c,.slice B m d,.slice C k e] by rw [hw1];exact Qaz)
 have HB1:=Zh hb1;clear hw1 hb1;have HSX:=Zh (show ∀ V,Below w1.heap.size w1 V→V.cell? ⟨w.heap.size,0,none⟩=some (.slice A n c)∧V.cell? ⟨w.heap.size,1,none⟩=some (.slice B m d)∧V.cell? ⟨w.heap.size,2,none⟩=some (.slice C k e) from fun V hV=>(HX.out.below hV HX.out.lt).three)
 refine wp_region_held_drew (S:=fun V=>Below w1.heap.size w1 V) (by kernel_rfl) (Zr _ _).drew (fun _=>?_);refine tz 0 6 ?_;refine tz 1 7 ?_;refine tz 2 8 ?_;refine tz 3 9 ?_;refine tz 5 11 ?_;refine tz 6 12 ?_;refine tz 7 13 ?_;refine Zk 4 (fun K hK=>?_);go_simp;with_reducible refine (Qii g N w1.drew (HG.out.below HB1.out.drew)).mono ?_
 rintro r w' ⟨rfl,rfl⟩;rw [hnv];go_simp;refine hK.out _ _ (Zr _ _).drew (fun _=>?_);clear hK K;refine tz 8 14 ?_;refine tz 9 15 ?_;refine tz 10 16 ?_;refine tz 11 17 ?_;refine tz 13 19 ?_;refine tz 14 20 ?_;refine tz 15 21 ?_;refine Zk 12 (fun K hK=>?_);go_simp;with_reducible refine (Qhk g N w1.drew (HG.out.below HB1.out.drew)).mono ?_
 rintro r w' ⟨rfl,rfl⟩;rw [hna];go_simp;refine hK.out _ _ (Zr _ _).drew (fun _=>?_);clear hK K;refine tz 16 22 ?_;refine tz 17 23 ?_;refine tz 18 24 ?_;refine tz 19 25 ?_;refine tz 22 28 ?_;refine Zk 20 (fun K hK=>?_);go_simp;with_reducible refine (Qsx g N w1.drew (HG.out.below HB1.out.drew)).mono ?_
 rintro r w2 ⟨A1,B1,C1,a1,b1,c1,rfl,hN2,_,hb2⟩;rw [hnv,hna,hnt] at hN2 ⊢;have hbl2:Below w1.heap.size w1 w2:=(Zr _ _).drew.trans hb2;have HN2:=Zh hN2;clear hb2 hN2;go_simp;refine hK.out _ _ hbl2 (fun _=>?_);clear hK K;refine Zk 21 (fun K hK=>?_);go_simp;with_reducible refine (Qxa A1 B1 C1 n m k a1 b1 c1 N w2 HN2.out (by omega) (by omega) (by omega) HCO.out).mono ?_
 rintro r w3 ⟨A2,B2,C2,a2,b2,c2,rfl,hN3,hb3⟩;have hbl3:=Zb hbl2 hb3;have HN3:=Zh hN3;clear hb3 hN3 HN2;go_simp;refine hK.out _ _ hbl3 (fun _=>?_);clear hK K;refine Zk 23 (fun K hK=>?_);go_simp;with_reducible refine (Qkr A2 B2 C2 A B C n m k a2 b2 c2 c d e N w3 HN3.out (HH.out.below (Zb HB1.out hbl3)) (by omega) (by omega) (by omega) HCO.out).mono ?_
 rintro r w4 ⟨rfl,hb4⟩;have hbl4:=Zb hbl3 hb4;clear hb4 HN3;go_simp;refine hK.out _ _ hbl4 (fun _=>?_);clear hK K;refine tz 24 30 ?_;refine tz 25 31 ?_;refine Zd ?_;clear HSX
 go_wp2_with fail
 go_loopw [5] (fun q V=>Below w1.heap.size w1 V∧∃ i:Nat,i≤m∧q=.int .i64 i) (fun q _=>m-(intOf q).toNat)
 case atStart=>exact ⟨hbl4,0,Nat.zero_le _,rfl⟩
 case round =>
  clear hbl2 hbl3 hbl4;obtain ⟨hbl,i,hi,rfl⟩:=hrel;obtain ⟨x0,x1,x2⟩:=(HX.out.below hbl HX.out.lt).three;have hbw:=Zb HB1.out hbl
  by_cases hlt:i<m
  rotate_left
  · obtain rfl:i=m:=by omega
    have i1:¬(i:Int)<(i:Int):=by omega
    go_wp2_with fail
    go_ret
    exact ⟨rfl,hbw⟩
  obtain ⟨b,o,p,q,r,rfl,hx,cx,cy,cz⟩:=(HH.out.2.1).at_ hlt;have HXI:=Zh hx;have i1:(i:Int)<(m:Int):=by omega
  have i2:(0:Int)≤(i:Int):=by omega
  have e3:(p != p)=false:=by simp
  have e4:(q != q)=false:=by simp
  have e5:(r != r)=false:=by simp
  have HSX:=Zh (show ∀ V,Below w1.heap.size w1 V→V.cell? ⟨w.heap.size,1,none⟩=some (.slice (some ⟨b,o,none⟩) m d)∧V.cell? ⟨b,o+i*3,none⟩=some (.int .i64 p)∧V.cell? ⟨b,o+i*3+1,none⟩=some (.int .i64 q)∧V.cell? ⟨b,o+i*3+2,none⟩=some (.int .i64 r) from fun V hV=>by
   have hw:=Zb HB1.out hV;exact ⟨by rw [(HX.out.below hV HX.out.lt).cell];rfl,Zc hw (Zn _) cx,Zc hw (Zn _) cy,Zc hw (Zn _) cz⟩)
  clear hx cx cy cz x0 x2
  go_wp2_with fail
  clear x1;refine wp_region_held_drew (S:=fun V=>Below w1.heap.size w1 V) (by kernel_rfl) hbl.drew (fun _=>?_);refine tz 0 39 ?_;refine tz 1 40 ?_;refine tz 3 42 ?_;refine tz 4 43 ?_;refine tz 5 44 ?_;refine tz 6 45 ?_;refine tz 7 46 ?_;refine tz 8 47 ?_;refine Zk 2 (fun K hK=>?_);go_simp;with_reducible refine (Qhr g i N (p,q,r) wr.drew (HG.out.below hbw.drew) HXI.out).mono ?_
  rintro r' w' ⟨rfl,rfl⟩;go_simp;refine hK.out _ _ hbl.drew (fun _=>?_);clear hK K;refine tz 9 48 ?_;refine tz 10 49 ?_;refine tz 11 50 ?_;refine tz 12 51 ?_;refine tz 14 53 ?_;refine tz 15 54 ?_;refine tz 16 55 ?_;refine tz 17 56 ?_;refine tz 18 57 ?_;refine tz 19 58 ?_;refine Zk 13 (fun K hK=>?_);go_simp;with_reducible refine (Qlz g i N (p,q,r) wr.drew (HG.out.below hbw.drew) HXI.out).mono ?_
  rintro r' w' ⟨rfl,rfl⟩;go_simp;refine hK.out _ _ hbl.drew (fun _=>?_);clear hK K;refine tz 20 59 ?_;refine tz 21 60 ?_;refine tz 22 61 ?_;refine tz 23 62 ?_;refine tz 24 63 ?_;refine tz 26 65 ?_;refine tz 27 66 ?_;refine tz 28 67 ?_;refine tz 29 68 ?_;refine tz 30 69 ?_;refine tz 31 70 ?_;refine Zk 25 (fun K hK=>?_);go_simp;with_reducible refine (Qet g i N (p,q,r) wr.drew (HG.out.below hbw.drew) HXI.out).mono ?_
  rintro r' w' ⟨rfl,rfl⟩;go_simp;refine hK.out _ _ hbl.drew (fun _=>?_);clear hK K;refine tz 32 71 ?_;refine tz 33 72 ?_;refine Zd ?_;clear HSX
  go_wp2_with fail
  go_roundw
  case rel=>exact ⟨hbl.drew,i+1,by omega,by go_num⟩
  case measure=>simp [intOf];omega
theorem Rds.msk {W:World}{G:Nat→Prop}{s m:Nat}{A:Option Addr}{xs:List Value}(h:Rds W s A m xs)(hg:∀ b,Qaa A=some b→G b):Rds (msk W G) s A m xs :=
 ⟨h.1,fun i x hx=>by obtain ⟨b,o,e,hc⟩:=h.2 i x hx;exact ⟨b,o,e,Qao.2 ⟨hg b (by rw [e];rfl),hc⟩⟩⟩
theorem Rds.le_ {W W':World}{s m:Nat}{A:Option Addr}{xs:List Value}(h:Rds W s A m xs)(hl:Le W W'):Rds W' s A m xs :=
 ⟨h.1,fun i x hx=>by obtain ⟨b,o,e,hc⟩:=h.2 i x hx;exact ⟨b,o,e,hl _ _ hc⟩⟩
def Qsn (w:World)(xA xB xC xQ:Value)(L:Nat)(N:Qai) (ls:List (List Int)) (r:Ending) (w':World):Prop :=
 ∃ (G:Option Addr) (cg:Nat) (AE:Option Addr) (ce:Nat) (EL:List Ent),r=.returned (.agg #[xA,xB,xC,xQ,.slice G L cg,.slice AE EL.length ce])∧RdG (msk w' (fun b=>w.heap.size≤b)) G L (gatesOf N.ar ls)∧Rds (msk w' (fun b=>w.heap.size≤b)) 4 AE EL.length (Qeh EL)∧EL.length=Qbr (gatesOf N.ar ls)∧EntP N ls EL∧Below w.heap.size w w'
set_option maxHeartbeats 4000000 in
set_option maxRecDepth 20000 in
theorem Qpc (A B C Q:Option Addr)(n m k c d e L cq:Nat)(N:Qai) (ls:List (List Int)) (w:World) (h:Qbc w A B C n m k N) (hok:Qav N) (hq:RdT w Q L ls) (hP:Qbw N.vs.length ls) (hNC:Qbr (gatesOf N.ar ls)≤1000000000) :
 Calls prog 11 #[.agg #[.slice A n c,.slice B m d,.slice C k e],.agg #[.slice Q L cq]] w (Qsn w (.slice A n c) (.slice B m d) (.slice C k e) (.slice Q L cq) L N ls):=by
 have HGT:=Zh (fun V (hV:Below w.heap.size w V)=>Qqx A B C Q n m k c d e L cq N ls V (h.below hV) hok (hq.below hV) hP);have HP:=Zh hP;have HLL:=Zh hq.1;have l6:L≤6:=by rw [←hq.1];exact hP.l6
 have hlv:=hok.lv;have hla:=hok.la;obtain ⟨NC,hNCe⟩:∃ NC,NC=Qbr (gatesOf N.ar ls):=⟨_,rfl⟩;rw [←hNCe] at hNC;have HNC:=Zh hNCe;clear h hok hq hP hNCe
 go_enter func11,ntmps11
 go_wp2_with fail
 (refine Qag ?_;intro w1 hw1)
 have hb1:Below w.heap.size w w1:=by rw [hw1];exact Qaf
 have hX:Blk w1 w.heap.size 26 #[.slice A n c,.slice B m d,.slice C k e]:=by
  rw [hw1];refine Blk.alloc (Blk.alloc ?_ _) _;exact Blk.new _ _ _
 have hY:Blk w1 (w.heap.size+1) 29 #[.slice Q L cq]:=by
  rw [hw1];refine Blk.alloc ?_ _;refine Blk.new' _ _ _ ?_;simp
 have hZ:Blk w1 (w.heap.size+1+1) 38 #[.slice none 0 0,.slice none 0 0,.slice none 0 0,.slice none 0 0,.slice none 0 0,.slice none 0 0]:=by
  rw [hw1];refine Blk.new' _ _ _ ?_;simp
 clear hw1
 have HSX:=Zh (show ∀ V,Below w1.heap.size w1 V→V.cell? ⟨w.heap.size,0,none⟩=some (.slice A n c)∧V.cell? ⟨w.heap.size,1,none⟩=some (.slice B m d)∧V.cell? ⟨w.heap.size,2,none⟩=some (.slice C k e)∧V.cell? ⟨w.heap.size+1,0,none⟩=some (.slice Q L cq) from
  fun V hV=>⟨by rw [(hX.below hV hX.lt).cell];rfl,by rw [(hX.below hV hX.lt).cell];rfl,by rw [(hX.below hV hX.lt).cell];rfl,by rw [(hY.below hV hY.lt).cell];rfl⟩)
 refine wp_region_held_drew (S:=fun V=>Below w1.heap.size w1 V) (by kernel_rfl) (Zr _ _).drew (fun _=>?_);refine tz 0 10 ?_;refine tz 1 11 ?_;refine tz 2 12 ?_;refine tz 3 13 ?_;refine wpAnyH_ready (rs:=[4,6]) (by kernel_rfl) (by simp) ?_;refine AllReadyH.cons (o:=_) rfl (fun K hK=>?_) (AllReadyH.cons (o:=_) rfl (fun K hK=>?_) AllReadyH.nil)
 focus
  go_simp;with_reducible refine (HGT.out _ (hb1.trans (Zr _ _).drew)).mono ?_
  rintro r w2 ⟨G,cg,rfl,hG,hb2⟩;go_simp;have hb2':Below w1.heap.size w1 w2:=(Zr _ _).drew.trans hb2;refine hK.out _ _ hb2' (fun _=>?_);clear hK K;refine tz 5 15 ?_;refine Zk 6 (fun K hK=>?_);go_simp;refine hK.out _ _ (Zb hb2' Qaf) (fun _=>?_);clear hK K;refine Zk 7 (fun K hK=>?_);go_simp;refine hK.out _ _ (Zb hb2' Qaf) (fun _=>?_);clear hK K;refine Zd ?_;obtain ⟨V1,hV1⟩:∃ V1,V1=w2.alloc (.cells #[.slice A n c,.slice B m d,.slice C k e,.slice Q L cq,.slice G L cg,.slice none 0 0] 38):=⟨_,rfl⟩;rw [←hV1];have hb2V:Below w2.heap.size w2 V1:=by rw [hV1];exact Qaf
  have hBX':Blk V1 w2.heap.size 38 #[.slice A n c,.slice B m d,.slice C k e,.slice Q L cq,.slice G L cg,.slice none 0 0]:=by rw [hV1];exact Blk.new _ _ _
  have hbV:=Zb hb2' hb2V;clear hV1;obtain ⟨b5,hb5⟩:∃ b5,b5=w2.heap.size:=⟨_,rfl⟩;have hBX:Blk V1 b5 38 #[.slice A n c,.slice B m d,.slice C k e,.slice Q L cq,.slice G L cg,.slice none 0 0]:=by rw [hb5];exact hBX'
  obtain ⟨F,hFe⟩:∃ F:Nat→Prop,F=fun b=>w1.heap.size≤b∧b<w2.heap.size:=⟨_,rfl⟩
  have hG1:RdG (msk V1 F) G L (gatesOf N.ar ls):=hG.le ((Qax.msk (Qax.below hb2V)).trans (Qay (fun b hb=>by rw [hFe];exact hb)));have hb51:b5<V1.heap.size:=hBX.lt
  have hb52:w1.heap.size≤b5:=by rw [hb5];exact hb2'.size
  have hFF:∀ b,F b→b<V1.heap.size∧b≠b5:=fun b hb=>by
   rw [hFe] at hb;have:=hb2V.size;exact ⟨by omega,by omega⟩
  have hFL:∀ b,F b→w1.heap.size≤b:=fun b hb=>by rw [hFe] at hb;exact hb.1
  rw [←hb5];clear hG hFe hb5 hBX' hb2V hb2 hb2'
 rotate_left
 focus
  go_simp;have hb2:Below w1.heap.size w1 (w1.alloc (.cells #[.slice none 0 0,.slice none 0 0,.slice none 0 0,.slice none 0 0,.slice none 0 0,.slice none 0 0] 38)).drew:=((Zr _ _).alloc (Zn _) _).drew;refine hK.out _ _ hb2 (fun _=>?_);clear hK K;refine Zk 4 (fun K hK=>?_);go_simp;with_reducible refine (HGT.out _ (Zb hb1 hb2)).mono ?_
  rintro r w2 ⟨G,cg,rfl,hG,hb3⟩;go_simp;have hb2':Below w1.heap.size w1 w2:=Zb hb2 hb3;refine hK.out _ _ hb2' (fun _=>?_);clear hK K;refine tz 5 15 ?_;have hBo:Blk w2 w1.heap.size 38 #[.slice none 0 0,.slice none 0 0,.slice none 0 0,.slice none 0 0,.slice none 0 0,.slice none 0 0]:=((Blk.new w1 _ _).drew).below hb3 (Blk.new w1 38 #[.slice none 0 0,.slice none 0 0,.slice none 0 0,.slice none 0 0,.slice none 0 0,.slice none 0 0]).drew.lt;obtain ⟨b5,hb5⟩:∃ b5,b5=w1.heap.size:=⟨_,rfl⟩;have hbo:Blk w2 b5 38 #[.slice none 0 0,.slice none 0 0,.slice none 0 0,.slice none 0 0,.slice none 0 0,.slice none 0 0]:=by rw [hb5];exact hBo
  have HB5:=Zh hb5;have hz3:w1.heap.size+1≤w2.heap.size:=by have:=hBo.lt;omega
  rw [←hb5];clear hb5 hBo;have z0:w2.cell? ⟨b5,0,none⟩=some (.slice none 0 0):=Zq hbo;have z1:w2.cell? ⟨b5,1,none⟩=some (.slice none 0 0):=Zq hbo;have z2:w2.cell? ⟨b5,2,none⟩=some (.slice none 0 0):=Zq hbo;have z3:w2.cell? ⟨b5,3,none⟩=some (.slice none 0 0):=Zq hbo;have z4:w2.cell? ⟨b5,4,none⟩=some (.slice none 0 0):=Zq hbo;have z5:w2.cell? ⟨b5,5,none⟩=some (.slice none 0 0):=Zq hbo;have f0:=hbo.frozen 0;have f1:=hbo.frozen 1;have f2:=hbo.frozen 2;have f3:=hbo.frozen 3;have f4:=hbo.frozen 4;have f5:=hbo.frozen 5;have zl:=hbo.lt;refine Zk 7 (fun K hK=>?_);go_simp;obtain ⟨V1,hV1⟩:∃ V1,V1=(((((w2.setCell ⟨b5,0,none⟩ (.slice A n c)).setCell ⟨b5,1,none⟩ (.slice B m d)).setCell ⟨b5,2,none⟩ (.slice C k e)).setCell ⟨b5,3,none⟩ (.slice Q L cq)).setCell ⟨b5,4,none⟩ (.slice G L cg)).setCell ⟨b5,5,none⟩ (.slice none 0 0):=⟨_,rfl⟩;rw [←hV1]
  have hBX:Blk V1 b5 38 #[.slice A n c,.slice B m d,.slice C k e,.slice Q L cq,.slice G L cg,.slice none 0 0]:=by
   have:=(((((hbo.set_ 0 (.slice A n c)).set_ 1 (.slice B m d)).set_ 2 (.slice C k e)).set_ 3 (.slice Q L cq)).set_ 4 (.slice G L cg)).set_ 5 (.slice none 0 0);rw [←hV1] at this
   simpa using this
  have hbV:Below w1.heap.size w1 V1:=by
   rw [hV1];have hle:w1.heap.size≤b5:=by rw [HB5.out];exact Zn _
   exact Zi (Zi (Zi (Zi (Zi (Zi hb2' hle) hle) hle) hle) hle) hle
  have hk9:Qax (fun b=>b≠b5) w2 V1:=by rw [hV1];exact Qpe (fun e=>e rfl) _ _ _ _ _ _
  have hzV:V1.heap.size=w2.heap.size:=by rw [hV1];simp [World.setCell]
  refine hK.out _ _ (by rw [HB5.out];exact hbV) (fun _=>?_);clear hK K;refine Zd ?_;obtain ⟨F,hFe⟩:∃ F:Nat→Prop,F=fun b=>w1.heap.size+1≤b∧b<w2.heap.size:=⟨_,rfl⟩
  have hFF:∀ b,F b→b<V1.heap.size∧b≠b5:=fun b hb=>by
   rw [hFe] at hb;rw [hzV,HB5.out];exact ⟨by omega,by omega⟩
  have hG1:RdG (msk V1 F) G L (gatesOf N.ar ls):=by
   refine hG.le (Le.trans (Qay (G':=F) (fun b hb=>?_)) (Qax.msk (hk9.mono (fun b hb=>(hFF b hb).2))));rw [hFe];have h1:=hb.1;have h2:=hb.2;simp at h1;exact ⟨h1,h2⟩
  have hb51:b5<V1.heap.size:=hBX.lt
  have hb52:w1.heap.size≤b5:=by rw [HB5.out];exact Zn _
  have hFL:∀ b,F b→w1.heap.size≤b:=fun b hb=>by rw [hFe] at hb;omega
  clear hG hFe HB5 hbo hb2 hb2' hb3 hV1 hk9 hzV hz3 z0 z1 z2 z3 z4 z5 f0 f1 f2 f3 f4 f5 zl
 all_goals
  as_aux_lemma =>
   have HG:=Zh (show RdG (msk V1 F) G L (gatesOf N.ar ls) from hG1)
   have HF:=Zh hFF;have HFL:=Zh hFL;have hV1b:w.heap.size+1+1<V1.heap.size:=by have:=hZ.lt;have:=hbV.size;omega
   have HV0:=Zh (show OvN w1 V1 F b5 (.slice A n c) (.slice B m d) (.slice C k e) (.slice Q L cq) (.slice G L cg) N ls V1 none 0 [] from ⟨Qax.refl _ _,Zn _,hbV,hBX,Own.nil _ _ _ _,fun q f hq=>by simp at hq⟩)
   clear hG1 hFF hFL hBX hbV HSX
   go_wp2_with fail
   go_loopw [6] (fun q V=>∃ (i:Nat) (A':Option Addr) (cp:Nat) (EL:List Ent),i≤L∧q=.int .i64 i∧EL.length=Qbr ((gatesOf N.ar ls).take i)∧OvN w1 V1 F b5 (.slice A n c) (.slice B m d) (.slice C k e) (.slice Q L cq) (.slice G L cg) N ls V A' cp EL) (fun q _=>L-(intOf q).toNat)
   case atStart=>exact ⟨0,none,0,[],Nat.zero_le _,rfl,by simp [Qbr],HV0.out⟩
   case round =>
    obtain ⟨i,A',cp,EL,hi,rfl,hEL,hV⟩:=hrel;have HV:=Zh hV;have HEL:=Zh hEL;have x4:wr.cell? ⟨b5,4,none⟩=some (.slice G L cg):=Zq hV.box;have xl:=hV.box.lt;clear hEL
    by_cases hlt:i<L
    rotate_left
    · obtain rfl:i=L:=by omega
      have x0:wr.cell? ⟨b5,0,none⟩=some (.slice A n c):=Zq hV.box;have x1:wr.cell? ⟨b5,1,none⟩=some (.slice B m d):=Zq hV.box;have x2:wr.cell? ⟨b5,2,none⟩=some (.slice C k e):=Zq hV.box;have x3:wr.cell? ⟨b5,3,none⟩=some (.slice Q i cq):=Zq hV.box;have x5:wr.cell? ⟨b5,5,none⟩=some (.slice A' EL.length cp):=Zq hV.box;have hZr:=hZ.below hV.bel hZ.lt;have hZl:=hZ.lt;have z0:wr.cell? ⟨w.heap.size+1+1,0,none⟩=some (.slice none 0 0):=Zq hZr;have z1:wr.cell? ⟨w.heap.size+1+1,1,none⟩=some (.slice none 0 0):=Zq hZr;have z2:wr.cell? ⟨w.heap.size+1+1,2,none⟩=some (.slice none 0 0):=Zq hZr;have z3:wr.cell? ⟨w.heap.size+1+1,3,none⟩=some (.slice none 0 0):=Zq hZr;have z4:wr.cell? ⟨w.heap.size+1+1,4,none⟩=some (.slice none 0 0):=Zq hZr;have z5:wr.cell? ⟨w.heap.size+1+1,5,none⟩=some (.slice none 0 0):=Zq hZr;have f0:=hZr.frozen 0;have f1:=hZr.frozen 1;have f2:=hZr.frozen 2;have f3:=hZr.frozen 3;have f4:=hZr.frozen 4;have f5:=hZr.frozen 5;clear hV
      go_wp2_with fail
      obtain ⟨w9,hw9⟩:∃ w9,w9=(((((wr.setCell ⟨w.heap.size+1+1,0,none⟩ (.slice A n c)).setCell ⟨w.heap.size+1+1,1,none⟩ (.slice B m d)).setCell ⟨w.heap.size+1+1,2,none⟩ (.slice C k e)).setCell ⟨w.heap.size+1+1,3,none⟩ (.slice Q i cq)).setCell ⟨w.heap.size+1+1,4,none⟩ (.slice G i cg)).setCell ⟨w.heap.size+1+1,5,none⟩ (.slice A' EL.length cp):=⟨_,rfl⟩;rw [←hw9]
      have hB9:Blk w9 (w.heap.size+1+1) 38 #[.slice A n c,.slice B m d,.slice C k e,.slice Q i cq,.slice G i cg,.slice A' EL.length cp]:=by
       have:=(((((hZr.set_ 0 (.slice A n c)).set_ 1 (.slice B m d)).set_ 2 (.slice C k e)).set_ 3 (.slice Q i cq)).set_ 4 (.slice G i cg)).set_ 5 (.slice A' EL.length cp);rw [←hw9] at this
       simpa using this
      have hbr:Below w.heap.size w wr:=Zb hb1 HV.out.bel
      have hb9:Below w.heap.size w w9:=by
       rw [hw9];exact Zi (Zi (Zi (Zi (Zi (Zi hbr (by omega)) (by omega)) (by omega)) (by omega)) (by omega)) (by omega)
      have hk9:Qax (fun b=>b≠w.heap.size+1+1) wr w9:=by rw [hw9];exact Qpe (fun e=>e rfl) _ _ _ _ _ _
      obtain ⟨c0,c1,c2,c3,c4,c5⟩:w9.cell? ⟨w.heap.size+1+1,0,none⟩=some (.slice A n c)∧w9.cell? ⟨w.heap.size+1+1,1,none⟩=some (.slice B m d)∧w9.cell? ⟨w.heap.size+1+1,2,none⟩=some (.slice C k e)∧w9.cell? ⟨w.heap.size+1+1,3,none⟩=some (.slice Q i cq)∧w9.cell? ⟨w.heap.size+1+1,4,none⟩=some (.slice G i cg)∧w9.cell? ⟨w.heap.size+1+1,5,none⟩=some (.slice A' EL.length cp):=by
       refine ⟨?_,?_,?_,?_,?_,?_⟩ <;> (rw [hB9.cell];rfl)
      refine bodyPost_ret (v:=.agg #[.slice A n c,.slice B m d,.slice C k e,.slice Q i cq,.slice G i cg,.slice A' EL.length cp]) (by simp [results,results11,go_sem,c0,c1,c2,c3,c4,c5]) rfl ?_;refine ⟨G,cg,A',cp,EL,rfl,?_,Rds.msk (HV.out.own.keep (fun b hb=>hk9 b (by have:=(HV.out.own.lt b hb).1;have:=hV1b;omega) (HV.out.own.lt b hb).2)).rds (fun b hb=>by have:=(HV.out.own.lt b hb).1;show w.heap.size≤b;omega),?_,HV.out.row,hb9⟩
      · exact HG.out.le ((HV.out.kept.trans (hk9.mono (fun b hb=>by have:=HFL.out b hb;omega)) HV.out.size).msk.trans (Qay (fun b hb=>by have:=HFL.out b hb;show w.heap.size≤b;omega)))
      · rw [HEL.out,Ye (by unfold gatesOf;simp [HLL.out])]
    obtain ⟨row,gb,go,rA,rn,rc,hrow,rfl,g1,g2,g3⟩:=HG.out.at_ hlt;obtain ⟨l,hl⟩:∃ l,ls[i]?=some l:=⟨_,Zg (by rw [HLL.out];exact hlt)⟩
    have hre:row=gateRow N.ar l:=by
     rw [Qbj hl] at hrow;exact (Yv hrow).symm
    subst hre;have hM:(gateRow N.ar l).length=rn:=g2.1
    have hMb:rn≤4096:=by
     have h1:=HP.out.lvl l (Zm hl);have h2:=Qbq (l:=l) (n:=(N.vs.length:Int)) (fun x hx=>h1.hi x hx) (by omega);rw [←hM,Qaq];omega
    have HG1:=Zh g1;have HG2:=Zh g2;have HM:=Zh hM;have HLJ:=Zh hl;have i1:(i:Int)<(L:Int):=by omega
    have i2:(0:Int)≤(i:Int):=by omega
    clear hV g1 g2 hl hrow hM
    go_wp2_with fail
    go_loopw [7] (fun q V=>∃ (c9:Nat) (A':Option Addr) (cp:Nat) (EL:List Ent),c9≤rn∧q=.int .i64 c9∧EL.length=Qbr ((gatesOf N.ar ls).take i)+Qda ((gateRow N.ar l).take c9)∧OvN w1 V1 F b5 (.slice A n c) (.slice B m d) (.slice C k e) (.slice Q L cq) (.slice (some ⟨gb,go,none⟩) L cg) N ls V A' cp EL) (fun q _=>rn-(intOf q).toNat)
    case atStart=>exact ⟨0,A',cp,EL,Nat.zero_le _,rfl,by rw [HEL.out];simp [Qda],HV.out⟩
    case round =>
     clear HV HEL x4 xl;obtain ⟨c9,A',cp,EL,hc,rfl,hEL,hV⟩:=hrel;have HV:=Zh hV;have HEL:=Zh hEL;have x4:wr.cell? ⟨b5,4,none⟩=some (.slice (some ⟨gb,go,none⟩) L cg):=Zq hV.box;have xl:=hV.box.lt;have y1:=hV.le _ _ HG1.out;clear hEL hV
     by_cases hcM:c9<rn
     rotate_left
     · obtain rfl:c9=rn:=by omega
       have j1:¬((c9:Int)<(c9:Int)):=by omega
       go_wp2_with fail
       go_roundw
       case rel=>exact ⟨i+1,A',cp,EL,by omega,by go_num,by rw [Qck (Qbj HLJ.out),HEL.out,Ye (l:=gateRow N.ar l) (by rw [HM.out];exact Zn _)],HV.out⟩
       case measure=>simp [intOf];omega
     obtain ⟨x,rb,ro,A1,n1,c1,A2,n2,c2,hx,rfl,k1,k2,k3,k4,_⟩:=HG2.out.at_ hcM;have hm1:x.1.length=n1:=k2.1;have hm2:x.2.length=n2:=k4.1;have hgx:=Qbn hx
     have hfit:EL.length+szG x≤NC:=by
      have e1:=Qgb (gateRow N.ar l) (c9+1);have e2:=Qef (gatesOf N.ar ls) (i+1);rw [Qck (Qbj HLJ.out),←HNC.out] at e2;rw [Qcl hx] at e1;have:=HEL.out;omega
     have HK1:=Zh k1;have HK3:=Zh k3;have HX:=Zh hx;have j1:(c9:Int)<(rn:Int):=by omega
     have j2:(0:Int)≤(c9:Int):=by omega
     have hn1:n1≤16384:=by omega
     have hn2:n2≤16384:=by omega
     have HCL:=Zh (show EL.length=Qbr ((gatesOf N.ar ls).take i)+Qda ((gateRow N.ar l).take c9) from HEL.out)
     obtain ⟨E0,hE0⟩:∃ E0,E0=EL.length:=⟨_,rfl⟩;rw [←hE0] at HCL hfit;clear k1 k2 k3 k4 hx hE0 hgx
     go_wp2_with fail
     go_loopw [8] (fun q V=>∃ (a:Nat) (A':Option Addr) (cp:Nat) (EL:List Ent),a≤n1∧q=.int .i64 a∧EL.length=E0+a*n2∧OvN w1 V1 F b5 (.slice A n c) (.slice B m d) (.slice C k e) (.slice Q L cq) (.slice (some ⟨gb,go,none⟩) L cg) N ls V A' cp EL) (fun q _=>n1-(intOf q).toNat)
     case atStart=>exact ⟨0,A',cp,EL,Nat.zero_le _,rfl,by rw [HEL.out,HCL.out];omega,HV.out⟩
     case round =>
      clear HV HEL x4 xl y1;obtain ⟨a,A',cp,EL,ha,rfl,hEL,hV⟩:=hrel;have HV:=Zh hV;have HEL:=Zh hEL;have x4:wr.cell? ⟨b5,4,none⟩=some (.slice (some ⟨gb,go,none⟩) L cg):=Zq hV.box;have xl:=hV.box.lt;have y1:=hV.le _ _ HG1.out;have y2:=hV.le _ _ HK1.out;clear hEL hV
      by_cases haM:a<n1
      rotate_left
      · obtain rfl:a=n1:=by omega
        have l1:¬((a:Int)<(a:Int)):=by omega
        go_wp2_with fail
        go_roundw
        case rel=>exact ⟨c9+1,A',cp,EL,by omega,by go_num,by rw [Qcl HX.out,HEL.out,HCL.out];unfold szG;rw [hm1,hm2,Nat.add_assoc],HV.out⟩
        case measure=>simp [intOf];omega
      have l1:(a:Int)<(n1:Int):=by omega
      have l2:(0:Int)≤(a:Int):=by omega
      go_wp2_with fail
      go_loopw [9] (fun q V=>∃ (b:Nat) (A':Option Addr) (cp:Nat) (EL:List Ent),b≤n2∧q=.int .i64 b∧EL.length=E0+a*n2+b∧OvN w1 V1 F b5 (.slice A n c) (.slice B m d) (.slice C k e) (.slice Q L cq) (.slice (some ⟨gb,go,none⟩) L cg) N ls V A' cp EL) (fun q _=>n2-(intOf q).toNat)
      case atStart=>exact ⟨0,A',cp,EL,Nat.zero_le _,rfl,by rw [HEL.out];omega,HV.out⟩
      case round =>
       clear HV HEL x4 xl y1 y2;obtain ⟨b,A',cp,EL,hb,rfl,hEL,hV⟩:=hrel;have HV:=Zh hV;have HEL:=Zh hEL;have x4:wr.cell? ⟨b5,4,none⟩=some (.slice (some ⟨gb,go,none⟩) L cg):=Zq hV.box;have x5:wr.cell? ⟨b5,5,none⟩=some (.slice A' EL.length cp):=Zq hV.box;have xl:=hV.box.lt;have y1:=hV.le _ _ HG1.out;have y2:=hV.le _ _ HK3.out
       by_cases hbM:b<n2
       rotate_left
       · obtain rfl:b=n2:=by omega
         have l3:¬((b:Int)<(b:Int)):=by omega
         clear hEL hV
         go_wp2_with fail
         go_roundw
         case rel=>exact ⟨a+1,A',cp,EL,by omega,by go_num,by rw [HEL.out,Nat.add_mul,Nat.one_mul];omega,HV.out⟩
         case measure=>simp [intOf];omega
       have l3:(b:Int)<(n2:Int):=by omega
       have l4:(0:Int)≤(b:Int):=by omega
       obtain ⟨z1,hz1⟩:∃ z,x.1[a]?=some z:=⟨_,Zg (by rw [hm1];exact haM)⟩;obtain ⟨s,rfl⟩:=Qga HX.out hz1;obtain ⟨z2,hz2⟩:∃ z,x.2[b]?=some z:=⟨_,Zg (by rw [hm2];exact hbM)⟩;obtain ⟨t,rfl⟩:=Qey HX.out hz2
       have hlen:EL.length<NC:=by
        have e1:(a+1)*n2≤n1*n2:=Nat.mul_le_mul_right _ haM;rw [Nat.add_mul,Nat.one_mul] at e1;unfold szG at hfit;rw [hm1,hm2] at hfit;omega
       have HEN:=Zh (show ∃ l' x' s' t',Qhd N ls EL.length i l' c9 x' a b s' t' from ⟨l,x,s,t,HLJ.out,HX.out,hz1,hz2,by unfold Qhn;rw [HEL.out,HCL.out,hm2];omega⟩)
       obtain ⟨W2,hW2⟩:∃ W2,W2=wr.alloc (.cells #[.int .i64 ((i:Int)+1),.int .i64 (c9:Int),.int .i64 (a:Int),.int .i64 (b:Int)] 97):=⟨_,rfl⟩;have HV7:=Zh (HV.out.below (show Below wr.heap.size wr W2 by rw [hW2];exact Qaf))
       have hown:=HV7.out.own;have hrd:Rds W2 4 (some ⟨wr.heap.size,0,none⟩) 1 (Qit (i,c9,a,b)):=by rw [hW2];exact (Blk.new wr 97 #[.int .i64 ((i:Int)+1),.int .i64 (c9:Int),.int .i64 (a:Int),.int .i64 (b:Int)]).rds rfl
       have hsz:V1.heap.size≤W2.heap.size:=HV7.out.size;have HW2:=Zh hW2;clear hW2 hEL hV hz1 hz2
       go_wp2_with (at_builtin;rw [←HW2.out];with_reducible refine Qas rfl (.tmp 62) (.tmp 69) 36 rfl 97 _ 4 32 infoEnt underlying36 rfl (by omega) rfl rfl hown hrd (Qxw _) (by omega) (by omega) hsz ?_)
       intro A3 c3 w8 ho8 hg8 hat8;have hB8:=HV7.out.box.grown hg8 (fun e=>by have:=(hown.lt b5 e).1;omega);have v5:w8.cell? ⟨b5,5,none⟩=some (.slice A' EL.length cp):=Zq hB8;have v6:=hB8.frozen 5;have v7:=hB8.lt;have HV8:=Zh (HV7.out.push (e:=(i,c9,a,b)) HF.out hb51 hb52 ho8 hg8 HEN.out);clear hown hrd hsz ho8 hg8 hat8 hB8
       go_wp2_with fail
       go_roundw
       case rel=>exact ⟨b+1,A3,c3,EL ++[(i,c9,a,b)],by omega,by go_num,by rw [Yp,HEL.out];rfl,HV8.out⟩
       case measure=>simp [intOf];omega
structure BfI (N:Qai) (mk:List Bool) (s t:Nat) (d:List Int) (best:Int):Prop where
 len:d.length=N.ar.length
 ok:∀ (b:Nat) (v:Int),d[b]?=some v→v=1152921504606846976∨(0≤v∧v<1152921504606846976∧∃ p c e,Rch (StA N mk) s p c∧StA N mk p b e∧v=c+e)
 best:best=1152921504606846976∨(0≤best∧best<1152921504606846976∧Qsg (StA N mk) (OuA N) s t best)
def dAt (d:List Int)(a:Nat):Int:=d.getD a 1152921504606846976
theorem Qea {d:List Int}{a:Nat}{v:Int} (h:d[a]?=some v):dAt d a=v:=by unfold dAt;rw [Ya,h];rfl
theorem BfI.at_ {N:Qai}{mk:List Bool}{s t:Nat}{d:List Int}{best:Int}(h:BfI N mk s t d best)(a:Nat):dAt d a=1152921504606846976∨(0≤dAt d a∧dAt d a<1152921504606846976∧∃ c,dAt d a=c∧Rch (StA N mk) s a c):=by
 cases e:d[a]? with
 | none=>left;unfold dAt;rw [Ya,e];rfl
 | some v =>
  rw [Qea e]
  rcases h.ok a v e with h1|⟨h1,h2,p,c,f,h3,h4,rfl⟩
  · exact .inl h1
  · exact .inr ⟨h1,h2,_,rfl,h3.step h4⟩
theorem BfI.start (N:Qai)(mk:List Bool)(s t:Nat):BfI N mk s t (List.replicate N.ar.length 1152921504606846976) 1152921504606846976 :=
 ⟨by simp,fun b v h=>by obtain ⟨_,e⟩:=Zs h;simp at e;exact .inl e.symm,.inl rfl⟩
section
variable {N:Qai} {mk:List Bool} {s t:Nat} {d:List Int} {best:Int}
theorem BfI.less (h:BfI N mk s t d best){p b:Nat}{c e:Int} (hp:Rch (StA N mk) s p c) (hc:0≤c) (hs:StA N mk p b e) (he:0≤e) (hlt:c+e<dAt d b):BfI N mk s t (d.set b (c+e)) best:=by
 refine ⟨by rw [Yq];exact h.len,fun q v hq=>?_,h.best⟩
 by_cases hb:b=q
 · subst hb
   by_cases hl:b<d.length
   · rw [Yg hl] at hq
     cases hq
     have:=h.at_ b
     right
     exact ⟨by omega,by rcases this with h1|⟨_,h1,_⟩ <;> omega,p,c,e,hp,hs,rfl⟩
   · rw [Yd (by rw [Yq];omega)] at hq
     cases hq
 · rw [Yh hb] at hq
   exact h.ok q v hq
theorem BfI.out (h:BfI N mk s t d best){p:Nat}{c e:Int} (hp:Rch (StA N mk) s p c) (hc:0≤c) (ho:OuA N p t e) (he:0≤e) (hlt:c+e<best):BfI N mk s t d (c+e) :=
 ⟨h.len,h.ok,.inr ⟨by omega,by rcases h.best with h1|⟨_,h1,_⟩ <;> omega,p,c,e,hp,ho,rfl⟩⟩
theorem BfI.done (hok:Qav N)(h:BfI N mk s t d best)(h0:∀ b e,StA N mk s b e→dAt d b≤e)(hT:∀ e,OuA N s t e→best≤e)
 (hR:∀ a,dAt d a<1152921504606846976→(∀ b e,StA N mk a b e→dAt d b≤dAt d a+e)∧∀ e,OuA N a t e→best≤dAt d a+e):Qgr N mk s t best:=by
 have hle:∀ b,dAt d b≤1152921504606846976:=fun b=>by rcases h.at_ b with h1|⟨_,h1,_⟩ <;> omega
 have hble:best≤1152921504606846976:=by rcases h.best with h1|⟨_,h1,_⟩ <;> omega
 have hlow:∀ p c,Rch (StA N mk) s p c→(p=s∧c=0)∨dAt d p≤c:=by
  intro p c hr
  induction hr with
  | start=>exact .inl ⟨rfl,rfl⟩
  | @step p q c e h1 h2 ih =>
   right
   rcases ih with ⟨rfl,rfl⟩|ih
   · have:=h0 q e h2;omega
   · have he:=(h2.bd hok).1
     by_cases hlt:dAt d p<1152921504606846976
     · have:=(hR p hlt).1 q e h2;omega
     · have:=hle q;omega
 have hout:∀ v,Qsg (StA N mk) (OuA N) s t v→best≤v:=by
  rintro v ⟨p,c,e,h1,h2,rfl⟩;have he:=(h2.bd hok).1
  rcases hlow p c h1 with ⟨rfl,rfl⟩|hlt
  · have:=hT e h2;omega
  · by_cases hlt2:dAt d p<1152921504606846976
    · have:=(hR p hlt2).2 e h2;omega
    · omega
 rcases h.best with h1|⟨_,_,h1⟩
 · right
   refine ⟨h1,fun v hv=>?_⟩;obtain ⟨p,c,e,g1,g2,rfl⟩:=hv;obtain ⟨c',g3,g4⟩:=Qix hok p c g1;have g5:=hout (c'+e) ⟨p,c',e,g3,g2,rfl⟩;have g6:=(g2.bd hok).2;unfold MB at g4;omega
 · exact .inl ⟨h1,hout⟩
end
def Qee (N:Qai)(a:Nat):List Int:=match N.ar[a]? with
 | some x=>(idx (·.1) N.ar x.2.1).filter (fun b=>Qal N a b.toNat != 1152921504606846976)
 | none=>[]
def Qqo (N:Qai)(a:Nat):List Int:=(Qee N a).map (fun b=>Qal N a b.toNat)
def Qkd (N:Qai):List (List Int):=(List.range N.ar.length).map (Qee N)
def Qkl (N:Qai):List (List Int):=(List.range N.ar.length).map (Qqo N)
theorem Qve {N:Qai}{a:Nat}(h:a<N.ar.length):(Qkd N)[a]?=some (Qee N a):=by
 unfold Qkd;rw [Yt,List.getElem?_range h]
 rfl
theorem Qup {N:Qai}{a:Nat}(h:a<N.ar.length):(Qkl N)[a]?=some (Qqo N a):=by
 unfold Qkl;rw [Yt,List.getElem?_range h]
 rfl
theorem Qxd {N:Qai}{a:Nat}{z:Int}:z∈Qee N a↔∃ b:Nat,z=(b:Int)∧Qal N a b≠1152921504606846976:=by
 unfold Qee
 cases hx:N.ar[a]? with
 | none =>
  simp only [List.not_mem_nil,false_iff,not_exists,not_and];rintro b rfl h;obtain ⟨x,_,e,_⟩:=Qbo h;rw [hx] at e
  cases e
 | some x =>
  simp only [List.mem_filter,Qiv]
  constructor
  · rintro ⟨⟨b,y,rfl,_,_⟩,h2⟩
    exact ⟨b,rfl,by simpa using h2⟩
  · rintro ⟨b,rfl,h⟩
    obtain ⟨x',y,e1,e2,e3⟩:=Qbo h;rw [hx] at e1
    cases e1
    exact ⟨⟨b,y,rfl,e2,e3.symm⟩,by simpa using h⟩
theorem Qwg (N:Qai)(a:Nat):(Qee N a).length≤N.ar.length:=by
 unfold Qee
 cases hx:N.ar[a]? with
 | none=>simp
 | some x =>
  have h:=Qhw (·.1) N.ar N.ar.length x.2.1;rw [List.take_length] at h;exact Yx (List.length_filter_le _ _) h
theorem trn_len (N:Qai)(a:Nat):(Qqo N a).length=(Qee N a).length:=by simp [Qqo]
theorem nxt_at {N:Qai}{a k:Nat} (h:k<(Qee N a).length):∃ b:Nat,(Qee N a)[k]?=some (b:Int)∧(Qqo N a)[k]?=some (Qal N a b)∧Qal N a b≠1152921504606846976∧b<N.ar.length:=by
 obtain ⟨z,hz⟩:∃ z,(Qee N a)[k]?=some z:=⟨_,Zg h⟩;obtain ⟨b,rfl,hb⟩:=Qxd.1 (Zm hz);obtain ⟨_,y,_,e,_⟩:=Qbo hb;refine ⟨b,hz,?_,hb,(Zs e).1⟩;unfold Qqo;rw [Yt,hz]
 rfl
def GG (B:Nat)(V:World)(A1 A2:Option Addr):Nat→Prop:=fun b=>B≤b∧b<V.heap.size∧Qaa A1≠some b∧Qaa A2≠some b
def RwR (V:World)(G:Nat→Prop)(xs:List Value) (ls:List (List Int)):Prop:=∀ (j:Nat) (l:List Int),ls[j]?=some l→∃ (R:Option Addr) (d:Nat),xs[j]?=some (.slice R l.length d)∧RdI (msk V G) R l.length l∧l.length≤d∧d≤9223372036854775807
theorem RwR.le {V V':World}{G G':Nat→Prop}{xs:List Value} {ls:List (List Int)} (h:RwR V G xs ls) (hl:Le (msk V G) (msk V' G')):RwR V' G' xs ls:=fun j l hj=>by
 obtain ⟨R,d,h1,h2,h3⟩:=h j l hj;exact ⟨R,d,h1,h2.le hl,h3⟩
structure Tw (t1 t2:TypeId) (B:Nat) (V:World) (A1:Option Addr) (c1:Nat) (x1:List Value) (l1:List (List Int)) (A2:Option Addr) (c2:Nat) (x2:List Value) (l2:List (List Int)):Prop where
 o1:Own V B t1 1 A1 l1.length c1 x1
 o2:Own V B t2 1 A2 l2.length c2 x2
 r1:RwR V (GG B V A1 A2) x1 l1
 r2:RwR V (GG B V A1 A2) x2 l2
 dj:∀ g,Qaa A1=some g→Qaa A2≠some g
section
variable {t1 t2:TypeId} {B:Nat} {V V':World} {A1 A2:Option Addr} {c1 c2:Nat} {x1 x2:List Value} {l1 l2:List (List Int)}
theorem Tw.nil (t1 t2:TypeId)(B:Nat)(V:World):Tw t1 t2 B V none 0 [] [] none 0 [] []:=⟨Own.nil _ _ _ _,Own.nil _ _ _ _,fun j l h=>by simp at h,fun j l h=>by simp at h,fun g e=>by cases e⟩
theorem Tw.swap (h:Tw t1 t2 B V A1 c1 x1 l1 A2 c2 x2 l2):Tw t2 t1 B V A2 c2 x2 l2 A1 c1 x1 l1 :=
 have hm:Le (msk V (GG B V A1 A2)) (msk V (GG B V A2 A1)):=Qay (fun _ hb=>⟨hb.1,hb.2.1,hb.2.2.2,hb.2.2.1⟩)
 ⟨h.o2,h.o1,h.r2.le hm,h.r1.le hm,fun g e e2=>h.dj g e2 e⟩
theorem Tw.below (h:Tw t1 t2 B V A1 c1 x1 l1 A2 c2 x2 l2)(hb:Below V.heap.size V V'):Tw t1 t2 B V' A1 c1 x1 l1 A2 c2 x2 l2 :=
 have hm:Le (msk V (GG B V A1 A2)) (msk V' (GG B V' A1 A2)):=(Qax.msk (Qax.below hb)).trans (Qay (fun _ hb'=>⟨hb'.1,Yu hb'.2.1 hb.size,hb'.2.2⟩))
 ⟨h.o1.below hb,h.o2.below hb,h.r1.le hm,h.r2.le hm,h.dj⟩
theorem Tw.set (h:Tw t1 t2 B V A1 c1 x1 l1 A2 c2 x2 l2){b:Nat}(hb:b<B)(o:Nat)(v:Value):Tw t1 t2 B (V.setCell ⟨b,o,none⟩ v) A1 c1 x1 l1 A2 c2 x2 l2:=by
 have hg:=Qab V b o v;have hm:Le (msk V (GG B V A1 A2)) (msk (V.setCell ⟨b,o,none⟩ v) (GG B (V.setCell ⟨b,o,none⟩ v) A1 A2)):=(Qax.msk (Qax.set V b o v (fun e=>by have:=e.1;omega))).trans (Qay (fun q hq=>⟨hq.1,Yu hq.2.1 hg.size,hq.2.2⟩));exact ⟨h.o1.far hg (.inr (fun e=>by have:=(h.o1.lt b e).1;omega)),h.o2.far hg (.inr (fun e=>by have:=(h.o2.lt b e).1;omega)),h.r1.le hm,h.r2.le hm,h.dj⟩
theorem Tw.push {R A3:Option Addr}{d c3:Nat}{l:List Int}(h:Tw t1 t2 B V A1 c1 x1 l1 A2 c2 x2 l2) (hr:RdI (msk V (GG B V A1 A2)) R l.length l) (k1:l.length≤d) (k2:d≤9223372036854775807)
 (ho:Own V' B t1 1 A3 (l1.length+1) c3 (x1 ++[.slice R l.length d])) (hg:V.grownBy V' (Qaa A1)) (hat:Qaa A3=Qaa A1∨Qaa A3=some V.heap.size):Tw t1 t2 B V' A3 c3 (x1 ++[.slice R l.length d]) (l1 ++[l]) A2 c2 x2 l2:=by
 have hxl:x1.length=l1.length:=by rw [h.o1.1,Nat.mul_one]
 have hm:Le (msk V (GG B V A1 A2)) (msk V' (GG B V' A3 A2)):=(Qax.msk (Qax.grown hg (fun b hb=>hb.2.2.1))).trans (Qay (fun q hq=>⟨hq.1,Yu hq.2.1 hg.size,fun e=>by
  rcases hat with e2|e2
  · exact hq.2.2.1 (e2▸e)
  · rw [e2] at e
    have:=Yv e;have:=hq.2.1;omega,hq.2.2.2⟩))
 refine ⟨by rw [Yp];exact ho,h.o2.far hg ?_,?_,h.r2.le hm,fun g e e2=>?_⟩
 · cases e:Qaa A2 with
   | none=>exact .inl rfl
   | some g=>exact .inr (fun e2=>h.dj g e2.symm e)
 · intro j l' hj
   rcases Nat.lt_trichotomy j l1.length with e|e|e
   · rw [Yc e] at hj
     obtain ⟨R',d',q1,q2,q3⟩:=h.r1 j l' hj;exact ⟨R',d',by rw [Yc (by omega)];exact q1,q2.le hm,q3⟩
   · subst e
     rw [Yb (Zn _),Yy] at hj
     cases hj
     exact ⟨R,d,by rw [←hxl,Yb (Zn _),Yy];rfl,hr.le hm,k1,k2⟩
   · rw [Yd (by simp;omega)] at hj
     cases hj
 · rcases hat with e3|e3
   · exact h.dj g (e3▸e) e2
   · rw [e3] at e
     have:=Yv e;have:=(h.o2.lt g e2).2;omega
theorem Tw.rd1 (h:Tw t1 t2 B V A1 c1 x1 l1 A2 c2 x2 l2):RdT (msk V (fun b=>B≤b)) A1 l1.length l1 :=
 ⟨rfl,fun j l hj=>by
  obtain ⟨R,d,q1,q2,q3⟩:=h.r1 j l hj;obtain ⟨b,o,e,k4⟩:=h.o1.rds.2 _ _ q1;exact ⟨b,o,R,_,d,e,Qao.2 ⟨(h.o1.lt b (by rw [e];rfl)).1,k4⟩,q2.le (Qay (fun b hb=>hb.1)),q3⟩⟩
end
theorem Qwh {f:Tri→Int}{l:List Tri}{v:Int}{k b:Nat} (h:(idx f l v)[k]?=some (b:Int)):∃ y,l[b]?=some y∧f y=v∧(idx f (l.take b) v).length=k:=by
 obtain ⟨b',y,e,hy,hv⟩:=Qiv.1 (Zm h);obtain rfl:b=b':=by omega
 refine ⟨y,hy,hv,?_⟩;have hb:=(Zs hy).1;have h1:=idx_at (f:=f) hy l.length hb (Zn _);rw [List.take_length,hv] at h1;have hs:=Qmk f v l;rw [List.pairwise_iff_getElem] at hs;obtain ⟨p1,e1⟩:=Zs h;obtain ⟨p2,e2⟩:=Zs h1
 rcases Nat.lt_trichotomy (idx f (l.take b) v).length k with g|g|g
 · have:=hs _ _ p2 p1 g;omega
 · exact g
 · have:=hs _ _ p1 p2 g;omega
theorem turnN_eq {N:Qai}{a b v t:Nat}{x1 x3 y2 y3 v1 v2 z:Int}{tb:Qby} (hx:N.ar[a]?=some (x1,(v:Int),x3)) (hy:N.ar[b]?=some ((v:Int),y2,y3)) (hv:N.vs[v]?=some (v1,v2,(t:Int))) (htb:N.ts[t]?=some tb)
 (hz:tb.costs[(idx (·.2.1) (N.ar.take a) (v:Int)).length*tb.outs.toNat+(idx (·.1) (N.ar.take b) (v:Int)).length]?=some z):Qal N a b=z:=by
 unfold Qal;rw [hx,hy];simp only [if_pos,Yl,hv,htb,Qfg];rw [Ya,hz]
 rfl
def nxK (N:Qai)(a v k:Nat):List Int:=((idx (·.1) N.ar (v:Int)).take k).filter (fun b=>Qal N a b.toNat != 1152921504606846976)
def trK (N:Qai)(a v k:Nat):List Int:=(nxK N a v k).map (fun b=>Qal N a b.toNat)
theorem trK_len (N:Qai)(a v k:Nat):(trK N a v k).length=(nxK N a v k).length:=by simp [trK]
theorem nxK_le (N:Qai)(a v k:Nat):(nxK N a v k).length≤k:=Yx (List.length_filter_le _ _) (List.length_take_le _ _)
theorem nxK_in {N:Qai}{a v k b:Nat} (h:(idx (·.1) N.ar (v:Int))[k]?=some (b:Int)) (ht:Qal N a b≠1152921504606846976):nxK N a v (k+1)=nxK N a v k ++[(b:Int)]∧trK N a v (k+1)=trK N a v k ++[Qal N a b]:=by
 have e:nxK N a v (k+1)=nxK N a v k ++[(b:Int)]:=by
  unfold nxK;rw [List.take_add_one,h,List.filter_append];simp [ht]
 exact ⟨e,by unfold trK;rw [e];simp⟩
theorem nxK_out {N:Qai}{a v k b:Nat} (h:(idx (·.1) N.ar (v:Int))[k]?=some (b:Int)) (ht:Qal N a b=1152921504606846976):nxK N a v (k+1)=nxK N a v k∧trK N a v (k+1)=trK N a v k:=by
 have e:nxK N a v (k+1)=nxK N a v k:=by
  unfold nxK;rw [List.take_add_one,h,List.filter_append];simp [ht]
 exact ⟨e,by unfold trK;rw [e]⟩
theorem nxK_all {N:Qai}{a v:Nat}{x:Tri} (hx:N.ar[a]?=some x) (hv:x.2.1=(v:Int)) {k:Nat} (hk:(idx (·.1) N.ar (v:Int)).length≤k):nxK N a v k=Qee N a∧trK N a v k=Qqo N a:=by
 have e:nxK N a v k=Qee N a:=by
  unfold nxK Qee;rw [hx,Ye hk];simp only [hv]
 exact ⟨e,by unfold trK Qqo;rw [e]⟩
theorem Qky {N:Qai}{a:Nat}:(List.range (a+1)).map (Qee N)=(List.range a).map (Qee N) ++[Qee N a]∧(List.range (a+1)).map (Qqo N)=(List.range a).map (Qqo N) ++[Qqo N a]:=by
 rw [List.range_succ];simp
set_option maxHeartbeats 1000000 in
theorem Qrh (Q:Option Addr)(L cq li n:Nat)(c:Int) (ls:List (List Int)) (l l0:List Int) (w:World) (h:RdT w Q L ls) (hl:ls[li]?=some l) (hL:L≤1000000) (h0:ls[0]?=some l0) (hn:l.length=n) (hn0:l0.length=n) (hn4:n≤1000000) :
 Calls prog 102 #[.agg #[.slice Q L cq],.int .i64 ((li:Int)+1),.int .i64 c] w fun e w'=>∃ b,e=.returned (.slice (some ⟨b,0,none⟩) n n)∧Blk w' b 4 (Qca (Qcw l c))∧w.heap.size≤b∧Below w.heap.size w w':=by
 have hL0:0<L:=by rw [←h.1];exact (Zs h0).1
 have hliL:li<L:=by rw [←h.1];exact (Zs hl).1
 obtain ⟨qb,qo,A0,n0,c0,l0',hQ,hl0,g0,g1,g2,g3⟩:=h.at_ hL0;rw [h0] at hl0
 cases hl0
 obtain rfl:n=n0:=by rw [←hn0];exact g1.1
 obtain ⟨qb',qo',A1,n1,c1,l1',e',hl1,k0,k1,k2,k3⟩:=h.at_ hliL;subst hQ
 cases e'
 rw [hl] at hl1
 cases hl1
 obtain rfl:n=n1:=by rw [←hn];exact k1.1
 have HG0:=Zh (show ∀ V,Below w.heap.size w V→V.cell? ⟨qb,qo,none⟩=some (.slice A0 n c0) from fun V hV=>Zc hV (Zn _) g0)
 have HK0:=Zh (show ∀ V,Below w.heap.size w V→V.cell? ⟨qb,qo+li,none⟩=some (.slice A1 n c1) from fun V hV=>Zc hV (Zn _) k0)
 have HK1:=Zh k1;have HN:=Zh hn;have hmk:=Qft n (by omega);have e1:((L:Int) == 0)=false:=by simp;omega
 have i1:(0:Int)<(L:Int):=by omega
 have i2:(li:Int)<(L:Int):=by omega
 have i3:(0:Int)≤(li:Int):=by omega
 have i4:(li:Int)+1-1=(li:Int):=by omega
 have wl:IntKind.i64.wrap (li:Int)=(li:Int):=IntWalk.i64_in _ (by omega);have zq:=Qae g0;simp only at zq;have z0:(w.alloc (.cells #[.slice (some ⟨qb,qo,none⟩) L cq] 29)).cell? ⟨qb,qo,none⟩=some (.slice A0 n c0):=HG0.out _ ((Zr _ _).alloc (Zn _) _);clear h hl h0 hn hn0 g0 g1 g2 g3 k0 k1 k2 k3
 go_enter func102,ntmps102
 go_wp2_with fail
 (refine Qag ?_;intro w3 hw3)
 have hb3:Below w.heap.size w w3:=by rw [hw3];exact Qaf
 have hX3:Blk w3 w.heap.size 29 #[.slice (some ⟨qb,qo,none⟩) L cq]:=by rw [hw3];exact (Blk.new _ _ _).alloc _
 have hd3:Blk w3 (w.heap.size+1) 4 (Qca ((Qcw l c).take 0 ++List.replicate (n-0) false)):=by
  rw [hw3,Nat.sub_zero,List.take_zero,List.nil_append,←Qms];refine Blk.new' _ _ _ ?_;simp
 clear hw3 z0 zq
 go_loopw [8] (fun q W=>∃ i:Nat,q=.int .i64 i∧i≤n∧Below w.heap.size w W∧Blk W w.heap.size 29 #[.slice (some ⟨qb,qo,none⟩) L cq]∧Blk W (w.heap.size+1) 4 (Qca ((Qcw l c).take i ++List.replicate (n-i) false))) (fun q _=>n-(intOf q).toNat)
 case atStart=>exact ⟨0,by go_num,Nat.zero_le _,hb3,hX3,hd3⟩
 case round =>
  clear hb3 hd3 hX3;obtain ⟨i,rfl,hin,hb,hX,hd⟩:=hrel
  by_cases hlt:i<n
  · have x0:wr.cell? ⟨w.heap.size,0,none⟩=some (.slice (some ⟨qb,qo,none⟩) L cq):=Zq hX
    have hi2:(i:Int)<(n:Int):=by omega
    go_wp2_with fail
    with_reducible refine (Qfv _ L cq li wr hliL).mono ?_
    rintro r w2 ⟨rfl,hb2⟩;have hbw2:=Zb hb hb2;obtain ⟨b,o,z,rfl,hz,hc⟩:=(HK1.out.below hbw2).at_ hlt;have hd2:=hd.below hb2 hd.lt;have hX2:=hX.below hb2 hX.lt;have f0:=hd2.frozen i;have hd':=hd2.setB (i:=i) (x:=z == c) (Qwv hz HN.out);have hb':Below w.heap.size w (w2.setCell ⟨w.heap.size+1,i,none⟩ (.bool (z == c))):=hbw2.setCell (by simp) _;have hX':Blk (w2.setCell ⟨w.heap.size+1,i,none⟩ (.bool (z == c))) w.heap.size 29 #[.slice (some ⟨qb,qo,none⟩) L cq]:=hX2.far_ (by omega) _;have hi1:(0:Int)≤(i:Int):=by omega
    have HD:=Zh hd';have HB:=Zh hb';have HX:=Zh hX';obtain ⟨v0,hv0⟩:∃ v0,((Qcw l c).take i ++List.replicate (n-i) false)[i]?=some v0:=⟨_,Zg (by rw [Yp,Yw,Qhy,HN.out,List.length_replicate];omega)⟩;have c0':=hd2.cellB hv0;have x2:w2.cell? ⟨w.heap.size,0,none⟩=some (.slice (some ⟨qb,qo,none⟩) L cq):=Zq hX2;have x3:=HK0.out w2 hbw2;clear hv0;clear hd hb hd' hb' hz hd2 hX2 hX hX' x0 hb2 hbw2
    go_wp2_with fail
    go_roundw
    case rel=>exact ⟨i+1,by go_num,by omega,HB.out,HX.out,HD.out⟩
    case measure=>simp [intOf];omega
  · obtain rfl:i=n:=by omega
    rw [Yy,Ye (by rw [Qhy,HN.out];exact Zn _),List.replicate_zero,List.append_nil] at hd
    go_wp2_with fail
    go_ret
    exact ⟨_,rfl,hd,by omega,hb⟩
set_option maxHeartbeats 1000000 in
theorem never_ok (n:Nat)(w:World)(hn:n≤1000000):Calls prog 142 #[.int .i64 n] w fun e w'=>e=.returned (.slice (some ⟨w.heap.size,0,none⟩) n n)∧Blk w' w.heap.size 2 (Qcv (List.replicate n 1152921504606846976))∧Below w.heap.size w w':=by
 have hmk:=Qfa n (by omega)
 go_enter func142,ntmps142
 go_wp2_with fail
 (refine Qag ?_;intro w1 hw1)
 have hb1:Below w.heap.size w w1:=by rw [hw1];exact Qaf
 have hd1:Blk w1 w.heap.size 2 (Qcv (List.replicate 0 1152921504606846976 ++List.replicate (n-0) 0)):=by
  rw [hw1,Nat.sub_zero,List.replicate_zero,List.nil_append,←Qdh];exact Blk.new _ _ _
 clear hw1
 go_loopw [4] (fun q W=>∃ i:Nat,q=.int .i64 i∧i≤n∧Below w.heap.size w W∧Blk W w.heap.size 2 (Qcv (List.replicate i 1152921504606846976 ++List.replicate (n-i) 0))) (fun q _=>n-(intOf q).toNat)
 case atStart=>exact ⟨0,rfl,Nat.zero_le _,hb1,hd1⟩
 case round =>
  clear hb1 hd1;obtain ⟨i,rfl,hin,hb,hd⟩:=hrel
  by_cases hlt:i<n
  · obtain ⟨v0,hv0⟩:∃ v0,(List.replicate i (1152921504606846976:Int) ++List.replicate (n-i) 0)[i]?=some v0:=⟨_,Zg (by simp;omega)⟩
    have c0:=hd.cellI hv0;have f0:=hd.frozen i;have HD:=Zh (hd.setI (Qsz n i hlt 1152921504606846976 0));have HB:=Zh (show Below w.heap.size w (wr.setCell ⟨w.heap.size,i,none⟩ (.int .i64 1152921504606846976)) from Zi hb (Zn _))
    have i1:(0:Int)≤(i:Int):=by omega
    have i2:(i:Int)<(n:Int):=by omega
    clear hb hd hv0
    go_wp2_with fail
    go_roundw
    case rel=>exact ⟨i+1,by go_num,by omega,HB.out,HD.out⟩
    case measure=>simp [intOf];omega
  · obtain rfl:n=i:=by omega
    rw [Yy,List.replicate_zero,List.append_nil] at hd;have i2:¬((n:Int)<(n:Int)):=by omega
    go_wp2_with fail
    go_ret
    exact ⟨rfl,hd,hb⟩
theorem Qeg (A:Option Addr)(n c v:Nat)(mk:List Bool)(w:World)(h:RdB w A n mk)(hv:v<n):Calls prog 143 #[.slice A n c,.int .i64 v] w fun e w'=>e=.returned (.bool (mk.getD v false))∧w=w':=by
 obtain ⟨b,o,x,rfl,hx,hc⟩:=h.at_ hv;have hxe:mk.getD v false=x:=by rw [Ya,hx];rfl
 rw [hxe];have i1:(0:Int)≤(v:Int):=by omega
 have i2:(v:Int)<(n:Int):=by omega
 clear h hx hxe
 go_enter func143,ntmps143
 go_wp2_with fail
 go_ret
 exact ⟨rfl,rfl⟩
def Qen (x y:Int):Int:=if x+y > 1152921504606846976 then 1152921504606846976 else x+y
theorem Qiq (x:Int)(w:World)(h0:0≤x)(h1:x≤1152921504606846976):Calls prog 164 #[.int .i64 x] w fun e w'=>e=.returned (.int .i64 x)∧w=w':=by
 have i1:¬(x<0):=by omega
 have i2:¬(x > 1152921504606846976):=by omega
 go_enter func164,ntmps164
 go_wp2_with fail
 go_ret
 exact ⟨rfl,rfl⟩
theorem Qsd (x:Int)(w:World)(h1:x > 1152921504606846976):Calls prog 164 #[.int .i64 x] w fun e w'=>e=.returned (.int .i64 1152921504606846976)∧w=w':=by
 have i1:¬(x<0):=by omega
 go_enter func164,ntmps164
 go_wp2_with fail
 go_ret
 exact ⟨rfl,rfl⟩
theorem Qkj (x y:Int)(w:World)(hx:0≤x∧x≤1152921504606846976)(hy:0≤y∧y≤1152921504606846976):Calls prog 144 #[.int .i64 x,.int .i64 y] w fun e w'=>e=.returned (.int .i64 (Qen x y))∧w=w':=by
 have HX:=Zh (Qiq x w hx.1 hx.2);have HY:=Zh (Qiq y w hy.1 hy.2)
 have HZ:=Zh (show Calls prog 164 #[.int .i64 (x+y)] w fun e w'=>e=.returned (.int .i64 (Qen x y))∧w=w' by
  unfold Qen
  by_cases h:x+y > 1152921504606846976
  · rw [if_pos h];exact Qsd _ w h
  · rw [if_neg h];exact Qiq _ w (by omega) (by omega))
 have e1:IntKind.i64.wrap (x+y)=x+y:=IntWalk.i64_in _ (by omega);clear hx hy
 go_enter func144,ntmps144
 go_wp2_with fail
 with_reducible refine HX.out.mono ?_
 rintro e w' ⟨rfl,rfl⟩
 go_wp2_with fail
 with_reducible refine HY.out.mono ?_
 rintro e w' ⟨rfl,rfl⟩
 go_wp2_with fail
 with_reducible refine HZ.out.mono ?_
 rintro e w' ⟨rfl,rfl⟩
 go_wp2_with fail
 go_ret
 exact ⟨rfl,rfl⟩
end Go.Proofs.YthoagdpakddbdaaGreatDoor
