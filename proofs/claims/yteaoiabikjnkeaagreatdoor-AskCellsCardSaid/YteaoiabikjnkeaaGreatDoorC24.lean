/- Parts of the proof: AsA, Fx, AsB. -/
import Derived.Test.YteaoiabikjnkeaaGreatDoorC1
import Derived.Test.YteaoiabikjnkeaaGreatDoorC17
import Derived.Test.YteaoiabikjnkeaaGreatDoorC20
import Derived.Test.YteaoiabikjnkeaaGreatDoorC23
import Derived.Laws.StructEq
namespace Go.Proofs.YteaoiabikjnkeaaGreatDoor
open Go.RowKit Go.Proofs.Tryz
attribute [local go_sem ↓] Go.wp_at_zero Go.wp_at_succ
set_option maxHeartbeats 1000000 in
theorem Qta (xA xB xC xQ xG:Value)(AE:Option Addr)(S ce k e1 e2 e3 e4:Nat)(EL:List Ent)(w:World) (h:Rds w 4 AE S (Qed EL)) (hS:EL.length=S) (hS2:S≤1000000000) (hk:EL[k]?=some (e1,e2,e3,e4)) (hu:∀ i f,i<k→EL[i]?=some f→f≠(e1,e2,e3,e4)) :
 Calls prog 108 #[.agg #[xA,xB,xC,xQ,xG,.slice AE S ce],.int .i64 ((e1:Int)+1),.int .i64 e2,.int .i64 e3,.int .i64 e4] w fun e w'=>e=.returned (.int .i64 k)∧Below w.heap.size w w':=by
 have hkS:k<S:=by rw [←hS];exact (Zs hk).1
 have HE:=Zh h;have HK:=Zh hk;have HU:=Zh hu;have HS:=Zh hS;clear h hk hu hS
 go_enter func108,ntmps108
 go_wp2_with fail
 (refine Qaj ?_;intro w1 hw1)
 have HB1:=Zh (show Below w.heap.size w w1 by rw [hw1];exact Qah)
 have HX:=Zh (show Blk w1 w.heap.size 40 #[xA,xB,xC,xQ,xG,.slice AE S ce] by rw [hw1];refine Blk.new' _ _ _ ?_;rfl)
 clear hw1
 go_loopw [11] (fun q W=>∃ i:Nat,i≤k∧q=.int .i64 i∧Below w1.heap.size w1 W) (fun q _=>k+1-(intOf q).toNat)
 case atStart=>exact ⟨0,Nat.zero_le _,rfl,Zr _ _⟩
 case round =>
  obtain ⟨i,hi,rfl,hbl⟩:=hrel;have hXr:=HX.out.below hbl HX.out.lt;have HBL:=Zh (Zb HB1.out hbl);have x5:wr.cell? ⟨w.heap.size,5,none⟩=some (.slice AE S ce):=Zq hXr;obtain ⟨⟨il,iq,ia,ib⟩,he⟩:∃ e,EL[i]?=some e:=⟨_,Zg (by rw [HS.out];omega)⟩;have hEr:=HE.out.below HBL.out;have hc:=fun (q:Nat) (u:Value) (hq:q<4) (hu:(Qhd (il,iq,ia,ib))[q]?=some u)=>hEr.2 (i*4+q) u (by rw [Qoo EL i _ he q hq];exact hu)
  obtain ⟨eb,eo,rfl,c0⟩:=hc 0 _ (by omega) rfl;obtain ⟨_,_,g1,c1⟩:=hc 1 _ (by omega) rfl
  cases g1
  obtain ⟨_,_,g2,c2⟩:=hc 2 _ (by omega) rfl
  cases g2
  obtain ⟨_,_,g3,c3⟩:=hc 3 _ (by omega) rfl
  cases g3
  rw [←Nat.add_assoc] at c0 c1 c2 c3;rw [Nat.add_zero] at c0;simp only at c0 c1 c2 c3;have j1:(i:Int)<(S:Int):=by omega
  have j2:(0:Int)≤(i:Int):=by omega
  by_cases hlt:i<k
  · have hne:¬((il:Int)+1=(e1:Int)+1∧(iq:Int)=(e2:Int)∧(ia:Int)=(e3:Int)∧(ib:Int)=(e4:Int)):=fun ⟨g1,g2,g3,g4⟩=>by
     refine HU.out i _ hlt he ?_;rw [show il=e1 by omega,show iq=e2 by omega,show ia=e3 by omega,show ib=e4 by omega]
    clear he hEr hc hXr
    go_wp2_with fail
    all_goals (try exact absurd ⟨by omega,by omega,by omega,by omega⟩ hne)
    all_goals exact ⟨⟨i+1,by omega,by go_num,hbl⟩,by simp [intOf];omega⟩
  · obtain rfl:i=k:=by omega
    have he':=HK.out;rw [he] at he'
    cases he'
    clear he hEr hc hXr
    go_wp2_with fail
    go_ret
    exact ⟨rfl,HBL.out⟩
theorem Qnj (Q:Option Addr)(L cq:Nat)(lv:Int)(w:World) (h:¬(1≤lv∧lv≤(L:Int))) :
 Calls prog 104 #[.agg #[.slice Q L cq],.int .i64 lv] w fun r w'=>r=.returned (.bool false)∧Below w.heap.size w w':=by
 by_cases i1:1≤lv
 · have i2:¬lv≤(L:Int):=fun h2=>h ⟨i1,h2⟩
   clear h
   go_enter func104,ntmps104
   go_wp2
   go_ret
   exact ⟨Qbh (by first|(simp;done)|(simp;omega)),Qah⟩
 · clear h
   go_enter func104,ntmps104
   go_wp2
   go_ret
   exact ⟨Qbh (by first|(simp;done)|(simp;omega)),Qah⟩
set_option maxHeartbeats 2000000 in
theorem Qhf (A B C Q:Option Addr)(n m k c d e L cq:Nat)(N:Qaq) (ls:List (List Int)) (lv a:Int) (w:World) (h:Qca w A B C n m k N) (hok:Qaw N) (hq:RdT w Q L ls) (hP:Qay N.vs.length ls) :
 Calls prog 105 #[.agg #[.slice A n c,.slice B m d,.slice C k e],.agg #[.slice Q L cq],.int .i64 lv,.int .i64 a] w fun r w'=>r=.returned (.int .i64 (enF N ls lv a))∧Below w.heap.size w w':=by
 have hL6:L≤6:=by rw [←hq.1];exact hP.l6
 have HLL:=Zh hq.1;have HM:=Zh h.2.1.1;have hm:m≤16384:=by rw [←h.2.1.1];exact hok.la
 have HH:=Zh h;have HT:=Zh hq;have HOK:=Zh hok;have HP:=Zh hP;clear h hok hq hP
 by_cases hr:1≤lv∧lv≤(L:Int)
 rotate_left
 · have HZ:=Zh (show enF N ls lv a = -1 by unfold enF;rw [Qfu (fun h=>hr ⟨h.1,by rw [←HLL.out];exact h.2.1⟩)])
   have HHA:=Zh (fun V=>Qnj Q L cq lv V hr);clear hr
   go_enter func105,ntmps105
   go_wp2_with fail
   (refine Qad ?_;intro w1 hw1)
   have HB1:=Zh (show Below w.heap.size w w1 by rw [hw1];exact Qah)
   clear hw1;with_reducible refine (HHA.out w1).mono ?_
   rintro r w2 ⟨rfl,hb2⟩;have HB2:=Zh (Zb HB1.out hb2);clear hb2
   go_wp2_with fail
   go_ret
   rw [HZ.out];exact ⟨rfl,HB2.out⟩
 obtain ⟨j,rfl⟩:∃ j:Nat,lv=(j:Int)+1:=⟨(lv-1).toNat,by omega⟩;have hj:j<L:=by omega
 clear hr;obtain ⟨qb,qo,A1,n1,c1,l,rfl,hl,q1,q2,_,_⟩:=HT.out.at_ (i:=j) hj;have HLV:=Zh (HP.out.lvl l (Zm hl));obtain rfl:n1=N.vs.length:=by rw [←q2.1];exact HLV.out.len
 have HQ1:=Zh q1;have HQ2:=Zh q2;have HL:=Zh hl;have HHA:=Zh (fun V=>Qhh (some ⟨qb,qo,none⟩) L cq j V hj);have HCR:=Zh (fun V (hV:Below w.heap.size w V)=>Qgn A B C (some ⟨qb,qo,none⟩) n m k c d e L cq j N ls l V (HH.out.below hV) HOK.out (HT.out.below hV) hl HLV.out.len (by omega));have hcl:(Qau N.ar l).length≤16384:=Nat.le_trans (Qff _ _) HOK.out.la;clear q1 q2
 go_enter func105,ntmps105
 go_wp2_with fail
 (refine Qad ?_;intro w1 hw1)
 have HB1:=Zh (show Below w.heap.size w w1 by rw [hw1];exact Qah)
 have hX:Blk w1 w.heap.size 26 #[.slice A n c,.slice B m d,.slice C k e]:=by rw [hw1];exact Qbf
 have hY:Blk w1 (w.heap.size+1) 29 #[.slice (some ⟨qb,qo,none⟩) L cq]:=by rw [hw1];exact Qbf
 clear hw1 hl;with_reducible refine (HHA.out w1).mono ?_
 rintro r w2 ⟨rfl,hb2⟩;have hX2:=hX.below hb2 hX.lt;have hY2:=hY.below hb2 hY.lt;have HB2:=Zh (Zb HB1.out hb2);clear hb2 hX hY;obtain ⟨x0,x1,x2⟩:=hX2.three;have y0:=hY2.cell 0;simp only [List.getElem?_toArray,List.getElem?_cons_zero] at y0
 go_wp2_with fail
 with_reducible refine (HCR.out w2 HB2.out).mono ?_
 rintro r w3 ⟨A3,n3,c3,rfl,h3,_,hb3⟩;have HX3:=Zh (hX2.below hb3 hX2.lt);have HY3:=Zh (hY2.below hb3 hY2.lt);have HB3:=Zh (Zb HB2.out hb3);have HPL:=Zh (Qep A3 n3 c3 _ a w3 h3 (by rw [←h3.1];omega));clear hb3 h3 hX2 hY2 x0 x1 x2 y0
 go_wp2_with fail
 with_reducible refine HPL.out.mono ?_
 rintro r w' ⟨rfl,rfl⟩
 by_cases hin:a∈Qau N.ar l
 rotate_left
 · have HZ:=Zh (show enF N ls ((j:Int)+1) a = -1 by
    unfold enF
    cases hc:Qdv N ls ((j:Int)+1) a with
    | none=>rfl
    | some p =>
     obtain ⟨j',b,l',y,ej,rfl,hl',hy,hne,_⟩:=Qfg hc;obtain rfl:j=j':=by omega
     rw [HL.out] at hl'
     cases hl'
     exact absurd (Qct.2 ⟨b,y,rfl,hy,hne⟩) hin)
   rw [Qcj hin];clear hin
   go_wp2_with fail
   go_ret
   rw [HZ.out];exact ⟨rfl,HB3.out⟩
 obtain ⟨p,hp,_⟩:=Qfs hin;obtain ⟨i,y,rfl,hy,hne⟩:=Qct.1 hin;rw [hp];have HZ:=Zh (show enF N ls ((j:Int)+1) (i:Int)=Qab l (y.2.1) by unfold enF;rw [Qdt HL.out hy,if_neg hne])
 have him:i<m:=by rw [←HM.out];exact (Zs hy).1
 obtain ⟨u,v,e1,e2,hu,hv⟩:=Qfj HOK.out hy;obtain ⟨ab,ao,rfl,d0,d1,d2⟩:=(HH.out.below HB3.out).2.1.2 i y hy;have hlen:=HLV.out.len;obtain ⟨lb,lo,z,rfl,hz,cz⟩:=(HQ2.out.below HB3.out).at_ (i:=v) (by omega);have HZZ:=Zh (show Qab l (y.2.1)=z by rw [e2];exact Qar hz)
 have hqc:=Zc HB3.out (Zn _) HQ1.out;rw [e2] at d1;have i1:¬((p:Int)<0):=by omega
 have i5:(j:Int)+1-1=(j:Int):=by omega
 have i6:(j:Int)<(L:Int):=by omega
 have i7:(0:Int)≤(j:Int):=by omega
 have wl:IntKind.i64.wrap (j:Int)=(j:Int):=IntWalk.i64_in _ (by omega);have k1:(i:Int)<(m:Int):=by omega
 have k2:(0:Int)≤(i:Int):=by omega
 have k3:((v:Nat):Int)<(N.vs.length:Int):=by omega
 have k4:(0:Int)≤((v:Nat):Int):=by omega
 have HSX:=Zh (show ∀ V,Below w3.heap.size w3 V→V.cell? ⟨w.heap.size,1,none⟩=some (.slice (some ⟨ab,ao,none⟩) m d)∧V.cell? ⟨w.heap.size+1,0,none⟩=some (.slice (some ⟨qb,qo,none⟩) L cq)∧V.cell? ⟨qb,qo+j,none⟩=some (.slice (some ⟨lb,lo,none⟩) N.vs.length c1)∧V.cell? ⟨ab,ao+i*3+1,none⟩=some (.int .i64 (v:Nat))∧V.cell? ⟨lb,lo+v,none⟩=some (.int .i64 z) from
  fun V hV=>⟨by rw [(HX3.out.below hV HX3.out.lt).cell];rfl,by rw [(HY3.out.below hV HY3.out.lt).cell];rfl,Zc hV (Zn _) hqc,Zc hV (Zn _) d1,Zc hV (Zn _) cz⟩)
 clear hin hp hy hne e1 e2 d0 d1 d2 hz cz hqc hcl hlen
 go_wp2_with fail
 refine wp_region_held_drew (S:=fun V=>Below w3.heap.size w3 V) (by kernel_rfl) (Zr _ _).drew (fun _=>?_);refine tz 0 22 ?_;refine tz 1 23 ?_;refine tz 2 24 ?_;refine tz 3 25 ?_;refine tz 4 26 ?_;refine tz 5 27 ?_;refine tz 6 28 ?_;refine tz 7 29 ?_;refine tz 8 30 ?_;refine tz 9 31 ?_;refine tz 10 32 ?_;refine tz 11 33 ?_;refine tz 12 34 ?_;refine tz 13 35 ?_;refine tz 14 8 ?_;refine Zd ?_
 go_wp2_with fail
 go_ret
 rw [HZ.out,HZZ.out];exact ⟨rfl,HB3.out.drew⟩
set_option maxHeartbeats 2000000 in
theorem Qhl (A B C Q:Option Addr)(n m k c d e L cq:Nat)(N:Qaq) (ls:List (List Int)) (lv a:Int) (w:World) (h:Qca w A B C n m k N) (hok:Qaw N) (hq:RdT w Q L ls) (hP:Qay N.vs.length ls) :
 Calls prog 106 #[.agg #[.slice A n c,.slice B m d,.slice C k e],.agg #[.slice Q L cq],.int .i64 lv,.int .i64 a] w fun r w'=>r=.returned (.int .i64 (leF N ls lv a))∧Below w.heap.size w w':=by
 have hL6:L≤6:=by rw [←hq.1];exact hP.l6
 have HLL:=Zh hq.1;have HM:=Zh h.2.1.1;have hm:m≤16384:=by rw [←h.2.1.1];exact hok.la
 have HH:=Zh h;have HT:=Zh hq;have HOK:=Zh hok;have HP:=Zh hP;clear h hok hq hP
 by_cases hr:1≤lv∧lv≤(L:Int)
 rotate_left
 · have HZ:=Zh (show leF N ls lv a = -1 by unfold leF;rw [Qfu (fun h=>hr ⟨h.1,by rw [←HLL.out];exact h.2.1⟩)])
   have HHA:=Zh (fun V=>Qnj Q L cq lv V hr);clear hr
   go_enter func106,ntmps106
   go_wp2_with fail
   (refine Qad ?_;intro w1 hw1)
   have HB1:=Zh (show Below w.heap.size w w1 by rw [hw1];exact Qah)
   clear hw1;with_reducible refine (HHA.out w1).mono ?_
   rintro r w2 ⟨rfl,hb2⟩;have HB2:=Zh (Zb HB1.out hb2);clear hb2
   go_wp2_with fail
   go_ret
   rw [HZ.out];exact ⟨rfl,HB2.out⟩
 obtain ⟨j,rfl⟩:∃ j:Nat,lv=(j:Int)+1:=⟨(lv-1).toNat,by omega⟩;have hj:j<L:=by omega
 clear hr;obtain ⟨qb,qo,A1,n1,c1,l,rfl,hl,q1,q2,_,_⟩:=HT.out.at_ (i:=j) hj;have HLV:=Zh (HP.out.lvl l (Zm hl));obtain rfl:n1=N.vs.length:=by rw [←q2.1];exact HLV.out.len
 have HQ1:=Zh q1;have HQ2:=Zh q2;have HL:=Zh hl;have HHA:=Zh (fun V=>Qhh (some ⟨qb,qo,none⟩) L cq j V hj);have HCR:=Zh (fun V (hV:Below w.heap.size w V)=>Qgn A B C (some ⟨qb,qo,none⟩) n m k c d e L cq j N ls l V (HH.out.below hV) HOK.out (HT.out.below hV) hl HLV.out.len (by omega));have hcl:(Qau N.ar l).length≤16384:=Nat.le_trans (Qff _ _) HOK.out.la;clear q1 q2
 go_enter func106,ntmps106
 go_wp2_with fail
 (refine Qad ?_;intro w1 hw1)
 have HB1:=Zh (show Below w.heap.size w w1 by rw [hw1];exact Qah)
 have hX:Blk w1 w.heap.size 26 #[.slice A n c,.slice B m d,.slice C k e]:=by rw [hw1];exact Qbf
 have hY:Blk w1 (w.heap.size+1) 29 #[.slice (some ⟨qb,qo,none⟩) L cq]:=by rw [hw1];exact Qbf
 clear hw1 hl;with_reducible refine (HHA.out w1).mono ?_
 rintro r w2 ⟨rfl,hb2⟩;have hX2:=hX.below hb2 hX.lt;have hY2:=hY.below hb2 hY.lt;have HB2:=Zh (Zb HB1.out hb2);clear hb2 hX hY;obtain ⟨x0,x1,x2⟩:=hX2.three;have y0:=hY2.cell 0;simp only [List.getElem?_toArray,List.getElem?_cons_zero] at y0
 go_wp2_with fail
 with_reducible refine (HCR.out w2 HB2.out).mono ?_
 rintro r w3 ⟨A3,n3,c3,rfl,h3,_,hb3⟩;have HX3:=Zh (hX2.below hb3 hX2.lt);have HY3:=Zh (hY2.below hb3 hY2.lt);have HB3:=Zh (Zb HB2.out hb3);have HPL:=Zh (Qep A3 n3 c3 _ a w3 h3 (by rw [←h3.1];omega));clear hb3 h3 hX2 hY2 x0 x1 x2 y0
 go_wp2_with fail
 with_reducible refine HPL.out.mono ?_
 rintro r w' ⟨rfl,rfl⟩
 by_cases hin:a∈Qau N.ar l
 rotate_left
 · have HZ:=Zh (show leF N ls ((j:Int)+1) a = -1 by
    unfold leF
    cases hc:Qdv N ls ((j:Int)+1) a with
    | none=>rfl
    | some p =>
     obtain ⟨j',b,l',y,ej,rfl,hl',hy,hne,_⟩:=Qfg hc;obtain rfl:j=j':=by omega
     rw [HL.out] at hl'
     cases hl'
     exact absurd (Qct.2 ⟨b,y,rfl,hy,hne⟩) hin)
   rw [Qcj hin];clear hin
   go_wp2_with fail
   go_ret
   rw [HZ.out];exact ⟨rfl,HB3.out⟩
 obtain ⟨p,hp,_⟩:=Qfs hin;obtain ⟨i,y,rfl,hy,hne⟩:=Qct.1 hin;rw [hp];have HZ:=Zh (show leF N ls ((j:Int)+1) (i:Int)=Qab l (y.1) by unfold leF;rw [Qdt HL.out hy,if_neg hne])
 have him:i<m:=by rw [←HM.out];exact (Zs hy).1
 obtain ⟨u,v,e1,e2,hu,hv⟩:=Qfj HOK.out hy;obtain ⟨ab,ao,rfl,d0,d1,d2⟩:=(HH.out.below HB3.out).2.1.2 i y hy;have hlen:=HLV.out.len;obtain ⟨lb,lo,z,rfl,hz,cz⟩:=(HQ2.out.below HB3.out).at_ (i:=u) (by omega);have HZZ:=Zh (show Qab l (y.1)=z by rw [e1];exact Qar hz)
 have hqc:=Zc HB3.out (Zn _) HQ1.out;rw [e1] at d0;have i1:¬((p:Int)<0):=by omega
 have i5:(j:Int)+1-1=(j:Int):=by omega
 have i6:(j:Int)<(L:Int):=by omega
 have i7:(0:Int)≤(j:Int):=by omega
 have wl:IntKind.i64.wrap (j:Int)=(j:Int):=IntWalk.i64_in _ (by omega);have k1:(i:Int)<(m:Int):=by omega
 have k2:(0:Int)≤(i:Int):=by omega
 have k3:((u:Nat):Int)<(N.vs.length:Int):=by omega
 have k4:(0:Int)≤((u:Nat):Int):=by omega
 have HSX:=Zh (show ∀ V,Below w3.heap.size w3 V→V.cell? ⟨w.heap.size,1,none⟩=some (.slice (some ⟨ab,ao,none⟩) m d)∧V.cell? ⟨w.heap.size+1,0,none⟩=some (.slice (some ⟨qb,qo,none⟩) L cq)∧V.cell? ⟨qb,qo+j,none⟩=some (.slice (some ⟨lb,lo,none⟩) N.vs.length c1)∧V.cell? ⟨ab,ao+i*3,none⟩=some (.int .i64 (u:Nat))∧V.cell? ⟨lb,lo+u,none⟩=some (.int .i64 z) from
  fun V hV=>⟨by rw [(HX3.out.below hV HX3.out.lt).cell];rfl,by rw [(HY3.out.below hV HY3.out.lt).cell];rfl,Zc hV (Zn _) hqc,Zc hV (Zn _) d0,Zc hV (Zn _) cz⟩)
 clear hin hp hy hne e1 e2 d0 d1 d2 hz cz hqc hcl hlen
 go_wp2_with fail
 refine wp_region_held_drew (S:=fun V=>Below w3.heap.size w3 V) (by kernel_rfl) (Zr _ _).drew (fun _=>?_);refine tz 0 22 ?_;refine tz 1 23 ?_;refine tz 2 24 ?_;refine tz 3 25 ?_;refine tz 4 26 ?_;refine tz 5 27 ?_;refine tz 6 28 ?_;refine tz 7 29 ?_;refine tz 8 30 ?_;refine tz 9 31 ?_;refine tz 10 32 ?_;refine tz 11 33 ?_;refine tz 12 34 ?_;refine tz 13 35 ?_;refine tz 14 8 ?_;refine Zd ?_
 go_wp2_with fail
 go_ret
 rw [HZ.out,HZZ.out];exact ⟨rfl,HB3.out.drew⟩
theorem Qjl (A B C:Option Addr)(n m k c d e:Nat)(a:Int)(w:World) (h1:¬(0≤a∧a<m)) :
 Calls prog 40 #[.agg #[.slice A n c,.slice B m d,.slice C k e],.int .i64 a] w fun r w'=>r=.returned (.bool false)∧Below w.heap.size w w':=by
 by_cases h0:0≤a
 · have h2:¬a<m:=by omega
   clear h1
   go_enter func40,ntmps40
   go_wp2
   go_ret
   exact ⟨Qbh (by first|(simp;done)|(simp;omega)),Qah⟩
 · clear h1
   go_enter func40,ntmps40
   go_wp2
   go_ret
   exact ⟨Qbh (by first|(simp;done)|(simp;omega)),Qah⟩
structure OvD (w:World) (Q G AE:Option Addr) (L S:Nat) (N:Qaq) (ls:List (List Int)) (EL:List Ent):Prop where
 q:RdT w Q L ls
 g:RdG w G L (Qae N.ar ls)
 e:Rds w 4 AE S (Qed EL)
 len:EL.length=S
 sum:S=Qbv (Qae N.ar ls)
 ent:EntP N ls EL
 s9:S≤1000000000
theorem OvD.below {w w':World}{Q G AE:Option Addr}{L S:Nat}{N:Qaq} {ls:List (List Int)} {EL:List Ent} (h:OvD w Q G AE L S N ls EL) (hb:Below w.heap.size w w'):OvD w' Q G AE L S N ls EL :=
 ⟨h.q.below hb,h.g.le (Le.below hb),h.e.below hb,h.len,h.sum,h.ent,h.s9⟩
section
variable (A B C Q G AE:Option Addr) (n m k c d e L cq cg S ce:Nat) (xA xB xC:Value) (N:Qaq) (ls:List (List Int)) (EL:List Ent)
set_option maxHeartbeats 1000000 in
theorem Qpx (lv f t:Int)(w:World)(h:Qca w A B C n m k N)(hok:Qaw N)(hP:Qay N.vs.length ls)(hO:OvD w Q G AE L S N ls EL)(hn:enF N ls lv f<0∨leF N ls lv t≠enF N ls lv f) :
 Calls prog 48 #[.agg #[.slice A n c,.slice B m d,.slice C k e],.agg #[xA,xB,xC,.slice Q L cq,.slice G L cg,.slice AE S ce],.int .i64 lv,.int .i64 f,.int .i64 t] w fun r w'=>r=.returned (.int .i64 (-1))∧Below w.heap.size w w':=by
 have HEN:=Zh (fun V (hV:Below w.heap.size w V)=>Qhf A B C Q n m k c d e L cq N ls lv f V (h.below hV) hok (hO.q.below hV) hP);have HLE:=Zh (fun V (hV:Below w.heap.size w V)=>Qhl A B C Q n m k c d e L cq N ls lv t V (h.below hV) hok (hO.q.below hV) hP);clear h hok hP hO
 go_enter func48,ntmps48
 go_wp2_with fail
 (refine Qad ?_;intro w1 hw1)
 have HB1:=Zh (show Below w.heap.size w w1 by rw [hw1];exact Qah)
 have hX:Blk w1 w.heap.size 26 #[.slice A n c,.slice B m d,.slice C k e]:=by rw [hw1];exact Qbf
 have hY:Blk w1 (w.heap.size+1) 40 #[xA,xB,xC,.slice Q L cq,.slice G L cg,.slice AE S ce]:=by rw [hw1];exact Qbf
 clear hw1;with_reducible refine (HEN.out w1 HB1.out).mono ?_
 rintro r w2 ⟨rfl,hb2⟩;have hX2:=hX.below hb2 hX.lt;have hY2:=hY.below hb2 hY.lt;have HB2:=Zh (Zb HB1.out hb2);clear hb2 hX hY HEN;obtain ⟨x0,x1,x2⟩:=hX2.three;have y0:w2.cell? ⟨w.heap.size+1,3,none⟩=some (.slice Q L cq):=Zq hY2;obtain ⟨ev,hev⟩:∃ ev,ev=enF N ls lv f:=⟨_,rfl⟩;rw [←hev] at hn ⊢
 by_cases h0:ev<0
 · clear hn hev HLE x0 x1 x2 y0 hX2 hY2
   go_wp2_with fail
   go_ret
   exact ⟨rfl,HB2.out⟩
 · have h1:leF N ls lv t≠ev:=hn.resolve_left h0
   clear hn hev
   go_wp2_with fail
   with_reducible refine (HLE.out w2 HB2.out).mono ?_
   rintro r w3 ⟨rfl,hb3⟩;have HB3:=Zh (Zb HB2.out hb3);clear hb3 HLE x0 x1 x2 y0 hX2 hY2;obtain ⟨lw,hlw⟩:∃ lw,lw=leF N ls lv t:=⟨_,rfl⟩;rw [←hlw] at h1 ⊢;clear hlw;have h2:(lw != ev)=true:=by simpa using h1
   go_wp2_with fail
   go_ret
   exact ⟨rfl,HB3.out⟩
set_option maxHeartbeats 2000000 in
theorem Qpz (j a b cc p q kk:Nat)(l:List Int)(x:Qan)(w:World)(h:Qca w A B C n m k N)(hok:Qaw N)(hP:Qay N.vs.length ls)(hO:OvD w Q G AE L S N ls EL) (hl:ls[j]?=some l) (hx:(Qaf N.ar l)[cc]?=some x) (he:enF N ls ((j:Int)+1) (a:Int)=(cc:Int)) (hf:leF N ls ((j:Int)+1) (b:Int)=(cc:Int))
 (hp:plI x.1 (a:Int)=(p:Int)) (hq:plI x.2 (b:Int)=(q:Int)) (hk:EL[kk]?=some (j,cc,p,q)) (hu:∀ i f,i<kk→EL[i]?=some f→f≠(j,cc,p,q)) :
 Calls prog 48 #[.agg #[.slice A n c,.slice B m d,.slice C k e],.agg #[xA,xB,xC,.slice Q L cq,.slice G L cg,.slice AE S ce],.int .i64 ((j:Int)+1),.int .i64 a,.int .i64 b] w fun r w'=>r=.returned (.int .i64 kk)∧Below w.heap.size w w':=by
 have hL6:L≤6:=by rw [←hO.q.1];exact hP.l6
 have hgl:=Qbl hx;have hla:=hok.la
 have hcc:cc≤1000000:=by
  have h1:=(Zs hx).1;rw [Qat] at h1;have:=Qbx (l:=l) (n:=(N.vs.length:Int)) (fun x hx=>(hP.lvl l (Zm hl)).hi x hx) (by omega);have:=hok.lv;omega
 have HEN:=Zh (fun V (hV:Below w.heap.size w V)=>he▸Qhf A B C Q n m k c d e L cq N ls ((j:Int)+1) a V (h.below hV) hok (hO.q.below hV) hP);have HLE:=Zh (fun V (hV:Below w.heap.size w V)=>hf▸Qhl A B C Q n m k c d e L cq N ls ((j:Int)+1) b V (h.below hV) hok (hO.q.below hV) hP);have HGA:=Zh (fun V (hV:Below w.heap.size w V)=>Qos xA xB xC (.slice Q L cq) (.slice AE S ce) G L cg j cc N.ar ls l x V (hO.g.le (Le.below hV)) hl hx (by omega) hcc);have HAT:=Zh (fun V (hV:Below w.heap.size w V)=>Qta xA xB xC (.slice Q L cq) (.slice G L cg) AE S ce kk j cc p q EL V (hO.e.below hV) hO.len hO.s9 hk hu);have HPI:=Zh (fun (A1:Option Addr) (n1 c1:Nat) V (hV:RdI V A1 n1 x.1)=>hp▸Qep A1 n1 c1 x.1 (a:Int) V hV (by rw [←hV.1];omega));have HPO:=Zh (fun (A1:Option Addr) (n1 c1:Nat) V (hV:RdI V A1 n1 x.2)=>hq▸Qep A1 n1 c1 x.2 (b:Int) V hV (by rw [←hV.1];omega));clear h hok hP hO hl hx he hf hp hq hk hu hgl hla hcc
 go_enter func48,ntmps48
 go_wp2_with fail
 (refine Qad ?_;intro w1 hw1)
 have HB1:=Zh (show Below w.heap.size w w1 by rw [hw1];exact Qah)
 have hX:Blk w1 w.heap.size 26 #[.slice A n c,.slice B m d,.slice C k e]:=by rw [hw1];exact Qbf
 have hY:Blk w1 (w.heap.size+1) 40 #[xA,xB,xC,.slice Q L cq,.slice G L cg,.slice AE S ce]:=by rw [hw1];exact Qbf
 clear hw1;with_reducible refine (HEN.out w1 HB1.out).mono ?_
 rintro r w2 ⟨rfl,hb2⟩;have hX2:=hX.below hb2 hX.lt;have hY2:=hY.below hb2 hY.lt;have HB2:=Zh (Zb HB1.out hb2);clear hb2 hX hY HEN;obtain ⟨x0,x1,x2⟩:=hX2.three;have y0:w2.cell? ⟨w.heap.size+1,3,none⟩=some (.slice Q L cq):=Zq hY2;have i0:¬((cc:Int)<0):=by omega
 have i1:((cc:Int) != (cc:Int))=false:=by simp
 go_wp2_with fail
 with_reducible refine (HLE.out w2 HB2.out).mono ?_
 rintro r w3 ⟨rfl,hb3⟩;have hY3:=hY2.below hb3 hY2.lt;have HB3:=Zh (Zb HB2.out hb3);clear hb3 HLE x0 x1 x2 y0 hX2 hY2;have y0:w3.cell? ⟨w.heap.size+1,0,none⟩=some xA:=Zq hY3;have y1:w3.cell? ⟨w.heap.size+1,1,none⟩=some xB:=Zq hY3;have y2:w3.cell? ⟨w.heap.size+1,2,none⟩=some xC:=Zq hY3;have y3:w3.cell? ⟨w.heap.size+1,3,none⟩=some (.slice Q L cq):=Zq hY3;have y4:w3.cell? ⟨w.heap.size+1,4,none⟩=some (.slice G L cg):=Zq hY3;have y5:w3.cell? ⟨w.heap.size+1,5,none⟩=some (.slice AE S ce):=Zq hY3
 go_wp2_with fail
 with_reducible refine (HGA.out w3 HB3.out).mono ?_
 rintro r w4 ⟨A1,n1,c1,A2,n2,c2,rfl,h41,h42,hb4⟩;have hY4:=hY3.below hb4 hY3.lt;have HB4:=Zh (Zb HB3.out hb4);clear hb4 HGA y0 y1 y2 y3 y4 y5 hY3
 go_wp2_with fail
 (refine Qaj ?_;intro w5 hw5)
 have hb5:Below w4.heap.size w4 w5:=by rw [hw5];exact Qah
 have hZ:Blk w5 w4.heap.size 109 #[.slice A1 n1 c1,.slice A2 n2 c2]:=by rw [hw5];refine Blk.new' _ _ _ ?_;rfl
 clear hw5;have hY5:=hY4.below hb5 hY4.lt;have HB5:=Zh (Zb HB4.out hb5);have HI5:=Zh (h41.below hb5);have HJ5:=Zh (h42.below hb5)
 have HSX:=Zh (show ∀ V,Below w5.heap.size w5 V→V.cell? ⟨w.heap.size+1,0,none⟩=some xA∧V.cell? ⟨w.heap.size+1,1,none⟩=some xB∧V.cell? ⟨w.heap.size+1,2,none⟩=some xC∧V.cell? ⟨w.heap.size+1,3,none⟩=some (.slice Q L cq)∧V.cell? ⟨w.heap.size+1,4,none⟩=some (.slice G L cg)∧V.cell? ⟨w.heap.size+1,5,none⟩=some (.slice AE S ce)∧V.cell? ⟨w4.heap.size,0,none⟩=some (.slice A1 n1 c1)∧V.cell? ⟨w4.heap.size,1,none⟩=some (.slice A2 n2 c2) from fun V hV=>by
  have hO':=hY5.below hV hY5.lt;have hZ':=hZ.below hV hZ.lt;exact ⟨Zq hO',Zq hO',Zq hO',Zq hO',Zq hO',Zq hO',Zq hZ',Zq hZ'⟩)
 clear hb5 h41 h42 hZ hY4 hY5
 go_wp2_with fail
 refine wp_region_held_drew (S:=fun V=>Below w5.heap.size w5 V) (by kernel_rfl) (Zr _ _).drew (fun _=>?_);refine tz 0 35 ?_;refine tz 1 36 ?_;refine tz 2 37 ?_;refine tz 3 38 ?_;refine tz 4 39 ?_;refine tz 5 40 ?_;refine tz 7 42 ?_;refine tz 8 43 ?_;refine tz 9 44 ?_;refine Zk 6 (fun K hK=>?_);go_simp;with_reducible refine (HPI.out A1 n1 c1 _ (HI5.out.below (Zr _ _).drew)).mono ?_
 rintro r w' ⟨rfl,rfl⟩;go_simp;refine hK.out _ _ (Zr _ _).drew (fun _=>?_);clear hK K;refine Zk 10 (fun K hK=>?_);go_simp;with_reducible refine (HPO.out A2 n2 c2 _ (HJ5.out.below (Zr _ _).drew)).mono ?_
 rintro r w' ⟨rfl,rfl⟩;go_simp;refine hK.out _ _ (Zr _ _).drew (fun _=>?_);clear hK K;refine Zk 11 (fun K hK=>?_);go_simp;with_reducible refine (HAT.out _ (Zb HB5.out (Zr _ _).drew)).mono ?_
 rintro r w6 ⟨rfl,hb6⟩;have hb6':Below w5.heap.size w5 w6:=(Zr _ _).drew.trans hb6;go_simp;refine hK.out _ _ hb6' (fun _=>?_);clear hK K;refine tz 12 10 ?_;refine Zd ?_
 go_wp2_with fail
 go_ret
 exact ⟨rfl,Zb HB5.out hb6'⟩
def PrR (N:Qaq) (ls:List (List Int)) (lv f t:Int) (w:World) (r:Ending) (w':World):Prop:=(∃ v,r=.returned (.int .i64 v)∧Qnx N ls lv f t v)∧Below w.heap.size w w'
variable (CA:Option Addr) (NC cC:Nat) (cl:List Int)
set_option maxHeartbeats 2000000 in
theorem Qpr (lv f t:Int)(w:World)(h:Qca w A B C n m k N)(hok:Qaw N)(hP:Qay N.vs.length ls)(hO:OvD w Q G AE L S N ls EL)(hc:RdI w CA NC cl)(hA:Qdh N ls cl) :
 Calls prog 27 #[.agg #[.slice A n c,.slice B m d,.slice C k e],.agg #[xA,xB,xC,.slice Q L cq,.slice G L cg,.slice AE S ce],.slice CA NC cC,.agg #[.int .i64 lv,.int .i64 f,.int .i64 t]] w (PrR N ls lv f t w):=by
 have hml:=h.2.1.1;have hm:m≤16384:=by rw [←h.2.1.1];exact hok.la
 have HNO:=Zh (fun (hn:∀ (a b:Nat),f=(a:Int)→t=(b:Int)→a<N.ar.length→b<N.ar.length→lv≠0∧¬LeapQ N ls lv a b)=>Qjy (lv:=lv) (f:=f) (t:=t) hn);unfold PrR
 by_cases hf:0≤f∧f<(m:Int)
 rotate_left
 · have HTF:=Zh (fun V=>Qjl A B C n m k c d e f V hf)
   have HPR:=Zh (HNO.out (fun a b e1 _ h1 _=>absurd ⟨by omega,by omega⟩ hf));clear h hok hP hO hc hA hml hm hf HNO
   go_enter func27,ntmps27
   go_wp2_with fail
   (refine Qad ?_;intro w1 hw1)
   have HB1:=Zh (show Below w.heap.size w w1 by rw [hw1];exact Qah)
   have hX:Blk w1 w.heap.size 26 #[.slice A n c,.slice B m d,.slice C k e]:=by rw [hw1];exact Qbf
   have hY:Blk w1 (w.heap.size+1) 40 #[xA,xB,xC,.slice Q L cq,.slice G L cg,.slice AE S ce]:=by rw [hw1];exact Qbf
   have hZ:Blk w1 (w.heap.size+2) 58 #[.int .i64 lv,.int .i64 f,.int .i64 t]:=by rw [hw1];exact Qbf
   clear hw1;with_reducible refine (HTF.out w1).mono ?_
   rintro r w2 ⟨rfl,hb2⟩;have hX2:=hX.below hb2 hX.lt;have hY2:=hY.below hb2 hY.lt;have hZ2:=hZ.below hb2 hZ.lt;have HB2:=Zh (Zb HB1.out hb2);clear hb2 hX hY hZ;obtain ⟨x0,x1,x2⟩:=hX2.three;obtain ⟨z0,z1,z2⟩:=hZ2.three
   go_wp2_with fail
   go_ret
   exact ⟨⟨_,rfl,HPR.out⟩,HB2.out⟩
 have HTF:=Zh (fun V=>Qdu A B C n m k c d e f V hf.1 hf.2)
 by_cases ht:0≤t∧t<(m:Int)
 rotate_left
 · have HTT:=Zh (fun V=>Qjl A B C n m k c d e t V ht)
   have HPR:=Zh (HNO.out (fun a b _ e2 _ h2=>absurd ⟨by omega,by omega⟩ ht));clear h hok hP hO hc hA hml hm hf ht HNO
   go_enter func27,ntmps27
   go_wp2_with fail
   (refine Qad ?_;intro w1 hw1)
   have HB1:=Zh (show Below w.heap.size w w1 by rw [hw1];exact Qah)
   have hX:Blk w1 w.heap.size 26 #[.slice A n c,.slice B m d,.slice C k e]:=by rw [hw1];exact Qbf
   have hY:Blk w1 (w.heap.size+1) 40 #[xA,xB,xC,.slice Q L cq,.slice G L cg,.slice AE S ce]:=by rw [hw1];exact Qbf
   have hZ:Blk w1 (w.heap.size+2) 58 #[.int .i64 lv,.int .i64 f,.int .i64 t]:=by rw [hw1];exact Qbf
   clear hw1;with_reducible refine (HTF.out w1).mono ?_
   rintro r w2 ⟨rfl,hb2⟩;have hX2:=hX.below hb2 hX.lt;have hY2:=hY.below hb2 hY.lt;have hZ2:=hZ.below hb2 hZ.lt;have HB2:=Zh (Zb HB1.out hb2);clear hb2 hX hY hZ;obtain ⟨x0,x1,x2⟩:=hX2.three;obtain ⟨z0,z1,z2⟩:=hZ2.three
   go_wp2_with fail
   with_reducible refine (HTT.out w2).mono ?_
   rintro r w3 ⟨rfl,hb3⟩;have hX3:=hX2.below hb3 hX2.lt;have hY3:=hY2.below hb3 hY2.lt;have hZ3:=hZ2.below hb3 hZ2.lt;have HB3:=Zh (Zb HB2.out hb3);clear hb3 x0 x1 x2 z0 z1 z2 hX2 hY2 hZ2
   go_wp2_with fail
   go_ret
   exact ⟨⟨_,rfl,HPR.out⟩,HB3.out⟩
 have HTT:=Zh (fun V=>Qdu A B C n m k c d e t V ht.1 ht.2);obtain ⟨a,rfl⟩:∃ a:Nat,f=(a:Int):=⟨f.toNat,by omega⟩;obtain ⟨b,rfl⟩:∃ b:Nat,t=(b:Int):=⟨t.toNat,by omega⟩;have ham:a<m:=by omega
 have hbm:b<m:=by omega
 obtain ⟨y,hy⟩:∃ y,N.ar[a]?=some y:=⟨_,Zg (by omega)⟩;obtain ⟨z,hz⟩:∃ z,N.ar[b]?=some z:=⟨_,Zg (by omega)⟩;have HZW:=Zh (show 0≤z.2.2∧z.2.2≤1152921504606846976 from by have:=Qdz (hok.arcs z (Zm hz)).w;omega)
 obtain ⟨ab,ao,hB,_,_,d2⟩:=h.2.1.2 b z hz;have HD2:=Zh d2;clear d2;have k1:(b:Int)<(m:Int):=by omega
 have k2:(0:Int)≤(b:Int):=by omega
 by_cases hlv:lv=0
 · subst hlv
   have HPR:=Zh (Qfz (ls:=ls) hy hz);have HTU:=Zh (fun V (hV:Below w.heap.size w V)=>Qti A B C n m k c d e N a b y z V (h.below hV) hok hy hz);have HTN:=Zh (Qef hok a b);subst hB;clear h hok hP hO hc hA hml hm hf ht HNO hy hz ham hbm
   go_enter func27,ntmps27
   go_wp2_with fail
   (refine Qad ?_;intro w1 hw1)
   have HB1:=Zh (show Below w.heap.size w w1 by rw [hw1];exact Qah)
   have hX:Blk w1 w.heap.size 26 #[.slice A n c,.slice (some ⟨ab,ao,none⟩) m d,.slice C k e]:=by rw [hw1];exact Qbf
   have hY:Blk w1 (w.heap.size+1) 40 #[xA,xB,xC,.slice Q L cq,.slice G L cg,.slice AE S ce]:=by rw [hw1];exact Qbf
   have hZ:Blk w1 (w.heap.size+2) 58 #[.int .i64 0,.int .i64 (a:Int),.int .i64 (b:Int)]:=by rw [hw1];exact Qbf
   clear hw1;with_reducible refine (HTF.out w1).mono ?_
   rintro r w2 ⟨rfl,hb2⟩;have hX2:=hX.below hb2 hX.lt;have hY2:=hY.below hb2 hY.lt;have hZ2:=hZ.below hb2 hZ.lt;have HB2:=Zh (Zb HB1.out hb2);clear hb2 hX hY hZ;obtain ⟨x0,x1,x2⟩:=hX2.three;obtain ⟨z0,z1,z2⟩:=hZ2.three
   go_wp2_with fail
   with_reducible refine (HTT.out w2).mono ?_
   rintro r w3 ⟨rfl,hb3⟩;have hX3:=hX2.below hb3 hX2.lt;have hY3:=hY2.below hb3 hY2.lt;have hZ3:=hZ2.below hb3 hZ2.lt;have HB3:=Zh (Zb HB2.out hb3);clear hb3 x0 x1 x2 z0 z1 z2 hX2 hY2 hZ2
   have HSX:=Zh (show ∀ V,Below w3.heap.size w3 V→V.cell? ⟨w.heap.size,0,none⟩=some (.slice A n c)∧V.cell? ⟨w.heap.size,1,none⟩=some (.slice (some ⟨ab,ao,none⟩) m d)∧V.cell? ⟨w.heap.size,2,none⟩=some (.slice C k e)∧V.cell? ⟨w.heap.size+2,0,none⟩=some (.int .i64 0)∧V.cell? ⟨w.heap.size+2,1,none⟩=some (.int .i64 a)∧V.cell? ⟨w.heap.size+2,2,none⟩=some (.int .i64 b)∧V.cell? ⟨ab,ao+b*3+2,none⟩=some (.int .i64 z.2.2) from fun V hV=>by
    have hX':=hX3.below hV hX3.lt;have hZ':=hZ3.below hV hZ3.lt;exact ⟨Zq hX',Zq hX',Zq hX',Zq hZ',Zq hZ',Zq hZ',Zc (Zb HB3.out hV) (Zn _) HD2.out⟩)
   obtain ⟨z0,z1,z2⟩:=hZ3.three;clear hX3 hY3
   go_wp2_with fail
   clear z0 z1 z2 hZ3;refine wp_region_held_drew (S:=fun V=>Below w3.heap.size w3 V) (by kernel_rfl) (Zr _ _).drew (fun _=>?_);refine tz 0 25 ?_;refine tz 1 26 ?_;refine tz 2 27 ?_;refine tz 3 28 ?_;refine tz 4 29 ?_;refine tz 6 31 ?_;refine tz 7 32 ?_;refine tz 8 33 ?_;refine tz 9 34 ?_;refine tz 10 35 ?_;refine tz 11 36 ?_;refine tz 12 37 ?_;refine Zk 5 (fun K hK=>?_);go_simp;with_reducible refine (HTU.out _ (Zb HB3.out (Zr _ _).drew)).mono ?_
   rintro r w4 ⟨rfl,hb4⟩;have hb4':Below w3.heap.size w3 w4:=(Zr _ _).drew.trans hb4;clear hb4;go_simp;refine hK.out _ _ hb4' (fun _=>?_);clear hK K;refine Zk 13 (fun K hK=>?_);go_simp;with_reducible refine (Qiz _ _ w4 (by have:=HTN.out;omega) HZW.out).mono ?_
   rintro r w' ⟨rfl,rfl⟩;go_simp;refine hK.out _ _ hb4' (fun _=>?_);clear hK K;refine tz 14 8 ?_;refine Zd ?_
   go_wp2_with fail
   go_ret
   exact ⟨⟨_,rfl,HPR.out⟩,Zb HB3.out hb4'⟩
 by_cases hen:enF N ls lv (a:Int)<0∨leF N ls lv (b:Int)≠enF N ls lv (a:Int)
 · have HEY:=Zh (fun V (hV:Below w.heap.size w V)=>Qpx A B C Q G AE n m k c d e L cq cg S ce xA xB xC N ls EL lv a b V (h.below hV) hok hP (hO.below hV) hen)
   have HPR:=Zh (HNO.out (fun a' b' e1 e2 _ _=>⟨hlv,Quu hok hP hen a' b' e1 e2⟩));clear h hok hP hO hc hA hml hm hf ht HNO hy hz ham hbm hB hen
   go_enter func27,ntmps27
   go_wp2_with fail
   (refine Qad ?_;intro w1 hw1)
   have HB1:=Zh (show Below w.heap.size w w1 by rw [hw1];exact Qah)
   have hX:Blk w1 w.heap.size 26 #[.slice A n c,.slice B m d,.slice C k e]:=by rw [hw1];exact Qbf
   have hY:Blk w1 (w.heap.size+1) 40 #[xA,xB,xC,.slice Q L cq,.slice G L cg,.slice AE S ce]:=by rw [hw1];exact Qbf
   have hZ:Blk w1 (w.heap.size+2) 58 #[.int .i64 lv,.int .i64 (a:Int),.int .i64 (b:Int)]:=by rw [hw1];exact Qbf
   clear hw1;with_reducible refine (HTF.out w1).mono ?_
   rintro r w2 ⟨rfl,hb2⟩;have hX2:=hX.below hb2 hX.lt;have hY2:=hY.below hb2 hY.lt;have hZ2:=hZ.below hb2 hZ.lt;have HB2:=Zh (Zb HB1.out hb2);clear hb2 hX hY hZ;obtain ⟨x0,x1,x2⟩:=hX2.three;obtain ⟨z0,z1,z2⟩:=hZ2.three
   go_wp2_with fail
   with_reducible refine (HTT.out w2).mono ?_
   rintro r w3 ⟨rfl,hb3⟩;have hX3:=hX2.below hb3 hX2.lt;have hY3:=hY2.below hb3 hY2.lt;have hZ3:=hZ2.below hb3 hZ2.lt;have HB3:=Zh (Zb HB2.out hb3);clear hb3 x0 x1 x2 z0 z1 z2 hX2 hY2 hZ2;obtain ⟨z0,z1,z2⟩:=hZ3.three;obtain ⟨x0,x1,x2⟩:=hX3.three;have y0:w3.cell? ⟨w.heap.size+1,0,none⟩=some xA:=Zq hY3;have y1:w3.cell? ⟨w.heap.size+1,1,none⟩=some xB:=Zq hY3;have y2:w3.cell? ⟨w.heap.size+1,2,none⟩=some xC:=Zq hY3;have y3:w3.cell? ⟨w.heap.size+1,3,none⟩=some (.slice Q L cq):=Zq hY3;have y4:w3.cell? ⟨w.heap.size+1,4,none⟩=some (.slice G L cg):=Zq hY3;have y5:w3.cell? ⟨w.heap.size+1,5,none⟩=some (.slice AE S ce):=Zq hY3;have hZ3':=hZ3;clear hX3 hY3 hZ3
   go_wp2_with fail
   clear z0 z1 z2 x0 x1 x2 y0 y1 y2 y3 y4 y5;with_reducible refine (HEY.out w3 HB3.out).mono ?_
   rintro r w4 ⟨rfl,hb4⟩;have HB4:=Zh (Zb HB3.out hb4);clear hb4 HEY
   go_wp2_with fail
   go_ret
   exact ⟨⟨_,rfl,HPR.out⟩,HB4.out⟩
 · have he0:0≤enF N ls lv (a:Int):=by omega
   have hle:leF N ls lv (b:Int)=enF N ls lv (a:Int):=by
    by_cases h1:leF N ls lv (b:Int)=enF N ls lv (a:Int)
    · exact h1
    · exact absurd (.inr h1) hen
   obtain ⟨a',b',j,l,y',z',e1,e2,rfl,hl,hy',hz',g1,g2,g3,g4⟩:=Qwa he0 hle;obtain rfl:a=a':=by omega
   obtain rfl:b=b':=by omega
   rw [hy] at hy'
   cases hy'
   rw [hz] at hz'
   cases hz'
   obtain ⟨cc,p,q,kk,x,hcc,hx,hp,hq,_,_,hI⟩:=Qom hok hP hl hy hz g1 g2 g3;obtain ⟨hkk,huu⟩:=leap_ent hO.ent (by rw [hO.len,hO.sum]) hI;rw [hcc] at g4;have HEY:=Zh (fun V (hV:Below w.heap.size w V)=>Qpz A B C Q G AE n m k c d e L cq cg S ce xA xB xC N ls EL j a b cc p q kk l x V (h.below hV) hok hP (hO.below hV) hl hx g4 (by rw [hle,g4]) hp hq hkk huu);obtain ⟨v,hv,hpr⟩:=Qri hA hl hy hz g1 g2 g3 hcc hI;have HPR:=Zh hpr;have HVB:=Zh (hA.cost hok v (Zm hv));have hkn:kk<NC:=by rw [←hc.1];exact (Zs hv).1
   have hNC9:NC≤1000000000:=by rw [←hc.1,hA.1,←hO.sum];exact hO.s9
   obtain ⟨cb,co,v',rfl,hv',cv⟩:=hc.at_ hkn;rw [hv] at hv'
   cases hv'
   have HCV:=Zh cv;subst hB;have k3:(kk:Int)<(NC:Int):=by omega
   have k4:(0:Int)≤(kk:Int):=by omega
   have k5:¬(kk:Int)<0:=by omega
   clear h hok hP hO hc hA hml hm hf ht HNO hy hz ham hbm hen he0 hle g1 g2 g3 g4 hcc hx hp hq hI hkk huu hv hpr cv e1 e2 hl
   go_enter func27,ntmps27
   go_wp2_with fail
   (refine Qad ?_;intro w1 hw1)
   have HB1:=Zh (show Below w.heap.size w w1 by rw [hw1];exact Qah)
   have hX:Blk w1 w.heap.size 26 #[.slice A n c,.slice (some ⟨ab,ao,none⟩) m d,.slice C k e]:=by rw [hw1];exact Qbf
   have hY:Blk w1 (w.heap.size+1) 40 #[xA,xB,xC,.slice Q L cq,.slice G L cg,.slice AE S ce]:=by rw [hw1];exact Qbf
   have hZ:Blk w1 (w.heap.size+2) 58 #[.int .i64 ((j:Int)+1),.int .i64 (a:Int),.int .i64 (b:Int)]:=by rw [hw1];exact Qbf
   clear hw1;with_reducible refine (HTF.out w1).mono ?_
   rintro r w2 ⟨rfl,hb2⟩;have hX2:=hX.below hb2 hX.lt;have hY2:=hY.below hb2 hY.lt;have hZ2:=hZ.below hb2 hZ.lt;have HB2:=Zh (Zb HB1.out hb2);clear hb2 hX hY hZ;obtain ⟨x0,x1,x2⟩:=hX2.three;obtain ⟨z0,z1,z2⟩:=hZ2.three
   go_wp2_with fail
   with_reducible refine (HTT.out w2).mono ?_
   rintro r w3 ⟨rfl,hb3⟩;have hX3:=hX2.below hb3 hX2.lt;have hY3:=hY2.below hb3 hY2.lt;have hZ3:=hZ2.below hb3 hZ2.lt;have HB3:=Zh (Zb HB2.out hb3);clear hb3 x0 x1 x2 z0 z1 z2 hX2 hY2 hZ2;have hX4':=hX3;obtain ⟨z0,z1,z2⟩:=hZ3.three;obtain ⟨x0,x1,x2⟩:=hX3.three;have y0:w3.cell? ⟨w.heap.size+1,0,none⟩=some xA:=Zq hY3;have y1:w3.cell? ⟨w.heap.size+1,1,none⟩=some xB:=Zq hY3;have y2:w3.cell? ⟨w.heap.size+1,2,none⟩=some xC:=Zq hY3;have y3:w3.cell? ⟨w.heap.size+1,3,none⟩=some (.slice Q L cq):=Zq hY3;have y4:w3.cell? ⟨w.heap.size+1,4,none⟩=some (.slice G L cg):=Zq hY3;have y5:w3.cell? ⟨w.heap.size+1,5,none⟩=some (.slice AE S ce):=Zq hY3;have hZ3':=hZ3;clear hX3 hY3 hZ3
   go_wp2_with fail
   clear z0 z1 z2 x0 x1 x2 y0 y1 y2 y3 y4 y5;with_reducible refine (HEY.out w3 HB3.out).mono ?_
   rintro r w4 ⟨rfl,hb4⟩;have HB4:=Zh (Zb HB3.out hb4);have hX4:=hX4'.below hb4 hX4'.lt;have hZ4:=hZ3'.below hb4 hZ3'.lt;clear hb4 HEY hX4' hZ3'
   have HSX:=Zh (show ∀ V,Below w4.heap.size w4 V→V.cell? ⟨w.heap.size,1,none⟩=some (.slice (some ⟨ab,ao,none⟩) m d)∧V.cell? ⟨w.heap.size+2,2,none⟩=some (.int .i64 b)∧V.cell? ⟨ab,ao+b*3+2,none⟩=some (.int .i64 z.2.2)∧V.cell? ⟨cb,co+kk,none⟩=some (.int .i64 v) from fun V hV=>by
    have hX':=hX4.below hV hX4.lt;have hZ':=hZ4.below hV hZ4.lt;exact ⟨Zq hX',Zq hZ',Zc (Zb HB4.out hV) (Zn _) HD2.out,Zc (Zb HB4.out hV) (Zn _) HCV.out⟩)
   clear hX4 hZ4
   go_wp2_with fail
   refine wp_region_held_drew (S:=fun V=>Below w4.heap.size w4 V) (by kernel_rfl) (Zr _ _).drew (fun _=>?_);refine tz 0 50 ?_;refine tz 1 51 ?_;refine tz 2 52 ?_;refine tz 3 53 ?_;refine tz 4 54 ?_;refine tz 5 55 ?_;refine tz 6 56 ?_;refine tz 7 57 ?_;refine tz 8 58 ?_;refine tz 9 59 ?_;refine tz 10 60 ?_;refine Zk 11 (fun K hK=>?_);go_simp;with_reducible refine (Qiz _ _ _ HVB.out HZW.out).mono ?_
   rintro r w' ⟨rfl,rfl⟩;go_simp;refine hK.out _ _ (Zr _ _).drew (fun _=>?_);clear hK K;refine tz 12 8 ?_;refine Zd ?_
   go_wp2_with fail
   go_ret
   exact ⟨⟨_,rfl,HPR.out⟩,HB4.out.drew⟩
end
end Go.Proofs.YteaoiabikjnkeaaGreatDoor
