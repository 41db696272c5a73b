/- Parts of the proof: AsA, Fx. -/
import Derived.Test.YteaoiabikjnkeaaGreatDoorM1
import Derived.Test.YteaoiabikjnkeaaGreatDoorM23
import Derived.Test.YteaoiabikjnkeaaGreatDoorM28
import Derived.Test.YteaoiabikjnkeaaGreatDoorM31
import Derived.Test.YteaoiabikjnkeaaGreatDoorM32
import Derived.Laws.StructEq
namespace Go.Proofs.YteaoiabikjnkeaaGreatDoor
open Go.RowKit
attribute [local go_sem ↓] Go.wp_at_zero Go.wp_at_succ
set_option maxHeartbeats 1000000 in
theorem Qvh (xA xB xC xQ xG:Value)(AE:Option Addr)(S ce k e1 e2 e3 e4:Nat)(EL:List Ent)(w:World) (h:Rds w 4 AE S (Qej EL)) (hS:EL.length=S) (hS2:S≤1000000000) (hk:EL[k]?=some (e1,e2,e3,e4)) (hu:∀ i f,i<k→EL[i]?=some f→f≠(e1,e2,e3,e4)) :
 Calls Tryz.prog 108 #[.agg #[xA,xB,xC,xQ,xG,.slice AE S ce],.int .i64 ((e1:Int)+1),.int .i64 e2,.int .i64 e3,.int .i64 e4] w fun e w'=>e=.returned (.int .i64 k)∧Below w.heap.size w w':=by
 have hkS:k<S:=by rw [←hS]; exact (Zs hk).1
 have HE:=Zh h;have HK:=Zh hk;have HU:=Zh hu;have HS:=Zh hS;clear h hk hu hS
 go_enter Tryz.func108,Tryz.ntmps108
 go_wp2_with fail
 (refine Qaj ?_; intro w1 hw1)
 have HB1:=Zh (show Below w.heap.size w w1 by rw [hw1]; exact Qah)
 have HX:=Zh (show Blk w1 w.heap.size 40 #[xA,xB,xC,xQ,xG,.slice AE S ce] by rw [hw1]; refine Blk.new' _ _ _ ?_; rfl)
 clear hw1
 go_loopw [11] (fun q W=>∃ i:Nat,i≤k∧q=.int .i64 i∧Below w1.heap.size w1 W) (fun q _=>k+1-(intOf q).toNat)
 case atStart=>exact ⟨0,Nat.zero_le _,rfl,Zr _ _⟩
 case round =>
  obtain ⟨i,hi,rfl,hbl⟩:=hrel;have hXr:=HX.out.below hbl HX.out.lt;have HBL:=Zh (Zb HB1.out hbl);have x5:wr.cell? ⟨w.heap.size,5,none⟩=some (.slice AE S ce):=by rw [hXr.cell]; rfl
  obtain ⟨⟨il,iq,ia,ib⟩,he⟩:∃ e,EL[i]?=some e:=⟨_,Zg (by rw [HS.out]; omega)⟩;have hEr:=HE.out.below HBL.out;have hc:=fun (q:Nat) (u:Value) (hq:q<4) (hu:(Qhl (il,iq,ia,ib))[q]?=some u)=>hEr.2 (i*4+q) u (by rw [Qpq EL i _ he q hq]; exact hu)
  obtain ⟨eb,eo,rfl,c0⟩:=hc 0 _ (by omega) rfl;obtain ⟨_,_,g1,c1⟩:=hc 1 _ (by omega) rfl
  cases g1
  obtain ⟨_,_,g2,c2⟩:=hc 2 _ (by omega) rfl
  cases g2
  obtain ⟨_,_,g3,c3⟩:=hc 3 _ (by omega) rfl
  cases g3
  rw [←Nat.add_assoc] at c0 c1 c2 c3;rw [Nat.add_zero] at c0;simp only at c0 c1 c2 c3;have j1:(i:Int)<(S:Int):=by omega
  have j2:(0:Int)≤(i:Int):=by omega
  by_cases hlt:i<k
  · have hne:¬((il:Int)+1=(e1:Int)+1∧(iq:Int)=(e2:Int)∧(ia:Int)=(e3:Int)∧(ib:Int)=(e4:Int)):=fun ⟨g1,g2,g3,g4⟩=>by
     refine HU.out i _ hlt he ?_;rw [show il=e1 by omega,show iq=e2 by omega,show ia=e3 by omega,show ib=e4 by omega]
    clear he hEr hc hXr
    go_wp2_with fail
    all_goals (try exact absurd ⟨by omega,by omega,by omega,by omega⟩ hne)
    all_goals exact ⟨⟨i+1,by omega,by go_num,hbl⟩,by simp [intOf]; omega⟩
  · obtain rfl:i=k:=by omega
    have he':=HK.out;rw [he] at he'
    cases he'
    clear he hEr hc hXr
    go_wp2_with fail
    go_ret
    exact ⟨rfl,HBL.out⟩
theorem Qnw (Q:Option Addr)(L cq:Nat)(lv:Int)(w:World) (h:¬(1≤lv∧lv≤(L:Int))) :
 Calls Tryz.prog 104 #[.agg #[.slice Q L cq],.int .i64 lv] w fun r w'=>r=.returned (.bool false)∧Below w.heap.size w w':=by
 by_cases i1:1≤lv
 · have i2:¬lv≤(L:Int):=fun h2=>h ⟨i1,h2⟩
   clear h
   go_enter Tryz.func104,Tryz.ntmps104
   go_wp2
   go_ret
   exact ⟨Qbe (by first | (simp; done) | (simp; omega)),Qah⟩
 · clear h
   go_enter Tryz.func104,Tryz.ntmps104
   go_wp2
   go_ret
   exact ⟨Qbe (by first | (simp; done) | (simp; omega)),Qah⟩
set_option maxHeartbeats 2000000 in
theorem Qhn (A B C Q:Option Addr)(n m k c d e L cq:Nat)(N:Qao) (ls:List (List Int)) (lv a:Int) (w:World) (h:Qbv w A B C n m k N) (hok:Qau N) (hq:RdT w Q L ls) (hP:Qay N.vs.length ls) :
 Calls Tryz.prog 105 #[.agg #[.slice A n c,.slice B m d,.slice C k e],.agg #[.slice Q L cq],.int .i64 lv,.int .i64 a] w fun r w'=>r=.returned (.int .i64 (enF N ls lv a))∧Below w.heap.size w w':=by
 have hL6:L≤6:=by rw [←hq.1]; exact hP.l6
 have HLL:=Zh hq.1;have HM:=Zh h.2.1.1;have hm:m≤16384:=by rw [←h.2.1.1]; exact hok.la
 have HH:=Zh h;have HT:=Zh hq;have HOK:=Zh hok;have HP:=Zh hP;clear h hok hq hP
 by_cases hr:1≤lv∧lv≤(L:Int)
 rotate_left
 · have HZ:=Zh (show enF N ls lv a = -1 by unfold enF; rw [Qgh (fun h=>hr ⟨h.1,by rw [←HLL.out]; exact h.2.1⟩)])
   have HHA:=Zh (fun V=>Qnw Q L cq lv V hr);clear hr
   go_enter Tryz.func105,Tryz.ntmps105
   go_wp2_with fail
   (refine Qad ?_; intro w1 hw1)
   have HB1:=Zh (show Below w.heap.size w w1 by rw [hw1]; exact Qah)
   clear hw1;with_reducible refine (HHA.out w1).mono ?_
   rintro r w2 ⟨rfl,hb2⟩;have HB2:=Zh (Zb HB1.out hb2);clear hb2
   go_wp2_with fail
   go_ret
   rw [HZ.out];exact ⟨rfl,HB2.out⟩
 obtain ⟨j,rfl⟩:∃ j:Nat,lv=(j:Int)+1:=⟨(lv-1).toNat,by omega⟩;have hj:j<L:=by omega
 clear hr;obtain ⟨qb,qo,A1,n1,c1,l,rfl,hl,q1,q2,_,_⟩:=HT.out.at_ (i:=j) hj;have HLV:=Zh (HP.out.lvl l (Zm hl));obtain rfl:n1=N.vs.length:=by rw [←q2.1]; exact HLV.out.len
 have HQ1:=Zh q1;have HQ2:=Zh q2;have HL:=Zh hl;have HHA:=Zh (fun V=>Qic (some ⟨qb,qo,none⟩) L cq j V hj);have HCR:=Zh (fun V (hV:Below w.heap.size w V)=>Qhc A B C (some ⟨qb,qo,none⟩) n m k c d e L cq j N ls l V (HH.out.below hV) HOK.out (HT.out.below hV) hl HLV.out.len (by omega));have hcl:(Qav N.ar l).length≤16384:=Nat.le_trans (Qfh _ _) HOK.out.la;clear q1 q2
 go_enter Tryz.func105,Tryz.ntmps105
 go_wp2_with fail
 (refine Qad ?_; intro w1 hw1)
 have HB1:=Zh (show Below w.heap.size w w1 by rw [hw1]; exact Qah)
 have hX:Blk w1 w.heap.size 26 #[.slice A n c,.slice B m d,.slice C k e]:=by rw [hw1]; exact Qba
 have hY:Blk w1 (w.heap.size+1) 29 #[.slice (some ⟨qb,qo,none⟩) L cq]:=by rw [hw1]; exact Qba
 clear hw1 hl;with_reducible refine (HHA.out w1).mono ?_
 rintro r w2 ⟨rfl,hb2⟩;have hX2:=hX.below hb2 hX.lt;have hY2:=hY.below hb2 hY.lt;have HB2:=Zh (Zb HB1.out hb2);clear hb2 hX hY;obtain ⟨x0,x1,x2⟩:=hX2.three;have y0:=hY2.cell 0;simp only [List.getElem?_toArray,List.getElem?_cons_zero] at y0
 go_wp2_with fail
 with_reducible refine (HCR.out w2 HB2.out).mono ?_
 rintro r w3 ⟨A3,n3,c3,rfl,h3,_,hb3⟩;have HX3:=Zh (hX2.below hb3 hX2.lt);have HY3:=Zh (hY2.below hb3 hY2.lt);have HB3:=Zh (Zb HB2.out hb3);have HPL:=Zh (Qeb A3 n3 c3 _ a w3 h3 (by rw [←h3.1]; omega));clear hb3 h3 hX2 hY2 x0 x1 x2 y0
 go_wp2_with fail
 with_reducible refine HPL.out.mono ?_
 rintro r w' ⟨rfl,rfl⟩
 by_cases hin:a∈Qav N.ar l
 rotate_left
 · have HZ:=Zh (show enF N ls ((j:Int)+1) a = -1 by
    unfold enF
    cases hc:Qee N ls ((j:Int)+1) a with
    | none=>rfl
    | some p =>
     obtain ⟨j',b,l',y,ej,rfl,hl',hy,hne,_⟩:=Qfo hc;obtain rfl:j=j':=by omega
     rw [HL.out] at hl'
     cases hl'
     exact absurd (Qcx.2 ⟨b,y,rfl,hy,hne⟩) hin)
   rw [Qcm hin];clear hin
   go_wp2_with fail
   go_ret
   rw [HZ.out];exact ⟨rfl,HB3.out⟩
 obtain ⟨p,hp,_⟩:=Qfx hin;obtain ⟨i,y,rfl,hy,hne⟩:=Qcx.1 hin;rw [hp];have HZ:=Zh (show enF N ls ((j:Int)+1) (i:Int)=Qab l (y.2.1) by unfold enF; rw [Qea HL.out hy,if_neg hne])
 have him:i<m:=by rw [←HM.out]; exact (Zs hy).1
 obtain ⟨u,v,e1,e2,hu,hv⟩:=Qgc HOK.out hy;obtain ⟨ab,ao,rfl,d0,d1,d2⟩:=(HH.out.below HB3.out).2.1.2 i y hy;have hlen:=HLV.out.len;obtain ⟨lb,lo,z,rfl,hz,cz⟩:=(HQ2.out.below HB3.out).at_ (i:=v) (by omega);have HZZ:=Zh (show Qab l (y.2.1)=z by rw [e2]; exact Qap hz)
 have hqc:=Zc HB3.out (Zn _) HQ1.out;rw [e2] at d1;have i1:¬((p:Int)<0):=by omega
 have i5:(j:Int)+1-1=(j:Int):=by omega
 have i6:(j:Int)<(L:Int):=by omega
 have i7:(0:Int)≤(j:Int):=by omega
 have wl:IntKind.i64.wrap (j:Int)=(j:Int):=IntWalk.i64_in _ (by omega);have k1:(i:Int)<(m:Int):=by omega
 have k2:(0:Int)≤(i:Int):=by omega
 have k3:((v:Nat):Int)<(N.vs.length:Int):=by omega
 have k4:(0:Int)≤((v:Nat):Int):=by omega
 have HSX:=Zh (show ∀ V,Below w3.heap.size w3 V→V.cell? ⟨w.heap.size,1,none⟩=some (.slice (some ⟨ab,ao,none⟩) m d)∧V.cell? ⟨w.heap.size+1,0,none⟩=some (.slice (some ⟨qb,qo,none⟩) L cq)∧V.cell? ⟨qb,qo+j,none⟩=some (.slice (some ⟨lb,lo,none⟩) N.vs.length c1)∧V.cell? ⟨ab,ao+i*3+1,none⟩=some (.int .i64 (v:Nat))∧V.cell? ⟨lb,lo+v,none⟩=some (.int .i64 z) from
  fun V hV=>⟨by rw [(HX3.out.below hV HX3.out.lt).cell]; rfl,by rw [(HY3.out.below hV HY3.out.lt).cell]; rfl,Zc hV (Zn _) hqc,Zc hV (Zn _) d1,Zc hV (Zn _) cz⟩)
 clear hin hp hy hne e1 e2 d0 d1 d2 hz cz hqc hcl hlen
 go_wp2_with fail
 refine wp_region_held_drew (S:=fun V=>Below w3.heap.size w3 V) (by kernel_rfl) (Zr _ _).drew (fun _=>?_);refine tz 0 22 ?_;refine tz 1 23 ?_;refine tz 2 24 ?_;refine tz 3 25 ?_;refine tz 4 26 ?_;refine tz 5 27 ?_;refine tz 6 28 ?_;refine tz 7 29 ?_;refine tz 8 30 ?_;refine tz 9 31 ?_;refine tz 10 32 ?_;refine tz 11 33 ?_;refine tz 12 34 ?_;refine tz 13 35 ?_;refine tz 14 8 ?_;refine wpAnyH_done (by kernel_rfl) ?_ _
 go_wp2_with fail
 go_ret
 rw [HZ.out,HZZ.out];exact ⟨rfl,HB3.out.drew⟩
set_option maxHeartbeats 2000000 in
theorem Qhy (A B C Q:Option Addr)(n m k c d e L cq:Nat)(N:Qao) (ls:List (List Int)) (lv a:Int) (w:World) (h:Qbv w A B C n m k N) (hok:Qau N) (hq:RdT w Q L ls) (hP:Qay N.vs.length ls) :
 Calls Tryz.prog 106 #[.agg #[.slice A n c,.slice B m d,.slice C k e],.agg #[.slice Q L cq],.int .i64 lv,.int .i64 a] w fun r w'=>r=.returned (.int .i64 (leF N ls lv a))∧Below w.heap.size w w':=by
 have hL6:L≤6:=by rw [←hq.1]; exact hP.l6
 have HLL:=Zh hq.1;have HM:=Zh h.2.1.1;have hm:m≤16384:=by rw [←h.2.1.1]; exact hok.la
 have HH:=Zh h;have HT:=Zh hq;have HOK:=Zh hok;have HP:=Zh hP;clear h hok hq hP
 by_cases hr:1≤lv∧lv≤(L:Int)
 rotate_left
 · have HZ:=Zh (show leF N ls lv a = -1 by unfold leF; rw [Qgh (fun h=>hr ⟨h.1,by rw [←HLL.out]; exact h.2.1⟩)])
   have HHA:=Zh (fun V=>Qnw Q L cq lv V hr);clear hr
   go_enter Tryz.func106,Tryz.ntmps106
   go_wp2_with fail
   (refine Qad ?_; intro w1 hw1)
   have HB1:=Zh (show Below w.heap.size w w1 by rw [hw1]; exact Qah)
   clear hw1;with_reducible refine (HHA.out w1).mono ?_
   rintro r w2 ⟨rfl,hb2⟩;have HB2:=Zh (Zb HB1.out hb2);clear hb2
   go_wp2_with fail
   go_ret
   rw [HZ.out];exact ⟨rfl,HB2.out⟩
 obtain ⟨j,rfl⟩:∃ j:Nat,lv=(j:Int)+1:=⟨(lv-1).toNat,by omega⟩;have hj:j<L:=by omega
 clear hr;obtain ⟨qb,qo,A1,n1,c1,l,rfl,hl,q1,q2,_,_⟩:=HT.out.at_ (i:=j) hj;have HLV:=Zh (HP.out.lvl l (Zm hl));obtain rfl:n1=N.vs.length:=by rw [←q2.1]; exact HLV.out.len
 have HQ1:=Zh q1;have HQ2:=Zh q2;have HL:=Zh hl;have HHA:=Zh (fun V=>Qic (some ⟨qb,qo,none⟩) L cq j V hj);have HCR:=Zh (fun V (hV:Below w.heap.size w V)=>Qhc A B C (some ⟨qb,qo,none⟩) n m k c d e L cq j N ls l V (HH.out.below hV) HOK.out (HT.out.below hV) hl HLV.out.len (by omega));have hcl:(Qav N.ar l).length≤16384:=Nat.le_trans (Qfh _ _) HOK.out.la;clear q1 q2
 go_enter Tryz.func106,Tryz.ntmps106
 go_wp2_with fail
 (refine Qad ?_; intro w1 hw1)
 have HB1:=Zh (show Below w.heap.size w w1 by rw [hw1]; exact Qah)
 have hX:Blk w1 w.heap.size 26 #[.slice A n c,.slice B m d,.slice C k e]:=by rw [hw1]; exact Qba
 have hY:Blk w1 (w.heap.size+1) 29 #[.slice (some ⟨qb,qo,none⟩) L cq]:=by rw [hw1]; exact Qba
 clear hw1 hl;with_reducible refine (HHA.out w1).mono ?_
 rintro r w2 ⟨rfl,hb2⟩;have hX2:=hX.below hb2 hX.lt;have hY2:=hY.below hb2 hY.lt;have HB2:=Zh (Zb HB1.out hb2);clear hb2 hX hY;obtain ⟨x0,x1,x2⟩:=hX2.three;have y0:=hY2.cell 0;simp only [List.getElem?_toArray,List.getElem?_cons_zero] at y0
 go_wp2_with fail
 with_reducible refine (HCR.out w2 HB2.out).mono ?_
 rintro r w3 ⟨A3,n3,c3,rfl,h3,_,hb3⟩;have HX3:=Zh (hX2.below hb3 hX2.lt);have HY3:=Zh (hY2.below hb3 hY2.lt);have HB3:=Zh (Zb HB2.out hb3);have HPL:=Zh (Qeb A3 n3 c3 _ a w3 h3 (by rw [←h3.1]; omega));clear hb3 h3 hX2 hY2 x0 x1 x2 y0
 go_wp2_with fail
 with_reducible refine HPL.out.mono ?_
 rintro r w' ⟨rfl,rfl⟩
 by_cases hin:a∈Qav N.ar l
 rotate_left
 · have HZ:=Zh (show leF N ls ((j:Int)+1) a = -1 by
    unfold leF
    cases hc:Qee N ls ((j:Int)+1) a with
    | none=>rfl
    | some p =>
     obtain ⟨j',b,l',y,ej,rfl,hl',hy,hne,_⟩:=Qfo hc;obtain rfl:j=j':=by omega
     rw [HL.out] at hl'
     cases hl'
     exact absurd (Qcx.2 ⟨b,y,rfl,hy,hne⟩) hin)
   rw [Qcm hin];clear hin
   go_wp2_with fail
   go_ret
   rw [HZ.out];exact ⟨rfl,HB3.out⟩
 obtain ⟨p,hp,_⟩:=Qfx hin;obtain ⟨i,y,rfl,hy,hne⟩:=Qcx.1 hin;rw [hp];have HZ:=Zh (show leF N ls ((j:Int)+1) (i:Int)=Qab l (y.1) by unfold leF; rw [Qea HL.out hy,if_neg hne])
 have him:i<m:=by rw [←HM.out]; exact (Zs hy).1
 obtain ⟨u,v,e1,e2,hu,hv⟩:=Qgc HOK.out hy;obtain ⟨ab,ao,rfl,d0,d1,d2⟩:=(HH.out.below HB3.out).2.1.2 i y hy;have hlen:=HLV.out.len;obtain ⟨lb,lo,z,rfl,hz,cz⟩:=(HQ2.out.below HB3.out).at_ (i:=u) (by omega);have HZZ:=Zh (show Qab l (y.1)=z by rw [e1]; exact Qap hz)
 have hqc:=Zc HB3.out (Zn _) HQ1.out;rw [e1] at d0;have i1:¬((p:Int)<0):=by omega
 have i5:(j:Int)+1-1=(j:Int):=by omega
 have i6:(j:Int)<(L:Int):=by omega
 have i7:(0:Int)≤(j:Int):=by omega
 have wl:IntKind.i64.wrap (j:Int)=(j:Int):=IntWalk.i64_in _ (by omega);have k1:(i:Int)<(m:Int):=by omega
 have k2:(0:Int)≤(i:Int):=by omega
 have k3:((u:Nat):Int)<(N.vs.length:Int):=by omega
 have k4:(0:Int)≤((u:Nat):Int):=by omega
 have HSX:=Zh (show ∀ V,Below w3.heap.size w3 V→V.cell? ⟨w.heap.size,1,none⟩=some (.slice (some ⟨ab,ao,none⟩) m d)∧V.cell? ⟨w.heap.size+1,0,none⟩=some (.slice (some ⟨qb,qo,none⟩) L cq)∧V.cell? ⟨qb,qo+j,none⟩=some (.slice (some ⟨lb,lo,none⟩) N.vs.length c1)∧V.cell? ⟨ab,ao+i*3,none⟩=some (.int .i64 (u:Nat))∧V.cell? ⟨lb,lo+u,none⟩=some (.int .i64 z) from
  fun V hV=>⟨by rw [(HX3.out.below hV HX3.out.lt).cell]; rfl,by rw [(HY3.out.below hV HY3.out.lt).cell]; rfl,Zc hV (Zn _) hqc,Zc hV (Zn _) d0,Zc hV (Zn _) cz⟩)
 clear hin hp hy hne e1 e2 d0 d1 d2 hz cz hqc hcl hlen
 go_wp2_with fail
 refine wp_region_held_drew (S:=fun V=>Below w3.heap.size w3 V) (by kernel_rfl) (Zr _ _).drew (fun _=>?_);refine tz 0 22 ?_;refine tz 1 23 ?_;refine tz 2 24 ?_;refine tz 3 25 ?_;refine tz 4 26 ?_;refine tz 5 27 ?_;refine tz 6 28 ?_;refine tz 7 29 ?_;refine tz 8 30 ?_;refine tz 9 31 ?_;refine tz 10 32 ?_;refine tz 11 33 ?_;refine tz 12 34 ?_;refine tz 13 35 ?_;refine tz 14 8 ?_;refine wpAnyH_done (by kernel_rfl) ?_ _
 go_wp2_with fail
 go_ret
 rw [HZ.out,HZZ.out];exact ⟨rfl,HB3.out.drew⟩
theorem RdW.keepB {w w':World}{A:Option Addr}{n:Nat} {l:List (ByteArray×Int)} (h:RdW w A n l) (hk:∀ b,Qac A=some b→w'.heap[b]?=w.heap[b]?):RdW w' A n l :=
 ⟨h.1,fun i x hx=>by
  obtain ⟨b,o,e,h1,h2⟩:=h.2 i x hx;have hb:=hk b (by rw [e]; rfl);exact ⟨b,o,e,Qdk hb h1,Qdk hb h2⟩⟩
theorem RdW.setFar {W:World}{A:Option Addr}{n:Nat} {l:List (ByteArray×Int)} (h:RdW W A n l) (g i:Nat) (v:Value) (hne:∀ b,Qac A=some b→b≠g∧b<W.heap.size):RdW (W.setCell ⟨g,i,none⟩ v) A n l :=
 h.keepB (fun b e=>(Qbi.set W g i v (G:=fun b=>b≠g) (fun h=>h rfl)) b (hne b e).1 (hne b e).2)
theorem Qri (s:ByteArray)(k c:Int)(w:World):Calls Tryz.prog 50 #[.string s,.int .i64 k,.int .i64 c] w fun e w'=>∃ A n m,e=.returned (.agg #[.slice A n m,.int .i64 c])∧RdW w' A n [(s,k)]∧(∀ b,Qac A=some b→w.heap.size≤b∧b<w'.heap.size)∧n≤1000000∧Below w.heap.size w w':=by
 go_enter Tryz.func50,Tryz.ntmps50
 go_wp2
 refine bodyPost_ret (v:=.agg #[.slice (some ⟨w.heap.size+1,0,none⟩) 1 1,.int .i64 c]) (by simp [results,Tryz.results50,go_sem]) rfl ?_;refine ⟨_,1,1,rfl,⟨rfl,fun i x hx=>?_⟩,fun b e=>?_,by omega,Qah⟩
 · match i,hx with
   | 0,hx=>cases hx; exact ⟨_,_,rfl,by simp,by simp⟩
   | i+1,hx=>simp at hx
 · have e:w.heap.size+1=b:=Option.some.inj e
   subst e;exact ⟨by omega,by simp⟩
theorem Qfn (A B C:Option Addr)(n m k c d e:Nat)(a:Int)(w:World) (h1:¬(0≤a∧a<m)) :
 Calls Tryz.prog 40 #[.agg #[.slice A n c,.slice B m d,.slice C k e],.int .i64 a] w fun r w'=>r=.returned (.bool false)∧Below w.heap.size w w':=by
 by_cases h0:0≤a
 · have h2:¬a<m:=by omega
   clear h1
   go_enter Tryz.func40,Tryz.ntmps40
   go_wp2
   go_ret
   exact ⟨Qbe (by first | (simp; done) | (simp; omega)),Qah⟩
 · clear h1
   go_enter Tryz.func40,Tryz.ntmps40
   go_wp2
   go_ret
   exact ⟨Qbe (by first | (simp; done) | (simp; omega)),Qah⟩
end Go.Proofs.YteaoiabikjnkeaaGreatDoor
