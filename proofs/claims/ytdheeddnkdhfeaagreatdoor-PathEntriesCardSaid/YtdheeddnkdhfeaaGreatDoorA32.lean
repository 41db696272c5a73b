/- Parts of the proof: AsA, Yw, Fx, AsB, Yx. -/
import Derived.Test.YtdheeddnkdhfeaaGreatDoorA29
import Derived.Test.YtdheeddnkdhfeaaGreatDoorA30
import Derived.Laws.StructEq
namespace Go.Proofs.YtdheeddnkdhfeaaGreatDoor
open Go.RowKit Go.Proofs.Tryz
attribute [local go_sem ↓] Go.wp_at_zero Go.wp_at_succ
theorem Qvr (Q:Option Addr)(L cq:Nat)(lv:Int)(w:World) (h:¬(1≤lv∧lv≤(L:Int))) :
 Calls prog 67 #[.agg #[.slice Q L cq],.int .i64 lv] w fun r w'=>r=.returned (.bool false)∧Below w.heap.size w w':=by
 by_cases i1:1≤lv
 · have i2:¬lv≤(L:Int):=fun h2=>h ⟨i1,h2⟩
   clear h
   go_enter func67,ntmps67
   exact Kbn
 · clear h
   go_enter func67,ntmps67
   exact Kbn
set_option maxHeartbeats 2000000 in
theorem Qmu (A B C Q:Option Addr)(n m k c d e L cq:Nat)(N:Qam) (ls:List (List Int)) (lv a:Int) (w:World) (h:Qce w A B C n m k N) (hok:Qap N) (hq:RdT w Q L ls) (hP:Qaw N.vs.length ls) :
 Calls prog 68 #[.agg #[.slice A n c,.slice B m d,.slice C k e],.agg #[.slice Q L cq],.int .i64 lv,.int .i64 a] w fun r w'=>r=.returned (.int .i64 (enF N ls lv a))∧Below w.heap.size w w':=by
 have hL6:L≤6:=by rw [←hq.1];exact hP.l6
 have HLL:=Zh hq.1;have HM:=Zh h.2.1.1;have hm:m≤16384:=by rw [←h.2.1.1];exact hok.la
 have HH:=Zh h;have HT:=Zh hq;have HOK:=Zh hok;have HP:=Zh hP;clear h hok hq hP
 by_cases hr:1≤lv∧lv≤(L:Int)
 rotate_left
 · have HZ:=Zh (show enF N ls lv a = -1 by unfold enF;rw [Qii (fun h=>hr ⟨h.1,by rw [←HLL.out];exact h.2.1⟩)])
   have HHA:=Zh (fun V=>Qvr Q L cq lv V hr);clear hr
   go_enter func68,ntmps68
   go_wp2_with fail
   (refine Qae ?_;intro w1 hw1)
   have HB1:=Zh (show Below w.heap.size w w1 by rw [hw1];exact Qah)
   clear hw1;with_reducible refine (HHA.out w1).mono ?_
   rintro r w2 ⟨rfl,hb2⟩;have HB2:=Zh (Zb HB1.out hb2);clear hb2
   go_wp2_with fail
   go_ret
   rw [HZ.out];exact ⟨rfl,HB2.out⟩
 obtain ⟨j,rfl⟩:∃ j:Nat,lv=(j:Int)+1:=⟨(lv-1).toNat,by omega⟩;have hj:j<L:=by omega
 clear hr;obtain ⟨qb,qo,A1,n1,c1,l,rfl,hl,q1,q2,_,_⟩:=HT.out.at_ (i:=j) hj;have HLV:=Zh (HP.out.lvl l (Zm hl));obtain rfl:n1=N.vs.length:=by rw [←q2.1];exact HLV.out.len
 have HQ1:=Zh q1;have HQ2:=Zh q2;have HL:=Zh hl;have HHA:=Zh (fun V=>Qhm (some ⟨qb,qo,none⟩) L cq j V hj);have HCR:=Zh (fun V (hV:Below w.heap.size w V)=>Qka A B C (some ⟨qb,qo,none⟩) n m k c d e L cq j N ls l V (HH.out.below hV) HOK.out (HT.out.below hV) hl HLV.out.len (by omega));have hcl:(Qas N.ar l).length≤16384:=Yx (Qgl _ _) HOK.out.la;clear q1 q2
 go_enter func68,ntmps68
 go_wp2_with fail
 (refine Qae ?_;intro w1 hw1)
 have HB1:=Zh (show Below w.heap.size w w1 by rw [hw1];exact Qah)
 have hX:Blk w1 w.heap.size 26 #[.slice A n c,.slice B m d,.slice C k e]:=by rw [hw1];exact Qbh
 have hY:Blk w1 (w.heap.size+1) 29 #[.slice (some ⟨qb,qo,none⟩) L cq]:=by rw [hw1];exact Qbh
 clear hw1 hl;with_reducible refine (HHA.out w1).mono ?_
 rintro r w2 ⟨rfl,hb2⟩;have hX2:=hX.below hb2 hX.lt;have hY2:=hY.below hb2 hY.lt;have HB2:=Zh (Zb HB1.out hb2);clear hb2 hX hY;obtain ⟨x0,x1,x2⟩:=hX2.three;have y0:=hY2.cell 0;simp only [Yo,Yn] at y0
 go_wp2_with fail
 with_reducible refine (HCR.out w2 HB2.out).mono ?_
 rintro r w3 ⟨A3,n3,c3,rfl,h3,_,hb3⟩;have HX3:=Zh (hX2.below hb3 hX2.lt);have HY3:=Zh (hY2.below hb3 hY2.lt);have HB3:=Zh (Zb HB2.out hb3);have HPL:=Zh (Qju A3 n3 c3 _ a w3 h3 (by rw [←h3.1];omega));clear hb3 h3 hX2 hY2 x0 x1 x2 y0
 go_wp2_with fail
 with_reducible refine HPL.out.mono ?_
 rintro r w' ⟨rfl,rfl⟩
 by_cases hin:a∈Qas N.ar l
 rotate_left
 · have HZ:=Zh (show enF N ls ((j:Int)+1) a = -1 by
    unfold enF
    cases hc:Qeo N ls ((j:Int)+1) a with
    | none=>rfl
    | some p =>
     obtain ⟨j',b,l',y,ej,rfl,hl',hy,hne,_⟩:=Qgw hc;obtain rfl:j=j':=by omega
     rw [HL.out] at hl'
     cases hl'
     exact absurd (Qec.2 ⟨b,y,rfl,hy,hne⟩) hin)
   rw [Qct hin];clear hin
   go_wp2_with fail
   go_ret
   rw [HZ.out];exact ⟨rfl,HB3.out⟩
 obtain ⟨p,hp,_⟩:=Qha hin;obtain ⟨i,y,rfl,hy,hne⟩:=Qec.1 hin;rw [hp];have HZ:=Zh (show enF N ls ((j:Int)+1) (i:Int)=Qaa l (y.2.1) by unfold enF;rw [Qfd HL.out hy,if_neg hne])
 have him:i<m:=by rw [←HM.out];exact (Zs hy).1
 obtain ⟨u,v,e1,e2,hu,hv⟩:=Qdi HOK.out hy;obtain ⟨ab,ao,rfl,d0,d1,d2⟩:=(HH.out.below HB3.out).2.1.2 i y hy;have hlen:=HLV.out.len;obtain ⟨lb,lo,z,rfl,hz,cz⟩:=(HQ2.out.below HB3.out).at_ (i:=v) (by omega);have HZZ:=Zh (show Qaa l (y.2.1)=z by rw [e2];exact Qbb hz)
 have hqc:=Zc HB3.out (Zn _) HQ1.out;rw [e2] at d1;have i1:¬((p:Int)<0):=by omega
 have i5:(j:Int)+1-1=(j:Int):=by omega
 have i6:(j:Int)<(L:Int):=by omega
 have i7:(0:Int)≤(j:Int):=by omega
 have wl:IntKind.i64.wrap (j:Int)=(j:Int):=IntWalk.i64_in _ (by omega);have k1:(i:Int)<(m:Int):=by omega
 have k2:(0:Int)≤(i:Int):=by omega
 have k3:((v:Nat):Int)<(N.vs.length:Int):=by omega
 have k4:(0:Int)≤((v:Nat):Int):=by omega
 have HSX:=Zh (show ∀ V,Below w3.heap.size w3 V→V.cell? ⟨w.heap.size,1,none⟩=some (.slice (some ⟨ab,ao,none⟩) m d)∧V.cell? ⟨w.heap.size+1,0,none⟩=some (.slice (some ⟨qb,qo,none⟩) L cq)∧V.cell? ⟨qb,qo+j,none⟩=some (.slice (some ⟨lb,lo,none⟩) N.vs.length c1)∧V.cell? ⟨ab,ao+i*3+1,none⟩=some (.int .i64 (v:Nat))∧V.cell? ⟨lb,lo+v,none⟩=some (.int .i64 z) from
  fun V hV=>⟨by rw [(HX3.out.below hV HX3.out.lt).cell];rfl,by rw [(HY3.out.below hV HY3.out.lt).cell];rfl,Zc hV (Zn _) hqc,Zc hV (Zn _) d1,Zc hV (Zn _) cz⟩)
 clear hin hp hy hne e1 e2 d0 d1 d2 hz cz hqc hcl hlen
 go_wp2_with fail
 refine wp_region_held_drew (S:=fun V=>Below w3.heap.size w3 V) (by kernel_rfl) (Zr _ _).drew (fun _=>?_);refine tz 0 22 ?_;refine tz 1 23 ?_;refine tz 2 24 ?_;refine tz 3 25 ?_;refine tz 4 26 ?_;refine tz 5 27 ?_;refine tz 6 28 ?_;refine tz 7 29 ?_;refine tz 8 30 ?_;refine tz 9 31 ?_;refine tz 10 32 ?_;refine tz 11 33 ?_;refine tz 12 34 ?_;refine tz 13 35 ?_;refine tz 14 8 ?_;refine Zd ?_
 go_wp2_with fail
 go_ret
 rw [HZ.out,HZZ.out];exact ⟨rfl,HB3.out.drew⟩
def DlI (N:Qam)(mk:List Bool)(a:Nat)(l':List Nat)(nx:Nat)(v:Int)(i:Nat)(S:Int):Prop :=
 (i=0∧S=0)∨(∃ I p,i=I+1∧I≤l'.length∧(a::l')[I]?=some p∧Qdg (StA N mk) a p S (l'.take I))∨(i=nx∧S=v)
section
variable (w:World) (A B C Q:Option Addr) (n m k c d e L cq:Nat) (N:Qam) (ls:List (List Int)) (xA xB xC xG xE:Value) (X:Option Addr) (nx cx a b j:Nat) (cc v:Int) (l:List Int) (L':List Nat)
set_option maxRecDepth 20000 in
set_option maxHeartbeats 4000000 in
theorem Qtn (h:Qce w A B C n m k N)(hok:Qap N)(hq:RdT w Q L ls)(hP:Qaw N.vs.length ls) (hl:ls[j]?=some l) (he:enF N ls ((j:Int)+1) (a:Int)=cc) (ho:Opn N (Qbv l cc) a b v L') (hv:v≤70375186628608) (hX:RdI w X nx (nis (a::L'))) (hn:nx≤1000000000) (ha:a<N.ar.length) :
 Calls prog 24 #[.agg #[.slice A n c,.slice B m d,.slice C k e],.agg #[xA,xB,xC,.slice Q L cq,xG,xE],.int .i64 ((j:Int)+1),.int .i64 a,.int .i64 b,.int .i64 v,.slice X nx cx] w fun r w'=>r=.returned (.bool true)∧Below w.heap.size w w':=by
 have hm:m=N.ar.length:=h.2.1.1.symm;have hL6:L≤6:=by rw [←hq.1];exact hP.l6
 obtain ⟨⟨p9,c9,e9,l',hr9,ho9,rfl,rfl⟩,hnd⟩:=ho;have hnx:nx=l'.length+2:=by have:=hX.1;rw [Qck] at this;simp at this;omega
 have hpos:∀ p q d,StW N p q d→0≤d:=fun p q d h=>(h.bd hok).1
 have hlt:b<N.ar.length:=Opn.lt (v:=c9+e9) ⟨⟨p9,c9,e9,l',hr9,ho9,rfl,rfl⟩,hnd⟩ b (by simp)
 have HEL:=Zh (show ∀ (i q:Nat),(a::(l' ++[b]))[i]?=some q→∃ y,N.ar[q]?=some y from fun i q hq=>by
  cases i with
  | zero=>cases hq;exact ⟨_,Zg ha⟩
  | succ i =>
   rw [List.getElem?_cons_succ] at hq;exact ⟨_,Zg (Opn.lt (v:=c9+e9) ⟨⟨p9,c9,e9,l',hr9,ho9,rfl,rfl⟩,hnd⟩ q (Zm hq))⟩)
 have HPR:=Zh (show ∀ (i p q:Nat) (c1:Int),(a::l')[i]?=some p→l'[i]?=some q→Qdg (StA N (Qbv l cc)) a p c1 (l'.take i)→∃ y,N.ar[q]?=some y∧(Qaq N p q≠1152921504606846976∧0≤Qaq N p q∧Qaq N p q≤2147483648)∧(y.2.2≠1152921504606846976∧0≤y.2.2∧y.2.2≤2147483648)∧((Qbv l cc).getD y.1.toNat false=true∧(Qbv l cc).getD y.2.1.toNat false=true)∧0≤c1∧c1+(Qaq N p q+y.2.2)≤c9∧Qdg (StA N (Qbv l cc)) a q (c1+Qaq N p q+y.2.2) (l'.take (i+1)) from fun i p q c1 hp hq hr1=>by
  obtain ⟨p',c',d',g1,g2,g3⟩:=hr9.pair i q hq;rw [hp] at g1
  cases g1
  obtain ⟨y,hy,h1,h2,h3,h4,rfl⟩:=g3;have g3:StA N (Qbv l cc) p q (Qaq N p q+y.2.2):=⟨y,hy,h1,h2,h3,h4,rfl⟩
  have hr2:Qdg (StA N (Qbv l cc)) a q (c1+Qaq N p q+y.2.2) (l'.take (i+1)):=by
   rw [Qhq hq,Int.add_assoc];exact hr1.step g3
  have hr9':=hr9.mono (fun _ _ _ h=>h.all);obtain ⟨c3,c4,g5,g6,rfl⟩:=hr9'.at_ (i+1) q (by rw [List.getElem?_cons_succ];exact hq);obtain ⟨_,e⟩:=(hr2.mono (fun _ _ _ h=>h.all)).fn (fun _ _ _ _ a b=>a.fn b) g5;have h5:=g6.rch.pos hpos;have h6:=(hr1.mono (fun _ _ _ h=>h.all)).rch.pos hpos;have ht:=(Qcu hok p q).resolve_left h1;have hw:=(Qdq (hok.arcs y (Zm hy)).w).resolve_left h2;exact ⟨y,hy,⟨h1,ht⟩,⟨h2,hw⟩,⟨h3,h4⟩,h6,by omega,hr2⟩)
 have HPOS:=Zh (show c9+e9≤70375186628608∧0≤e9 from ⟨hv,by have:=(Qcu hok p9 b).resolve_left ho9.1;have:=ho9.2;omega⟩)
 have HLAST:=Zh (show ∀ (p:Nat) (c1:Int),Qdg (StA N (Qbv l cc)) a p c1 l'→(Qaq N p b≠1152921504606846976∧0≤Qaq N p b∧Qaq N p b≤2147483648)∧0≤c1∧c1+Qaq N p b=c9+e9 from fun p c1 g=>by
  obtain ⟨rfl,rfl⟩:=(hr9.mono (fun _ _ _ h=>h.all)).fn (fun _ _ _ _ a b=>a.fn b) (g.mono (fun _ _ _ h=>h.all));obtain ⟨h1,h2⟩:=ho9;exact ⟨⟨h1,(Qcu hok _ b).resolve_left h1⟩,(g.mono (fun _ _ _ h=>h.all)).rch.pos hpos,by rw [h2]⟩)
 obtain ⟨l0,hl0⟩:∃ l0,ls[0]?=some l0:=⟨_,Zg (by have:=(Zs hl).1;omega)⟩;have hn4:n≤4096:=by rw [←h.1.1];exact hok.lv
 have HTU:=Zh (fun V (hV:Below w.heap.size w V) a b x y hx hy=>Qik A B C n m k c d e N a b x y V (h.below hV) hok hx hy);have HEN:=Zh (fun V (hV:Below w.heap.size w V)=>he▸Qmu A B C Q n m k c d e L cq N ls ((j:Int)+1) (a:Int) V (h.below hV) hok (hq.below hV) hP);have HMK:=Zh (fun V (hV:Below w.heap.size w V)=>Qqn Q L cq j n cc ls l l0 V (hq.below hV) hl (by omega) hl0 (by rw [(hP.lvl l (Zm hl)).len];exact h.1.1) (by rw [(hP.lvl l0 (Zm hl0)).len];exact h.1.1) (by omega));obtain ⟨xb,xo,rfl,x0⟩:=hX.2 0 (a:Int) (Qcd rfl);obtain ⟨_,_,e8,x1⟩:=hX.2 (l'.length+1) (b:Int) (Qcd (by rw [List.getElem?_cons_succ,Yb (Zn _),Yy];rfl))
 cases e8
 rw [Nat.add_zero] at x0;have HH:=Zh h;have HX:=Zh hX;have HM:=Zh hm;have HNX:=Zh hnx;have HOK:=Zh hok;have f1:¬((nx:Int)<2):=by omega
 have f2:(nx:Int)-1=((l'.length+1:Nat):Int):=by omega
 have f3:IntKind.i64.wrap ((l'.length+1:Nat):Int)=((l'.length+1:Nat):Int):=IntWalk.i64_in _ (by omega);have f4:((l'.length+1:Nat):Int)<(nx:Int):=by omega
 have f5:0<nx:=by omega
 have f6:(0:Int)≤((l'.length+1:Nat):Int):=by omega
 obtain ⟨I9,hI9⟩:∃ I9,I9=l'.length+1:=⟨_,rfl⟩;rw [←hI9] at f2 f3 f4 f6 x1;have HI9:=Zh hI9;clear h hok hr9 ho9 hX hm hnx hpos hnd hlt hl0 he hl hq hP hI9;have z0:∀ o1 o2,((w.alloc o1).alloc o2).cell? ⟨xb,xo,none⟩=some (.int .i64 (a:Int)):=fun o1 o2=>Zc (B:=w.heap.size) Qah (Zn _) x0
 have z1:∀ o1 o2,((w.alloc o1).alloc o2).cell? ⟨xb,xo+I9,none⟩=some (.int .i64 (b:Int)):=fun o1 o2=>Zc (B:=w.heap.size) Qah (Zn _) x1
 go_enter func24,ntmps24
 go_wp2_with fail
 (refine Qai ?_;intro w1 hw1)
 have hb1:Below w.heap.size w w1:=by rw [hw1];exact Qah
 have HJ1:=Zh (show Blk w1 w.heap.size 26 #[.slice A n c,.slice B m d,.slice C k e] by rw [hw1];exact Qbh)
 have HO1:=Zh (show Blk w1 (w.heap.size+1) 57 #[xA,xB,xC,.slice Q L cq,xG,xE] by rw [hw1];exact Qbh)
 have HSX:=Zh (show ∀ V,Below w1.heap.size w1 V→V.cell? ⟨w.heap.size,0,none⟩=some (.slice A n c)∧V.cell? ⟨w.heap.size,1,none⟩=some (.slice B m d)∧V.cell? ⟨w.heap.size,2,none⟩=some (.slice C k e)∧V.cell? ⟨w.heap.size+1,3,none⟩=some (.slice Q L cq) from fun V hV=>by
  have h1:=HJ1.out.below hV HJ1.out.lt;have h2:=HO1.out.below hV HO1.out.lt;exact ⟨Zq h1,Zq h1,Zq h1,Zq h2⟩)
 clear hw1 x0 x1 z0 z1 f1 f2 f3 f4 f6;refine wp_region_held_drew (S:=fun V=>Below w1.heap.size w1 V) (by kernel_rfl) (Zr _ _).drew (fun _=>?_);refine tz 0 40 ?_;refine tz 1 41 ?_;refine tz 2 42 ?_;refine tz 3 43 ?_;refine tz 4 44 ?_;refine tz 5 45 ?_;refine tz 6 46 ?_;refine tz 7 47 ?_;refine Zk 8 (fun K hK=>?_);go_simp;with_reducible refine (HEN.out _ (Zb hb1 (Zr _ _).drew)).mono ?_
 rintro r w2 ⟨rfl,hb2⟩;have hb2':Below w1.heap.size w1 w2:=(Zr _ _).drew.trans hb2;go_simp;refine hK.out _ _ hb2' (fun _=>?_);clear hK K;refine Zk 9 (fun K hK=>?_);go_simp;with_reducible refine (HMK.out w2 (Zb hb1 hb2')).mono ?_
 rintro r w3 ⟨mb,rfl,hmb,hmz,hb3⟩;have hb3':Below w1.heap.size w1 w3:=Zb hb2' hb3;go_simp;refine hK.out _ _ hb3' (fun _=>?_);clear hK K;refine tz 10 15 ?_;refine Zd ?_;have HB3:=Zh (Zb hb1 hb3');have HJ:=Zh (HJ1.out.below hb3' HJ1.out.lt);have HMB:=Zh hmb;clear HSX hb1 hb2 hb2' hb3 hb3' hmb hmz HEN HMK HO1 HJ1
 go_wp2_with fail
 go_loopw [16,17] (fun us ui W=>∃ (i:Nat) (S:Int),i≤nx∧ui=.int .i64 i∧us=.int .i64 S∧Hid (DlI N (Qbv l cc) a l' nx (c9+e9) i S)∧Below w3.heap.size w3 W) (fun _ ui _=>nx-(intOf ui).toNat)
 case atStart=>exact ⟨0,0,Nat.zero_le _,rfl,rfl,Zh (.inl ⟨rfl,rfl⟩),Zr _ _⟩
 case round =>
  obtain ⟨i,S,hi,rfl,rfl,HI,hbl⟩:=hrel;have HBL:=Zh hbl
  by_cases hlt:i<nx
  rotate_left
  · obtain rfl:i=nx:=by omega
    have j2:¬((i:Int)<(i:Int)):=by omega
    have HS:=Zh (show S=c9+e9 from by
     rcases HI.out with ⟨h1,_⟩|⟨I,p,h1,h2,_⟩|⟨_,h1⟩
     · omega
     · have:=HNX.out;omega
     · exact h1)
    clear hbl;have hS:=HS.out
    go_wp2_with fail
    go_ret
    exact ⟨rfl,Zb HB3.out HBL.out⟩
  obtain ⟨q,hq⟩:∃ q,(a::(l' ++[b]))[i]?=some q:=⟨_,Zg (by simp only [List.length_cons,Yp,List.length_nil];have:=HNX.out;omega)⟩;obtain ⟨y,hy⟩:=HEL.out i q hq;obtain ⟨_,_,e9,x0⟩:=HX.out.2 i (q:Int) (Qcd hq)
  cases e9
  have hqm:q<m:=by rw [HM.out];exact (Zs hy).1
  have hbw:=Zb HB3.out hbl;obtain ⟨ab,ao,hB,d0,d1,d2⟩:=(HH.out.below hbw).2.1.2 q y hy;subst hB;have j1:(i:Int)<(nx:Int):=by omega
  have j2:(0:Int)≤(i:Int):=by omega
  have j3:(q:Int)<(m:Int):=by omega
  have j4:(0:Int)≤(q:Int):=by omega
  have HY:=Zh hy
  have HSX:=Zh (show ∀ V,Below wr.heap.size wr V→V.cell? ⟨w.heap.size,0,none⟩=some (.slice A n c)∧V.cell? ⟨w.heap.size,1,none⟩=some (.slice (some ⟨ab,ao,none⟩) m d)∧V.cell? ⟨w.heap.size,2,none⟩=some (.slice C k e)∧V.cell? ⟨xb,xo+i,none⟩=some (.int .i64 (q:Int))∧V.cell? ⟨ab,ao+q*3,none⟩=some (.int .i64 y.1)∧V.cell? ⟨ab,ao+q*3+1,none⟩=some (.int .i64 y.2.1)∧V.cell? ⟨ab,ao+q*3+2,none⟩=some (.int .i64 y.2.2) from fun V hV=>by
   have hJ:=HJ.out.below (Zb HBL.out hV) HJ.out.lt;exact ⟨Zq hJ,Zq hJ,Zq hJ,Zc (Zb hbw hV) (Zn _) x0,Zc hV (Zn _) d0,Zc hV (Zn _) d1,Zc hV (Zn _) d2⟩)
  have HBW:=Zh hbw;clear hbl hbw x0 d0 d1 d2 hy
  rcases HI.out with ⟨h1,h2⟩|⟨I,p,h1,h2,hp,hrc⟩|⟨h1,_⟩
  · subst h1
    subst h2;clear hq;have HSY:=Zh (fun V hV=>by have h:=HSX.out V hV;rw [Nat.add_zero] at h;exact h);clear HSX;have HSX:=HSY;clear HSY HI
    go_wp2_with fail
    refine wp_region_held_drew (S:=fun V=>Below wr.heap.size wr V) (by kernel_rfl) (Zr _ _).drew (fun _=>?_);refine tz 0 56 ?_;refine tz 1 57 ?_;refine tz 2 58 ?_;refine tz 3 59 ?_;refine tz 4 60 ?_;refine Zk 5 (fun K hK=>?_);go_simp;with_reducible refine (Qcw A (some ⟨ab,ao,none⟩) C n m k c d e q _ (by omega) (by omega)).mono ?_
    rintro r w6 ⟨rfl,hb6⟩;have hb6':Below wr.heap.size wr w6:=(Zr _ _).drew.trans hb6;go_simp;refine hK.out _ _ hb6' (fun _=>?_);clear hK K;refine tz 6 62 ?_;refine Zd ?_;have HB6:=Zh (Zb HBL.out hb6');clear HSX hb6 hb6'
    go_wp2_with fail
    go_roundw
    case rel=>exact ⟨1,0,by omega,by go_num,rfl,Zh (.inr (.inl ⟨0,a,rfl,Nat.zero_le _,rfl,.start⟩)),HB6.out⟩
    case measure=>simp [intOf];omega
  · subst h1
    have hpR:(a::(l' ++[b]))[I]?=some p:=by
     rw [←List.cons_append,Yc (by rw [List.length_cons];omega)];exact hp
    obtain ⟨x,hx⟩:=HEL.out I p hpR;obtain ⟨_,_,e9,x1⟩:=HX.out.2 I (p:Int) (Qcd hpR)
    cases e9
    obtain ⟨T,hT⟩:∃ T,T=Qaq N p q:=⟨_,rfl⟩;have HTQ:=Zh (fun V (hV:Below wr.heap.size wr V)=>hT▸HTU.out V (Zb HBW.out hV) p q x y hx HY.out);have HX1:=Zh (show ∀ V,Below wr.heap.size wr V→V.cell? ⟨xb,xo+I,none⟩=some (.int .i64 (p:Int)) from fun V hV=>Zc (Zb HBW.out hV) (Zn _) x1)
    have j5:((I+1:Nat):Int)-1=(I:Int):=by omega
    have j6:decide (0<I+1)=true:=by simp
    have j6b:0<I+1:=by omega
    have j7:(I:Int)<(nx:Int):=by omega
    have j8:(0:Int)≤(I:Int):=by omega
    have wl:IntKind.i64.wrap (I:Int)=(I:Int):=IntWalk.i64_in _ (by omega);obtain ⟨J,hJ⟩:∃ J,J=I+1:=⟨_,rfl⟩;rw [←hJ] at j1 j2 j5 j6 j6b HSX hq hi hlt ⊢;have HJJ:=Zh hJ;have j9:(0:Int)<(J:Int):=by omega
    have HSX0:=HSX;clear HSX;have HSX:=Zh (fun V hV=>And.intro (HSX0.out V hV) (HX1.out V hV));clear hJ x1 hx hpR
    by_cases hl:I<l'.length
    · have hq':l'[I]?=some q:=by rw [HJJ.out,List.getElem?_cons_succ,Yc hl] at hq;exact hq
      obtain ⟨y',hy',⟨ht1,ht2,ht3⟩,⟨hw1,hw2,hw3⟩,⟨hm1,hm2⟩,hc0,hc9,hrn⟩:=HPR.out I p q S hp hq' hrc;rw [HY.out] at hy'
      cases hy'
      have HRN:=Zh (hT▸hrn);rw [←hT] at ht1 ht2 ht3 hc9;obtain ⟨u1,u2,eu1,eu2,_,_⟩:=Qdi HOK.out HY.out;obtain ⟨wy,hwy⟩:∃ W,W=y.2.2:=⟨_,rfl⟩;have HY2:=Zh (show y.1=(u1:Int)∧y.2.1=(u2:Int)∧y.2.2=wy from ⟨eu1,eu2,hwy.symm⟩)
      rw [eu1,Yl] at hm1;rw [eu2,Yl] at hm2;rw [←hwy] at hw1 hw2 hw3 hc9 HRN
      have hmk:∀ u,(Qbv l cc).getD u false=true→∀ V,Below w3.heap.size w3 V→V.cell? ⟨mb,u,none⟩=some (.bool true):=fun u hu V hV=>by
       rw [(HMB.out.below hV HMB.out.lt).cell,Qoh];rw [Ya] at hu
       cases hh:(Qbv l cc)[u]? with
       | none=>rw [hh] at hu;cases hu
       | some z=>rw [hh] at hu;cases hu;rfl
      have hun:u1<n∧u2<n:=by
       obtain ⟨v1,v2,g1,g2,g3,g4⟩:=Qdi HOK.out HY.out;rw [HH.out.1.1] at g3 g4;exact ⟨by omega,by omega⟩
      have HMM:=Zh (And.intro (hmk u1 hm1) (hmk u2 hm2))
      have HSX:=Zh (show ∀ V,Below wr.heap.size wr V→V.cell? ⟨w.heap.size,0,none⟩=some (.slice A n c)∧V.cell? ⟨w.heap.size,1,none⟩=some (.slice (some ⟨ab,ao,none⟩) m d)∧V.cell? ⟨w.heap.size,2,none⟩=some (.slice C k e)∧V.cell? ⟨xb,xo+J,none⟩=some (.int .i64 (q:Int))∧V.cell? ⟨ab,ao+q*3,none⟩=some (.int .i64 (u1:Int))∧V.cell? ⟨ab,ao+q*3+1,none⟩=some (.int .i64 (u2:Int))∧V.cell? ⟨ab,ao+q*3+2,none⟩=some (.int .i64 wy)∧V.cell? ⟨xb,xo+I,none⟩=some (.int .i64 (p:Int)) from fun V hV=>by
       obtain ⟨h1,h2,h3,h4,h5,h6,h7⟩:=HSX0.out V hV;rw [HY2.out.1] at h5;rw [HY2.out.2.1] at h6;rw [HY2.out.2.2] at h7;exact ⟨h1,h2,h3,h4,h5,h6,h7,HX1.out V hV⟩)
      have HCB:=Zh (show c9≤70375186628608∧0≤e9 from by
       have:=HPOS.out;omega)
      have hcb:=HCB.out;have a1:Qex S T=S+T:=by unfold Qex;rw [if_neg (by omega)]
      have a2:Qex (S+T) wy=S+T+wy:=by unfold Qex;rw [if_neg (by omega)]
      have HA1:=Zh (fun V=>a1▸Qge S T V ⟨by omega,by omega⟩ ⟨by omega,by omega⟩);have HA2:=Zh (fun V=>a2▸Qge (S+T) wy V ⟨by omega,by omega⟩ ⟨by omega,by omega⟩);have t1:(T == 1152921504606846976)=false:=by simpa using ht1
      have t2:decide (T=1152921504606846976)=false:=by simpa using ht1
      have t3:(wy == 1152921504606846976)=false:=by simpa using hw1
      have t4:decide (wy=1152921504606846976)=false:=by simpa using hw1
      have k1:(J:Int)<(nx:Int)-1:=by have:=HNX.out;have:=HJJ.out;omega
      have k2:IntKind.i64.wrap ((nx:Int)-1)=(nx:Int)-1:=IntWalk.i64_in _ (by omega);obtain ⟨hu1,hu2⟩:=hun;have k3:(u1:Int)<(n:Int):=by omega
      have k4:(u2:Int)<(n:Int):=by omega
      have HJL:=Zh (show J≤l'.length from by have:=HJJ.out;omega)
      have HPJ:=Zh (show (a::l')[J]?=some q from by rw [HJJ.out,List.getElem?_cons_succ];exact hq')
      have HRJ:=Zh (show Qdg (StA N (Qbv l cc)) a q (S+T+wy) (l'.take J) from by rw [HJJ.out];exact HRN.out)
      clear hT hq hp hrc HI hl a1 a2 ht1 hw1 hc9 hwy eu1 eu2 hm1 hm2 hmk hcb hrn hq' hu1 hu2
      go_wp2_with fail
      refine wp_region_held_drew (S:=fun V=>Below wr.heap.size wr V) (by kernel_rfl) (Zr _ _).drew (fun _=>?_);refine tz 0 56 ?_;refine tz 1 57 ?_;refine tz 2 58 ?_;refine tz 3 59 ?_;refine tz 4 60 ?_;refine Zk 5 (fun K hK=>?_);go_simp;with_reducible refine (Qcw A (some ⟨ab,ao,none⟩) C n m k c d e q _ (by omega) (by omega)).mono ?_
      rintro r w6 ⟨rfl,hb6⟩;have hb6':Below wr.heap.size wr w6:=(Zr _ _).drew.trans hb6;go_simp;refine hK.out _ _ hb6' (fun _=>?_);clear hK K;refine tz 6 62 ?_;refine Zd ?_;have HB6:=Zh (Zb HBL.out hb6')
      go_wp2_with fail
      refine wp_region_held_drew (S:=fun V=>Below wr.heap.size wr V) (by kernel_rfl) hb6'.drew (fun _=>?_);refine tz 0 65 ?_;refine tz 1 66 ?_;refine tz 2 67 ?_;refine tz 3 68 ?_;refine tz 4 69 ?_;refine tz 5 70 ?_;refine tz 6 71 ?_;refine tz 7 72 ?_;refine tz 8 73 ?_;refine tz 9 74 ?_;refine Zk 10 (fun K hK=>?_);go_simp;with_reducible refine (HTQ.out _ hb6'.drew).mono ?_
      rintro r w7 ⟨rfl,hb7⟩;have hb7':Below wr.heap.size wr w7:=Zb hb6'.drew hb7;go_simp;refine hK.out _ _ hb7' (fun _=>?_);clear hK K;refine tz 11 18 ?_;refine Zd ?_;have HB7:=Zh (Zb HBL.out hb7');have HB67:=Zh hb7';clear hb7 hb7'
      go_wp2_with fail
      with_reducible refine (HA1.out _).mono ?_
      rintro r w8 ⟨rfl,rfl⟩
      go_wp2_with fail
      refine wp_region_held_drew (S:=fun V=>Below wr.heap.size wr V) (by kernel_rfl) HB67.out.drew (fun _=>?_);refine tz 0 90 ?_;refine tz 1 91 ?_;refine tz 2 92 ?_;refine tz 3 93 ?_;refine tz 4 94 ?_;refine tz 5 95 ?_;refine tz 6 96 ?_;refine tz 7 97 ?_;obtain ⟨v0,hv0⟩:∃ X,X=w7.drew:=⟨_,rfl⟩;have hb0:Below wr.heap.size wr v0:=by rw [hv0];exact HB67.out.drew
      rw [←hv0];clear hv0;have hba:Below wr.heap.size wr (v0.alloc (.cells #[.int .i64 0,.int .i64 0,.int .i64 0] 119)):=Zb hb0 Qah;refine Zk 8 (fun K hK=>?_);go_simp;refine hK.out _ _ hba (fun _=>?_);clear hK K;obtain ⟨v1,hv1⟩:∃ X,X=v0.alloc (.cells #[.int .i64 0,.int .i64 0,.int .i64 0] 119):=⟨_,rfl⟩;have hA1:Blk v1 v0.heap.size 119 #[.int .i64 0,.int .i64 0,.int .i64 0]:=by rw [hv1];exact Blk.new _ _ _
      rw [←hv1] at hba ⊢;clear hv1;obtain ⟨gy,hgy⟩:∃ X,X=v0.heap.size:=⟨_,rfl⟩;rw [←hgy] at hA1 ⊢;have hgw:wr.heap.size≤gy:=by rw [hgy];exact hb0.size
      clear hgy hb0;obtain ⟨d0,d1,d2⟩:=hA1.three;have f0:=hA1.frozen 0;have f1:=hA1.frozen 1;have f2:=hA1.frozen 2;have hb9:Below wr.heap.size wr (((v1.setCell ⟨gy,0,none⟩ (.int .i64 (u1:Int))).setCell ⟨gy,1,none⟩ (.int .i64 (u2:Int))).setCell ⟨gy,2,none⟩ (.int .i64 wy)):=((hba.setCell (by exact hgw) _).setCell (by exact hgw) _).setCell (by exact hgw) _;refine Zk 9 (fun K hK=>?_);go_simp;refine hK.out _ _ hb9 (fun _=>?_);clear hK K;refine Zd ?_;obtain ⟨v2,hv2⟩:∃ X,X=((v1.setCell ⟨gy,0,none⟩ (.int .i64 (u1:Int))).setCell ⟨gy,1,none⟩ (.int .i64 (u2:Int))).setCell ⟨gy,2,none⟩ (.int .i64 wy):=⟨_,rfl⟩
      have hA2:Blk v2 gy 119 #[.int .i64 (u1:Int),.int .i64 (u2:Int),.int .i64 wy]:=by
       have:=((hA1.set_ 0 (.int .i64 (u1:Int))).set_ 1 (.int .i64 (u2:Int))).set_ 2 (.int .i64 wy);rw [←hv2] at this
       simpa using this
      rw [←hv2] at hb9 ⊢;have HB9:=Zh (Zb HBL.out hb9);clear d0 d1 d2 f0 f1 f2 hba hA1 hv2 hb9 HSX HSX0 HX1 hb6 hb6';obtain ⟨d0,d1,d2⟩:=hA2.three;have m1:=HMM.out.1 v2 HB9.out;have m2:=HMM.out.2 v2 HB9.out
      go_wp2_with fail
      with_reducible refine (HA2.out _).mono ?_
      rintro r w9 ⟨rfl,rfl⟩;clear d0 d1 d2 m1 m2
      go_wp2_with fail
      go_roundw
      case rel=>exact ⟨J+1,S+T+wy,by omega,by go_num,rfl,Zh (.inr (.inl ⟨J,q,rfl,HJL.out,HPJ.out,HRJ.out⟩)),HB9.out⟩
      case measure=>simp [intOf];omega
    · have hIl:I=l'.length:=by omega
      have hqb:q=b:=by
       rw [HJJ.out,List.getElem?_cons_succ,hIl,Yb (Zn _),Yy] at hq
       simpa using hq.symm
      obtain ⟨⟨ht1,ht2,ht3⟩,hc0,hc9⟩:=HLAST.out p S (by rw [hIl,List.take_length] at hrc;exact hrc);rw [←hqb,←hT] at ht1 ht2 ht3 hc9;have HC9:=Zh hc9;have hcv:S+T≤70375186628608:=by omega
      have a1:Qex S T=S+T:=by unfold Qex;rw [if_neg (by omega)]
      have HA1:=Zh (fun V=>a1▸Qge S T V ⟨by omega,by omega⟩ ⟨by omega,by omega⟩);have t1:(T == 1152921504606846976)=false:=by simpa using ht1
      have t2:decide (T=1152921504606846976)=false:=by simpa using ht1
      have HEN:=Zh (show J+1=nx by have:=HNX.out;have:=HJJ.out;omega)
      have k1:¬((J:Int)<(nx:Int)-1):=by have:=HEN.out;omega
      have k2:IntKind.i64.wrap ((nx:Int)-1)=(nx:Int)-1:=IntWalk.i64_in _ (by omega);clear hT hq hp hrc HI hqb hIl hl a1 hcv ht1 hc9
      go_wp2_with fail
      refine wp_region_held_drew (S:=fun V=>Below wr.heap.size wr V) (by kernel_rfl) (Zr _ _).drew (fun _=>?_);refine tz 0 56 ?_;refine tz 1 57 ?_;refine tz 2 58 ?_;refine tz 3 59 ?_;refine tz 4 60 ?_;refine Zk 5 (fun K hK=>?_);go_simp;with_reducible refine (Qcw A (some ⟨ab,ao,none⟩) C n m k c d e q _ (by omega) (by omega)).mono ?_
      rintro r w6 ⟨rfl,hb6⟩;have hb6':Below wr.heap.size wr w6:=(Zr _ _).drew.trans hb6;go_simp;refine hK.out _ _ hb6' (fun _=>?_);clear hK K;refine tz 6 62 ?_;refine Zd ?_;have HB6:=Zh (Zb HBL.out hb6')
      go_wp2_with fail
      refine wp_region_held_drew (S:=fun V=>Below wr.heap.size wr V) (by kernel_rfl) hb6'.drew (fun _=>?_);refine tz 0 65 ?_;refine tz 1 66 ?_;refine tz 2 67 ?_;refine tz 3 68 ?_;refine tz 4 69 ?_;refine tz 5 70 ?_;refine tz 6 71 ?_;refine tz 7 72 ?_;refine tz 8 73 ?_;refine tz 9 74 ?_;refine Zk 10 (fun K hK=>?_);go_simp;with_reducible refine (HTQ.out _ hb6'.drew).mono ?_
      rintro r w7 ⟨rfl,hb7⟩;have hb7':Below wr.heap.size wr w7:=Zb hb6'.drew hb7;go_simp;refine hK.out _ _ hb7' (fun _=>?_);clear hK K;refine tz 11 18 ?_;refine Zd ?_;have HB7:=Zh (Zb HBL.out hb7');have HB67:=Zh hb7';clear hb7 hb7'
      go_wp2_with fail
      with_reducible refine (HA1.out _).mono ?_
      rintro r w8 ⟨rfl,rfl⟩;clear HSX HX1 hb6 hb6'
      go_wp2_with fail
      go_roundw
      case rel=>exact ⟨J+1,_,by omega,by go_num,rfl,Zh (.inr (.inr ⟨HEN.out,HC9.out⟩)),HB7.out⟩
      case measure=>simp [intOf];omega
  · omega
end
structure OvD (w:World) (Q G AE:Option Addr) (L S:Nat) (N:Qam) (ls:List (List Int)) (EL:List Ent):Prop where
 q:RdT w Q L ls
 g:RdG w G L (Qac N.ar ls)
 e:Rds w 4 AE S (Qfc EL)
 len:EL.length=S
 sum:S=Qbx (Qac N.ar ls)
 ent:EntP N ls EL
 s9:S≤1000000000
theorem OvD.below {w w':World}{Q G AE:Option Addr}{L S:Nat}{N:Qam} {ls:List (List Int)} {EL:List Ent} (h:OvD w Q G AE L S N ls EL) (hb:Below w.heap.size w w'):OvD w' Q G AE L S N ls EL :=
 ⟨h.q.below hb,h.g.le (Le.below hb),h.e.below hb,h.len,h.sum,h.ent,h.s9⟩
section
variable (A B C Q G AE:Option Addr) (n m k c d e L cq cg S ce:Nat) (xA xB xC:Value) (N:Qam) (ls:List (List Int)) (EL:List Ent)
variable (CA:Option Addr) (NC cC:Nat) (cl:List Int)
end
end Go.Proofs.YtdheeddnkdhfeaaGreatDoor
namespace Go.Proofs.YtdheeddnkdhfeaaGreatDoor
open Go.RowKit Go.Extern.Stop Go.Stop Go.Extern Go.Proofs.Tryz
attribute [local go_sem ↓] Go.wp_at_zero Go.wp_at_succ
theorem Quy {P:Program}{ops:Array Oper}{Q:Exit→Act→World→Prop}{md:Region.Mode}{S:World→Prop}{G:Value→Value→World→Prop}{L listed:Array Bool}{f0 fuel:Nat}{a:Act}{w:World}(d1 d2:Option Tmp)(hf:fuel=f0+2)
 (hA:∀ C:Act→World→Prop,Shut (∀ v1 v2 w',G v1 v2 w'→C ((a.put d1 v1).put d2 v2) w')→wpC P md ops Q S L C 2 listed a w)
 (hB:∀ v1 v2 w',G v1 v2 w'→wpAnyH P md ops Q S f0 L ((a.put d1 v1).put d2 v2) w'):wpAnyH P md ops Q S fuel listed a w:=by
 subst hf;exact Qqq (C:=fun a' w'=>wpAnyH P md ops Q S f0 L a' w') (fun _ _ h=>h) 2 listed a w (hA _ hB)
def GtG (w:World)(x:Qak)(v1 v2:Value)(w':World):Prop :=
 ∃ A1 n1 c1 A2 n2 c2 g8,v1=.agg #[.slice A1 n1 c1,.slice A2 n2 c2]∧v2=.pointer (some ⟨g8,0,none⟩)∧RdI w A1 n1 x.1∧RdI w A2 n2 x.2∧w.heap.size≤g8∧Blk w' g8 73 #[.slice none 0 0,.slice none 0 0]∧Below w.heap.size w w'
def LpE (N:Qam)(l:List Int)(c s t:Nat)(v:Int)(e:Ending)(w':World):Prop :=
 (v=1152921504606846976∧∃ x,e=.returned (.tuple #[.slice none 0 0,x])∧Qcq w' x [((⟨#[108,101,97,112]⟩:ByteArray),4)] 12) ∨
 (v≠1152921504606846976∧∃ A n cc L,e=.returned (.tuple #[.slice A n cc,.nilIface])∧Opn N (Qbv l c) s t v L∧RdI w' A n (nis (s::L))∧n≤1000000000)
theorem Qvg {N:Qam} {ls:List (List Int)} {k j c p q s t:Nat} {l:List Int} {x:Qak} (hI:Qfg N ls k j l c x p q s t):enF N ls ((j:Int)+1) (s:Int)=(c:Int)∧leF N ls ((j:Int)+1) (t:Int)=(c:Int)∧(∃ y,N.ar[s]?=some y∧Qaa l y.2.1=(c:Int))∧s<N.ar.length∧t<N.ar.length:=by
 obtain ⟨y,hy,y1,y2⟩:=(Qcv hI.hx).1 (Zm hI.ha);obtain ⟨z,hz,z1,z2⟩:=(Qbo hI.hx).1 (Zm hI.hb);have e1:enF N ls ((j:Int)+1) (s:Int)=Qaa l y.2.1:=by unfold enF;rw [Qfd hI.hl hy,if_neg (by rw [y2];exact y1)]
 have e2:leF N ls ((j:Int)+1) (t:Int)=Qaa l z.1:=by unfold leF;rw [Qfd hI.hl hz,if_neg (by rw [z1];exact fun e=>z2 e.symm)]
 exact ⟨e1.trans y2,e2.trans z1,⟨y,hy,y2⟩,(Zs hy).1,(Zs hz).1⟩
theorem lp_ent {N:Qam} {ls:List (List Int)} {NC k j c p q s t:Nat} {l:List Int} {x:Qak} (hI:Qfg N ls k j l c x p q s t) {v:Int} (hE:Qfi N (Qbv l c) s t v) {e:Ending} {w':World} (h:LpR N ls NC NC ((j:Int)+1) (s:Int) (t:Int) e w'):LpE N l c s t v e w':=by
 obtain ⟨e1,e2,⟨y,hy,y2⟩,_⟩:=Qvg hI;have hj:=(Zs hI.hl).1
 rcases h with ⟨k',c',x',hb,he,hc⟩|⟨A,n,cc,L,a,b,j',c',l',v',_,h1,h2,h3,hl',hp,he,ho,hr,hn,_⟩
 · rcases hb with ⟨h2,_⟩|⟨_,h2,_⟩|⟨_,_,h2,_⟩|⟨_,_,_,h2,_⟩|⟨_,⟨a,b,j',l',y',z',h2,h3,h4,hl',hy',_,_,_,_,hE'⟩,rfl,rfl⟩
   · omega
   · exact absurd rfl h2
   · omega
   · exact absurd (e2.trans e1.symm) h2
   · obtain rfl:s=a:=by omega
     obtain rfl:t=b:=by omega
     obtain rfl:j=j':=by omega
     rw [hI.hl] at hl'
     cases hl'
     rw [hy] at hy'
     cases hy'
     rw [y2] at hE';exact .inl ⟨Lst.uniq hE hE',x',he,hc⟩
 · obtain rfl:s=a:=by omega
   obtain rfl:t=b:=by omega
   obtain rfl:j=j':=by omega
   rw [hI.hl] at hl'
   cases hl'
   obtain ⟨y',hy',_,g2⟩:=hp.sy;rw [hy] at hy'
   cases hy'
   obtain rfl:c=c':=by rw [y2] at g2;omega
   obtain rfl:=Lst.uniq hp.ent hE;exact .inr ⟨hp.fin,A,n,cc,L,he,ho,hr,hn⟩
set_option maxRecDepth 20000 in
set_option maxHeartbeats 60000000 in
theorem Qiu (A B C Q:Option Addr)(n m k c d e L cq:Nat)(N:Qam) (ls:List (List Int)) (w:World) (h:Qce w A B C n m k N) (hk:k≤9223372036854775807) (hq:RdT w Q L ls) (hL:L≤9223372036854775807) (hg:w.cell? ⟨0,0,none⟩=some Qmv) :
 Calls prog 5 #[.agg #[.slice A n c,.slice B m d,.slice C k e],.agg #[.slice Q L cq]] w fun r w'=>r=.returned (.bool true)∧Below w.heap.size w w':=by
 have HH:=Zh h;have HT:=Zh hq;have HG:=Zh hg;have HNA:=Zh (show N.ar.length=m from h.2.1.1)
 have HNV:=Zh (show N.vs.length=n from h.1.1)
 clear h hq hg
 go_enter func5,ntmps5
 go_wp2_with fail
 (refine Qae ?_;intro w1 hw1)
 have hb1:Below w.heap.size w w1:=by rw [hw1];exact Qah
 have hX:Blk w1 w.heap.size 26 #[.slice A n c,.slice B m d,.slice C k e]:=by rw [hw1];exact Qbh
 have hY:Blk w1 (w.heap.size+1) 29 #[.slice Q L cq]:=by rw [hw1];exact Qbh
 clear hw1;with_reducible refine (Qls w1 (Zc hb1 (Zn _) HG.out)).mono ?_
 rintro r w2 ⟨rfl,hb2⟩;have hq2:=hb2;have hX2:=hX.below hb2 hX.lt;have hY2:=hY.below hb2 hY.lt;have hb2':=Zb hb1 hb2;clear hX hY hb1 hb2;obtain ⟨x0,x1,x2⟩:=hX2.three;have y0:=hY2.cell 0;simp only [Yo,Yn] at y0
 go_wp2_with fail
 with_reducible refine (Qpe A B C Q n m k c d e L cq N ls w2 (HH.out.below hb2') hk (HT.out.below hb2') hL).mono ?_
 rintro r w3 ⟨hr,hb3⟩;have hb3':=Zb hb2' hb3;have hq3:=Zb hq2 hb3;have hX3:=hX2.below hb3 hX2.lt;have hY3:=hY2.below hb3 hY2.lt;clear x0 x1 x2 y0 hX2 hY2 hb2' hb3 hq2;obtain ⟨b,rfl,hGG⟩:=hr
 cases b with
 | false =>
  clear hGG
  go_wp2_with fail
  go_ret
  exact ⟨rfl,hb3'⟩
 | true =>
 have hmay:=hGG rfl;clear hGG;have HMAY:=Zh hmay;have hok:=hmay.small.ok;clear hmay;obtain ⟨x0,x1,x2⟩:=hX3.three;have y0:=hY3.cell 0;simp only [Yo,Yn] at y0
 go_wp2_with fail
 with_reducible refine (Qmi A B C Q n m k c d e L cq N ls w3 (HH.out.below hb3') hok (HT.out.below hb3') HMAY.out.part (Qfs HMAY.out)).mono ?_
 unfold Qpk;rintro r w5 ⟨⟨g,o,CB,NC,cl,F,rfl,hNCe,hG5,hF5,hO5,hC5,hA5⟩,hb5⟩;have HNC:=Zh hNCe;have HB5:=Zh (Zb hb3' hb5);have HQ5:=Zh (Zb hq3 hb5);have HX5:=Zh (hX3.below hb5 hX3.lt);have HY5:=Zh (hY3.below hb5 hY3.lt);have HG5:=Zh hG5.rd;have HO5:=Zh (hO5.le (Qat _ _));have HC5:=Zh (show RdI w5 (some ⟨CB,0,none⟩) NC cl from ⟨hC5.1,fun i x hx=>by obtain ⟨b,o,e,h1⟩:=hC5.2 i x hx;exact ⟨b,o,e,Qat _ _ _ _ h1⟩⟩)
 have HALL:=Zh hA5;clear x0 x1 x2 y0 hX3 hY3 hb5 hb3' hNCe hG5 hF5 hO5 hC5 hA5 hq3;obtain ⟨x0,x1,x2⟩:=HX5.out.three;have y0:=HY5.out.cell 0;simp only [Yo,Yn] at y0;have hS9:=Qfs HMAY.out;have HCQ:=Zh (fun V (hV:Below w.heap.size w V)=>Qqp A B C Q n m k c d e L cq N ls V (HH.out.below hV) hok (HT.out.below hV) HMAY.out.part hS9)
 go_wp2_with fail
 with_reducible refine (HCQ.out w5 HB5.out).mono ?_
 unfold Qwt;rintro r w7 ⟨G,cg,AE,ce,EL,rfl,hG7,hE7,hEl,hEP,hb7⟩;have hNC9:NC≤1000000000:=by rw [HNC.out];exact hS9
 have HB7:=Zh (Zb HB5.out hb7);have HOD7:=Zh (show OvD w7 Q G AE L NC N ls EL from ⟨HT.out.below HB7.out,hG7,by rw [HNC.out,←hEl];exact hE7,by rw [hEl,HNC.out],HNC.out,hEP,hNC9⟩)
 rw [hEl,←HNC.out];have HX7:=Zh (HX5.out.below hb7 HX5.out.lt);have HG7:=Zh (HG5.out.below hb7);have HO7:=Zh (HO5.out.below hb7);have HC7:=Zh (HC5.out.below hb7);have HQ7:=Zh (Zb HQ5.out hb7);clear hG7 hE7 hEl hEP hb7 HCQ HX5 HY5 HG5 HO5 HC5 x0 x1 x2 y0;have HOK:=Zh hok;have HS9:=Zh hS9;clear hok hS9 hNC9
 go_wp2_with fail
 (refine Qai ?_;intro w8 hw8)
 have hb8:Below w7.heap.size w7 w8:=by rw [hw8];exact Qah
 have HY8:=Zh (show Blk w8 w7.heap.size 57 #[.slice A n c,.slice B m d,.slice C k e,.slice Q L cq,.slice G L cg,.slice AE NC ce] by rw [hw8];exact Blk.new _ _ _)
 obtain ⟨gr,hgr⟩:∃ X,X=w7.heap.size:=⟨_,rfl⟩;rw [←hgr] at HY8 ⊢;have HX8:=Zh (HX7.out.below hb8 HX7.out.lt);have HB8:=Zh (Zb HB7.out hb8);have HOD8:=Zh (HOD7.out.below hb8);have HG8:=Zh (HG7.out.below hb8);have HO8:=Zh (HO7.out.below hb8);have HC8:=Zh (HC7.out.below hb8);clear hw8 hgr hb8 HOD7 HG7 HO7 HC7 HX7
 go_loopw [10] (fun ui W=>∃ i:Nat,i≤NC∧ui=.int .i64 i∧Below w8.heap.size w8 W) (fun ui _=>NC-(intOf ui).toNat)
 case atStart=>exact ⟨0,Nat.zero_le _,rfl,Zr _ _⟩
 case round =>
  obtain ⟨i,hi,rfl,hbl⟩:=hrel;have HBL:=Zh hbl
  by_cases hlt:i<NC
  rotate_left
  · have j1:¬(i:Int)<(NC:Int):=by omega
    clear hbl
    go_wp2_with fail
    go_ret
    exact ⟨rfl,Zb HB8.out HBL.out⟩
  have j1:(i:Int)<(NC:Int):=by omega
  by_cases h150:i<150
  rotate_left
  · have j2:¬(i:Int)<150:=by omega
    clear hbl
    go_wp2_with fail
    go_ret
    exact ⟨rfl,Zb HB8.out HBL.out⟩
  have j2:(i:Int)<150:=by omega
  have j3:(0:Int)≤(i:Int):=by omega
  obtain ⟨⟨il,iq,ia,ib⟩,he⟩:∃ e,EL[i]?=some e:=⟨_,Zg (by rw [HOD8.out.len];exact hlt)⟩;obtain ⟨l,x,s,t,hent⟩:=HOD8.out.ent i _ he;simp only at hent;obtain ⟨v,hv,hE⟩:=HALL.out.at_ hent;have hEr:=(HOD8.out.below hbl).e;have hc:=fun (q:Nat) (u:Value) (hq:q<4) (hu:(Qhp (il,iq,ia,ib))[q]?=some u)=>hEr.2 (i*4+q) u (by rw [Qok EL i _ he q hq];exact hu)
  obtain ⟨eb,eo,rfl,c0⟩:=hc 0 _ (by omega) rfl;obtain ⟨_,_,e1,c1⟩:=hc 1 _ (by omega) rfl
  cases e1
  obtain ⟨_,_,e2,c2⟩:=hc 2 _ (by omega) rfl
  cases e2
  obtain ⟨_,_,e3,c3⟩:=hc 3 _ (by omega) rfl
  cases e3
  rw [←Nat.add_assoc] at c0 c1 c2 c3;rw [Nat.add_zero] at c0;simp only at c0 c1 c2 c3;obtain ⟨_,_,e4,cv⟩:=(HC8.out.below hbl).2 i v hv
  cases e4
  rw [Yz] at cv;have hL6:L≤6:=by rw [←HOD8.out.q.1];exact HMAY.out.part.l6
  have hla:=HOK.out.la;have hlv:=HOK.out.lv;have hgl:=Qbi hent.hx
  have hiq:iq≤1000000:=by
   have h1:=(Zs hent.hx).1;rw [Qan] at h1;have:=Qch (l:=l) (n:=(N.vs.length:Int)) (fun x hx=>(HMAY.out.part.lvl l (Zm hent.hl)).hi x hx) (by omega);omega
  have HGA:=Zh (fun V (hV:Below wr.heap.size wr V)=>Qnw (.slice A n c) (.slice B m d) (.slice C k e) (.slice Q L cq) (.slice (some ⟨eb,eo,none⟩) NC ce) G L cg il iq N.ar ls l x wr V (Le.below hV) (HOD8.out.below hbl).g hent.hl hent.hx (by omega) hiq);have HLP:=Zh (fun V (hV:Below w8.heap.size w8 V)=>Qjr V g o N ls (some ⟨CB,0,none⟩) NC NC NC cl ((il:Int)+1) (s:Int) (t:Int) (HG8.out.below hV) (HO8.out.below hV) (HC8.out.below hV) HOK.out HMAY.out.part HNC.out (fun _=>HALL.out) ⟨Zn _,by have:=HOD8.out.s9;omega⟩ HOD8.out.s9);obtain ⟨hen,_,_,hsl,htl⟩:=Qvg hent
  have HLE:=Zh (fun (hv9:v≠1152921504606846976) (L9:List Nat) (ho9:Opn N (Qbv l iq) s t v L9) (A9:Option Addr) (n9 c9:Nat) (hn9:n9≤1000000000) V (hV:Below w8.heap.size w8 V) (hr9:RdI V A9 n9 (nis (s::L9))) =>
   Qtn V A B C Q n m k c d e L cq N ls (.slice A n c) (.slice B m d) (.slice C k e) (.slice G L cg) (.slice (some ⟨eb,eo,none⟩) NC ce) A9 n9 c9 s t il (iq:Int) v l L9 (HH.out.below (Zb HB8.out hV)) HOK.out (HOD8.out.below hV).q HMAY.out.part hent.hl hen ho9 ((hE.bd HOK.out).resolve_left hv9).2 hr9 hn9 hsl)
  have HEN:=Zh hent;have HE:=Zh hE;have HCV:=Zh cv;have ha1:=(Zs hent.ha).1;have hb1:=(Zs hent.hb).1
  have HSX:=Zh (show ∀ V,Below wr.heap.size wr V→V.cell? ⟨gr,0,none⟩=some (.slice A n c)∧V.cell? ⟨gr,1,none⟩=some (.slice B m d)∧V.cell? ⟨gr,2,none⟩=some (.slice C k e)∧V.cell? ⟨gr,3,none⟩=some (.slice Q L cq)∧V.cell? ⟨gr,4,none⟩=some (.slice G L cg)∧V.cell? ⟨gr,5,none⟩=some (.slice (some ⟨eb,eo,none⟩) NC ce) ∧
   V.cell? ⟨eb,eo+i*4,none⟩=some (.int .i64 ((il:Int)+1))∧V.cell? ⟨eb,eo+i*4+1,none⟩=some (.int .i64 iq)∧V.cell? ⟨eb,eo+i*4+2,none⟩=some (.int .i64 ia)∧V.cell? ⟨eb,eo+i*4+3,none⟩=some (.int .i64 ib) from fun V hV=>by
   have hO':=HY8.out.below (Zb HBL.out hV) HY8.out.lt;exact ⟨Zq hO',Zq hO',Zq hO',Zq hO',Zq hO',Zq hO',Zc hV (Zn _) c0,Zc hV (Zn _) c1,Zc hV (Zn _) c2,Zc hV (Zn _) c3⟩)
  clear hbl he hent hv hE hEr hc c0 c1 c2 c3 cv hen hlt h150
  go_wp2_with fail
  refine wp_region_held_drew (S:=fun V=>Below wr.heap.size wr V) (by kernel_rfl) (Zr _ _).drew (fun _=>?_);refine tz 0 51 ?_;refine tz 1 52 ?_;refine tz 2 53 ?_;refine tz 3 54 ?_;refine tz 4 55 ?_;refine tz 5 56 ?_;refine tz 6 57 ?_;refine tz 7 58 ?_;refine tz 8 59 ?_;refine tz 9 60 ?_;refine tz 10 61 ?_;refine tz 11 62 ?_;refine tz 12 63 ?_;obtain ⟨W0,q⟩:∃ X,X=wr.drew:=⟨_,rfl⟩;have hbW:Below wr.heap.size wr W0:=by rw [q];exact (Zr _ _).drew
  have HZW:=Zh (show W0.heap.size=wr.heap.size by rw [q];rfl)
  rw [←q];clear q;refine Quy (G:=GtG wr x) (L:=#[true,true,true,true,true,true,true,true,true,true,true,true,true,true,true,false]) (f0:=1) (some 64) (some 11) rfl (fun C0 hC=>?_) ?_
  · refine Qcb (rs:=[13,14]) (by kernel_rfl) (by simp) ?_
    refine Qfu.cons (o:=_) rfl (fun K1 hK=>?_) (Qfu.cons (o:=_) rfl (fun K1 hK=>?_) (Qfu.nil))
    · go_simp
      with_reducible refine (HGA.out W0 hbW).mono ?_
      rintro r w5 ⟨A1,n1,c1,A2,n2,c2,rfl,hr1,hr2,hb5⟩;have hb45:=Zb hbW hb5;go_simp;refine hK.out _ _ hb45 (fun _=>?_);clear hK K1
      try simp only [Act.put,Yi,Yj,Yk]
      refine Qcb (rs:=[14]) (by kernel_rfl) (by simp) ?_;refine Qfu.cons (o:=_) rfl (fun K1 hK=>?_) (Qfu.nil);go_simp;have hba:Below w5.heap.size w5 (w5.alloc (.cells #[.slice none 0 0,.slice none 0 0] 73)):=Qah;refine hK.out _ _ (Zb hb45 hba) (fun _=>?_);clear hK K1
      try simp only [Act.put,Yi,Yj,Yk]
      exact ⟨by kernel_rfl,hC.out _ _ _ ⟨A1,n1,c1,A2,n2,c2,w5.heap.size,rfl,rfl,hr1,hr2,hb45.size,Blk.new _ _ _,Zb hb45 hba⟩⟩
    · go_simp
      have hba:Below W0.heap.size W0 (W0.alloc (.cells #[.slice none 0 0,.slice none 0 0] 73)):=Qah;have hB5:Blk (W0.alloc (.cells #[.slice none 0 0,.slice none 0 0] 73)) W0.heap.size 73 #[.slice none 0 0,.slice none 0 0]:=Blk.new _ _ _;have hb4a:=Zb hbW hba;refine hK.out _ _ hb4a (fun _=>?_);clear hK K1
      try simp only [Act.put,Yi,Yj,Yk]
      obtain ⟨W1,q⟩:∃ X,X=W0.alloc (.cells #[.slice none 0 0,.slice none 0 0] 73):=⟨_,rfl⟩;rw [←q] at hba hB5 hb4a ⊢;clear q;refine Qcb (rs:=[13]) (by kernel_rfl) (by simp) ?_;refine Qfu.cons (o:=_) rfl (fun K1 hK=>?_) (Qfu.nil);go_simp;with_reducible refine (HGA.out W1 hb4a).mono ?_
      rintro r w5 ⟨A1,n1,c1,A2,n2,c2,rfl,hr1,hr2,hb5⟩;have hb45:=Zb hb4a hb5;go_simp;refine hK.out _ _ hb45 (fun _=>?_);clear hK K1
      try simp only [Act.put,Yi,Yj,Yk]
      exact ⟨by kernel_rfl,hC.out _ _ _ ⟨A1,n1,c1,A2,n2,c2,W0.heap.size,rfl,rfl,hr1,hr2,by have:=HZW.out;omega,hB5.below hb5 hB5.lt,hb45⟩⟩
  rintro v64 v11 w9 ⟨A1,n1,c1,A2,n2,c2,g8,rfl,rfl,hr1,hr2,hg8,hB9,hb9⟩;simp only [Act.put,Yi,Yj,Yk];obtain ⟨d0,d1,f0,f1⟩:=hB9.two;have hb10:Below wr.heap.size wr ((w9.setCell ⟨g8,0,none⟩ (.slice A1 n1 c1)).setCell ⟨g8,1,none⟩ (.slice A2 n2 c2)):=(hb9.setCell (by exact hg8) _).setCell (by exact hg8) _;refine Zk 15 (fun K hK=>?_);go_simp;refine hK.out _ _ hb10 (fun _=>?_);clear hK K;refine Zd ?_;obtain ⟨w10,hw10⟩:∃ X,X=(w9.setCell ⟨g8,0,none⟩ (.slice A1 n1 c1)).setCell ⟨g8,1,none⟩ (.slice A2 n2 c2):=⟨_,rfl⟩;rw [←hw10] at hb10 ⊢
  have hB10:Blk w10 g8 73 #[.slice A1 n1 c1,.slice A2 n2 c2]:=by
   have:=(hB9.set_ 0 (.slice A1 n1 c1)).set_ 1 (.slice A2 n2 c2);rw [←hw10] at this
   simpa using this
  have hn1:ia<n1:=by rw [←hr1.1];exact ha1
  have hn2:ib<n2:=by rw [←hr2.1];exact hb1
  obtain ⟨sb,so,rfl,s0⟩:=hr1.2 ia (s:Int) HEN.out.ha;obtain ⟨tb,to_,rfl,t0⟩:=hr2.2 ib (t:Int) HEN.out.hb;have j4:(ia:Int)<(n1:Int):=by omega
  have j5:(ib:Int)<(n2:Int):=by omega
  have j6:(0:Int)≤(ia:Int):=by omega
  have j7:(0:Int)≤(ib:Int):=by omega
  have HB10:=Zh (Zb HBL.out hb10);have HSX0:=HSX;clear HSX
  have HSX:=Zh (show ∀ V,Below w10.heap.size w10 V→(V.cell? ⟨g8,0,none⟩=some (.slice (some ⟨sb,so,none⟩) n1 c1)∧V.cell? ⟨g8,1,none⟩=some (.slice (some ⟨tb,to_,none⟩) n2 c2)∧V.cell? ⟨sb,so+ia,none⟩=some (.int .i64 (s:Int))∧V.cell? ⟨tb,to_+ib,none⟩=some (.int .i64 (t:Int)))∧V.cell? ⟨gr,0,none⟩=some (.slice A n c)∧V.cell? ⟨gr,1,none⟩=some (.slice B m d)∧V.cell? ⟨gr,2,none⟩=some (.slice C k e)∧V.cell? ⟨gr,3,none⟩=some (.slice Q L cq)∧V.cell? ⟨gr,4,none⟩=some (.slice G L cg)∧V.cell? ⟨gr,5,none⟩=some (.slice (some ⟨eb,eo,none⟩) NC ce) ∧
   V.cell? ⟨eb,eo+i*4,none⟩=some (.int .i64 ((il:Int)+1))∧V.cell? ⟨eb,eo+i*4+1,none⟩=some (.int .i64 iq)∧V.cell? ⟨eb,eo+i*4+2,none⟩=some (.int .i64 ia)∧V.cell? ⟨eb,eo+i*4+3,none⟩=some (.int .i64 ib) from fun V hV=>by
   have hO':=hB10.below hV hB10.lt;have hV2:=Zb hb10 hV;exact ⟨⟨Zq hO',Zq hO',Zc hV2 (Zn _) s0,Zc hV2 (Zn _) t0⟩,HSX0.out V hV2⟩)
  have HCE:=Zh (show ∀ V,Below w10.heap.size w10 V→(V.cell? ⟨gr,0,none⟩=some (.slice A n c)∧V.cell? ⟨gr,1,none⟩=some (.slice B m d)∧V.cell? ⟨gr,2,none⟩=some (.slice C k e)∧V.cell? ⟨gr,3,none⟩=some (.slice Q L cq)∧V.cell? ⟨gr,4,none⟩=some (.slice G L cg)∧V.cell? ⟨gr,5,none⟩=some (.slice (some ⟨eb,eo,none⟩) NC ce))∧V.cell? ⟨eb,eo+i*4,none⟩=some (.int .i64 ((il:Int)+1)) from fun V hV=>by
   obtain ⟨h0,h1,h2,h3,h4,h5,h6,_⟩:=HSX0.out V (Zb hb10 hV);exact ⟨⟨h0,h1,h2,h3,h4,h5⟩,h6⟩)
  have HCV0:=HCV;clear HCV;have HCV:=Zh (Zc hb10 (Zn _) HCV0.out);clear d0 d1 f0 f1 hb9 hB9 hw10 hb10 hr1 hr2 s0 t0 hB10 HGA HSX0 HCV0 HZW hbW
  go_wp2_with fail
  refine wp_region_held_drew (S:=fun V=>Below w10.heap.size w10 V) (by kernel_rfl) (Zr _ _).drew (fun _=>?_);refine tz 0 65 ?_;refine tz 1 66 ?_;refine tz 2 67 ?_;refine tz 3 68 ?_;refine tz 4 69 ?_;refine tz 5 70 ?_;refine tz 6 71 ?_;refine tz 7 72 ?_;refine tz 8 73 ?_;refine tz 9 74 ?_;refine tz 10 75 ?_;refine tz 11 76 ?_;refine tz 12 77 ?_;refine tz 13 78 ?_;refine tz 14 79 ?_;refine tz 15 80 ?_;refine tz 16 81 ?_;refine tz 17 82 ?_;refine tz 18 83 ?_;refine tz 19 84 ?_;refine tz 20 12 ?_;refine tz 21 13 ?_;refine Zd ?_;obtain ⟨wb,hwb⟩:∃ X,X=w10.drew:=⟨_,rfl⟩;have hbb:Below w10.heap.size w10 wb:=by rw [hwb];exact (Zr _ _).drew
  rw [←hwb];obtain ⟨_,_,_,_,_,_,y5,y6,_⟩:=HSX.out wb hbb;have HBb:=Zh (Zb HB10.out hbb);have HCE:=Zh (fun V (hV:Below wb.heap.size wb V)=>HCE.out V (Zb hbb hV));have HCV:=Zh (Zc hbb (Zn _) HCV.out);clear hwb hbb HSX j4 j5 j6 j7 hn1 hn2 HB10
  go_wp2_with fail
  with_reducible refine (HLP.out wb HBb.out).mono ?_
  rintro r wc ⟨hlp,hbc⟩;have hle:=lp_ent HEN.out HE.out hlp;have HBc:=Zh (Zb HBb.out hbc);have HCE:=Zh (fun V (hV:Below wc.heap.size wc V)=>HCE.out V (Zb hbc hV));have HCV:=Zh (Zc hbc (Zn _) HCV.out);have cv:=HCV.out;clear hlp hbc y5 y6 HLP HBb
  rcases hle with ⟨hv,xv,rfl,hch⟩|⟨hv,A9,n9,c9,L9,rfl,ho9,hr9,hn9⟩
  · obtain ⟨tv,xv,rfl⟩:=Qbg hch
    have HCH:=Zh hch;subst hv;clear hch HLE
    go_wp2_with fail
    clear cv;with_reducible refine (Qod (⟨#[108,101,97,112]⟩:ByteArray) 4 12 wc).mono ?_
    rintro r wd ⟨_,rfl,⟨A4,n4,m4,rfl,h4,h4n⟩,hbd⟩;have HCHd:=Zh (HCH.out.below hbd);have HR4:=Zh h4;have HBd:=Zh (Zb HBc.out hbd);clear h4 hbd HCH
    go_wp2_with fail
    with_reducible refine (Qpg (.iface tv xv) A4 n4 m4 [((⟨#[108,101,97,112]⟩:ByteArray),4)] 12 wd HCHd.out HR4.out (by omega) (Zc (Zb HB8.out HBd.out) (Zn _) HG.out) (by omega)).mono ?_
    rintro r we ⟨rfl,hbe⟩;have HBe:=Zh (Zb HBd.out hbe);clear hbe HCHd HR4
    go_wp2_with fail
    go_roundw
    case rel=>exact ⟨i+1,by omega,by go_num,HBe.out⟩
    case measure=>simp [intOf];omega
  · have v1:(v == 1152921504606846976)=false:=by simpa using hv
    have v2:decide (v=1152921504606846976)=false:=by simpa using hv
    have HLK:=Zh (fun V (hV:Below wc.heap.size wc V)=>HLE.out hv L9 ho9 A9 n9 c9 hn9 V (Zb HBc.out hV) (hr9.below hV));have HXc:=Zh (HX8.out.below HBc.out HX8.out.lt)
    have HSX:=Zh (show ∀ V,Below wc.heap.size wc V→(V.cell? ⟨w.heap.size,0,none⟩=some (.slice A n c)∧V.cell? ⟨w.heap.size,1,none⟩=some (.slice B m d)∧V.cell? ⟨w.heap.size,2,none⟩=some (.slice C k e))∧V.cell? ⟨CB,i,none⟩=some (.int .i64 v)∧(V.cell? ⟨gr,0,none⟩=some (.slice A n c)∧V.cell? ⟨gr,1,none⟩=some (.slice B m d)∧V.cell? ⟨gr,2,none⟩=some (.slice C k e)∧V.cell? ⟨gr,3,none⟩=some (.slice Q L cq)∧V.cell? ⟨gr,4,none⟩=some (.slice G L cg)∧V.cell? ⟨gr,5,none⟩=some (.slice (some ⟨eb,eo,none⟩) NC ce)) ∧
     V.cell? ⟨eb,eo+i*4,none⟩=some (.int .i64 ((il:Int)+1)) from fun V hV=>by
     have hX':=HXc.out.below hV HXc.out.lt;obtain ⟨h1,h2⟩:=HCE.out V hV;exact ⟨⟨Zq hX',Zq hX',Zq hX'⟩,Zc hV (Zn _) HCV.out,h1,h2⟩)
    clear hv ho9 hr9 hn9 HLE HCE HCV
    go_wp2_with fail
    clear cv;refine wp_region_held_drew (S:=fun V=>Below wc.heap.size wc V) (by kernel_rfl) (Zr _ _).drew (fun _=>?_);refine tz 0 114 ?_;refine tz 1 115 ?_;refine tz 2 116 ?_;refine tz 3 117 ?_;refine tz 4 118 ?_;refine tz 5 119 ?_;refine tz 6 120 ?_;refine tz 7 121 ?_;refine tz 8 122 ?_;refine tz 9 123 ?_;refine tz 10 124 ?_;refine tz 11 125 ?_;refine tz 12 126 ?_;refine tz 13 127 ?_;refine tz 14 128 ?_;refine tz 15 129 ?_;refine tz 16 130 ?_;refine tz 17 131 ?_;refine Zk 18 (fun K hK=>?_);go_simp;with_reducible refine (HLK.out _ (Zr _ _).drew).mono ?_
    rintro r wd ⟨rfl,hbd⟩;have hbd':Below wc.heap.size wc wd:=(Zr _ _).drew.trans hbd;go_simp;refine hK.out _ _ hbd' (fun _=>?_);clear hK K;refine tz 19 133 ?_;refine tz 20 134 ?_;refine Zd ?_;have HBd:=Zh (Zb HBc.out hbd');clear hbd hbd' HSX HLK
    go_wp2_with fail
    go_roundw
    case rel=>exact ⟨i+1,by omega,by go_num,HBd.out⟩
    case measure=>simp [intOf];omega
end Go.Proofs.YtdheeddnkdhfeaaGreatDoor
