/- Qbl of the proof: Nt6, Nt7, Nt8, Nt9, Gv. -/
import Derived.Test.YtkaaakbejnlbgaaGreatDoorD3
set_option maxHeartbeats 6000000
set_option maxRecDepth 100000
namespace Go.Proofs.YtkaaakbejnlbgaaGreatDoor
open Go.RowKit Go.Proofs.Tryz
attribute [local go_sem ↓] Go.wp_at_zero Go.wp_at_succ
theorem Qop (A B C:Oz)(n m k c d e:Nat)(N:Qak)(w:World)(h:Qcp w A B C n m k N)(hn:n≤9223372036854775807)(hm:m≤9223372036854775807)(hk:k≤9223372036854775807) :
 Calls prog 105 #[.agg #[.slice A n c,.slice B m d,.slice C k e]] w fun e w'=>Qca (Qar N) e∧Bw w w':=by
 have HH:=Zh h;have HLV:=Zh h.1.1;have HLA:=Zh h.2.1.1;have HLT:=Zh h.2.2.1;clear h;by_cases q0:(n:Int) > 4096;{(go_enter func105,ntmps105);(go_wp2_with fail);(refine Qab ?_;intro w5 hw5);(have hB5:Blk w5 (w.heap.size+1) 53 #[.slice none 0 0,.int .i64 0]:=by rw [hw5];exact Qbi);(have hb5:Bw w w5:=by rw [hw5];exact Qag);exact Kaq};by_cases q1:(m:Int) > 16384;{(go_enter func105,ntmps105);(go_wp2_with fail);(refine Qab ?_;intro w5 hw5);(have hB5:Blk w5 (w.heap.size+1) 53 #[.slice none 0 0,.int .i64 0]:=by rw [hw5];exact Qbi);(have hb5:Bw w w5:=by rw [hw5];exact Qag);exact Kaq};by_cases q2:(k:Int) > 256;{(go_enter func105,ntmps105);(go_wp2_with fail);(refine Qab ?_;intro w5 hw5);(have hB5:Blk w5 (w.heap.size+1) 53 #[.slice none 0 0,.int .i64 0]:=by rw [hw5];exact Qbi);(have hb5:Bw w w5:=by rw [hw5];exact Qag);exact Kaq};go_enter func105,ntmps105
 go_wp2_with fail
 (refine Qai ?_;intro w1 hw1);have hb1:Bw w w1:=by rw [hw1];exact Qag
 have hN1:Blk w1 w.heap.size 26 #[.slice A n c,.slice B m d,.slice C k e]:=by rw [hw1];exact Qbi
 have hR1:Blk w1 (w.heap.size+1) 53 #[.slice none 0 0,.int .i64 0]:=by rw [hw1];exact Qbi
 clear hw1;go_loopw [3] (fun q W=>∃ i:Nat,i≤k∧q=.int .i64 i∧Bw w W∧Blk W w.heap.size 26 #[.slice A n c,.slice B m d,.slice C k e]∧Blk W (w.heap.size+1) 53 #[.slice none 0 0,.int .i64 0]∧∀ j t,j<i→N.ts[j]?=some t→Qtn t) (fun q _=>k-(intOf q).toNat)
 case atStart=>exact ⟨0,Nat.zero_le _,rfl,hb1,hN1,hR1,fun _ _ h=>absurd h (Nat.not_lt_zero _)⟩
 case round =>
  clear hb1 hN1 hR1;obtain ⟨i,hi,rfl,hbl,hNN,hRR,hall⟩:=hrel;have HA:=Zh hall;clear hall;obtain ⟨n0,n1,n2⟩:=hNN.three;have zN:=hNN.lt;have zR:=hRR.lt;by_cases hlt:i<k
  {obtain ⟨b,o,t,rfl,ht,k0,k1,A',n',c',k2,hr,hc1,hc2⟩:=(HH.o.2.2.below hbl).at_ hlt;(have i1:0≤(i:Int):=Oo);(have i2:(i:Int)<k:=Oo);have HT:=Zh ht;clear ht;have HTC:=Zh (show Calls prog 155 #[.agg #[.int .i64 t.ins,.int .i64 t.outs,.slice A' n' c']] wr fun e w'=>Qdf (Qtn t) wr.heap.size e w'∧Bw wr w' from Qll A' n' c' t wr hr Oo);(go_wp2_with fail);(with_reducible refine (HTC.o).mono ?_);rintro e w2 ⟨⟨A4,k4,c4,x,rfl,hg4,hx⟩,hb2⟩;have hN2:=hNN.below hb2 hNN.lt;have hR2:=hRR.below hb2 hRR.lt;have hbl2:Bw w w2:=Zb hbl hb2;clear n0 n1 n2 k0 k1 k2;(rcases hx with ⟨rfl,hT⟩|hx);{have HT2:=Zh hT;clear hT;(go_wp2_with fail);go_roundw;(case rel =>refine ⟨i+1,Oo,by go_num,Bel.alloc hbl2,hN2.alloc _,hR2.alloc _,fun j y hj hy=>?_⟩;by_cases e:j=i;{subst e;rw [HT.o] at hy;cases hy;exact HT2.o};{exact HA.o j y Oo hy});case measure=>simp [intOf];omega};{(go_wp2_with fail);(refine Qab ?_;intro w5 hw5);(have hB5:Blk w5 (w.heap.size+1) 53 #[.slice none 0 0,.int .i64 0]:=by rw [hw5];exact Qbi);(have hb5:Bw w w5:=by rw [hw5];exact Qag);(have hg5:Wg wr.heap.size w5 A4 k4 c4:=by rw [hw5];exact hg4.alloc _);(clear hw5;with_reducible refine (Qsr _ _ _ _ _ _ _ _ hx hg5).mono ?_);rintro e w6 ⟨⟨A6,n6,m6,rfl⟩,hb6⟩;have hB6:=Blk.below hB5 hb6 hB5.lt;obtain ⟨c0,c1,f0,f1⟩:=hB6.two;have hb6':Bw w w6:=Zb hb5 hb6;(go_wp2_with fail);refine bodyPost_ret (v:=.agg #[.slice A6 n6 m6,.int .i64 x]) (by simp [results,results105,go_sem,c0,c1]) rfl ?_;exact ⟨Qca.no hx,Qag⟩}}
  · obtain rfl:i=k:=by omega
    have HTA:=Zh (show ∀ t∈N.ts,Qtn t from fun t ht=>by
     obtain ⟨j,hj⟩:=Yr ht;exact HA.o j t (by rw [←HLT.o];exact (Zs hj).1) hj)
    clear HA;obtain ⟨w2,hw2⟩:=Zx wr;subst hw2;(go_wp2_with fail);clear n0 n1 n2 zN zR hlt hi;(go_loopw [5] (fun q W=>∃ j:Nat,j≤n∧q=.int .i64 j∧Bw w W∧Blk W w.heap.size 26 #[.slice A n c,.slice B m d,.slice C i e]∧Blk W (w.heap.size+1) 53 #[.slice none 0 0,.int .i64 0]∧∀ r v,r<j→N.vs[r]?=some v→Rdn i v) (fun q _=>n-(intOf q).toNat));case atStart=>exact ⟨0,Nat.zero_le _,rfl,hbl,hNN,hRR,fun _ _ h=>absurd h (Nat.not_lt_zero _)⟩
    case round =>
     clear hbl hNN hRR;obtain ⟨j,hj,rfl,hbl,hNN,hRR,hall⟩:=hrel;have HA:=Zh hall;clear hall;obtain ⟨n0,n1,n2⟩:=hNN.three;have zN:=hNN.lt;have zR:=hRR.lt;by_cases hlt:j<n
     · obtain ⟨b,o,x,y,z,rfl,hx,cx,cy,cz⟩:=(HH.o.1.below hbl).at_ hlt;(have i1:0≤(j:Int):=Oo);(have i2:(j:Int)<n:=Oo);have HX:=Zh hx;clear hx;have HF1:=Zh (show ∀ V,Calls prog 157 #[.int .i64 x] V fun e w'=>e=.returned (.bool (Qis x))∧V=w' from fun V=>Qtz x V);have HF2:=Zh (show ∀ V,Calls prog 157 #[.int .i64 y] V fun e w'=>e=.returned (.bool (Qis y))∧V=w' from fun V=>Qtz y V);cases e1:Qis x;{rw [e1] at HF1;(go_wp2_with fail);(with_reducible refine (HF1.o _).mono ?_);rintro e w' ⟨rfl,rfl⟩;(go_wp2_with fail);(refine Qab ?_;intro w5 hw5);(have hB5:Blk w5 (w.heap.size+1) 53 #[.slice none 0 0,.int .i64 0]:=by rw [hw5];exact Qbi);(have hb5:Bw w w5:=by rw [hw5];exact Qag);exact Kay};cases e2:Qis y;{rw [e1] at HF1;rw [e2] at HF2;have HE:=Zh e1;clear e1;(go_wp2_with fail);(with_reducible refine (HF1.o _).mono ?_);rintro e w' ⟨rfl,rfl⟩;(go_wp2_with fail);(with_reducible refine (HF2.o _).mono ?_);rintro e w' ⟨rfl,rfl⟩;(go_wp2_with fail);(refine Qab ?_;intro w5 hw5);(have hB5:Blk w5 (w.heap.size+1) 53 #[.slice none 0 0,.int .i64 0]:=by rw [hw5];exact Qbi);(have hb5:Bw w w5:=by rw [hw5];exact Qag);exact Kay};rw [e1] at HF1;rw [e2] at HF2;have HE1:=Zh e1;have HE2:=Zh e2;clear e1 e2;(go_wp2_with fail);(with_reducible refine (HF1.o _).mono ?_);rintro e w' ⟨rfl,rfl⟩;(go_wp2_with fail);(with_reducible refine (HF2.o _).mono ?_);rintro e w' ⟨rfl,rfl⟩;by_cases z0:z<0
       ·
        go_wp2_with fail
        (refine Qab ?_;intro w5 hw5)
        have hB5:Blk w5 (w.heap.size+1) 53 #[.slice none 0 0,.int .i64 0]:=by rw [hw5];exact Qbi
        have hb5:Bw w w5:=by rw [hw5];exact Qag
        clear hw5;with_reducible refine (Qax _ _ _ _).mono ?_
        rintro e w2 ⟨⟨A4,n4,m4,rfl,hg4⟩,hb⟩;have hB2:=Blk.below hB5 hb hB5.lt;obtain ⟨c0,c1,f0,f1⟩:=hB2.two;have hb2:Bw w w2:=Zb hb5 hb
        go_wp2_with fail
        refine bodyPost_ret (v:=.agg #[.slice A4 n4 m4,.int .i64 5]) (by simp [results,results105,go_sem,c0,c1]) rfl ?_
        first | exact ⟨Qca.no Sd,Qag⟩ | exact ⟨Qdf.no (Wg.mono (B:=w5.heap.size) (Wg.setCell (Wg.setCell hg4 hB5.lt _) hB5.lt _) hb5.size) Sd,Qag⟩
       by_cases z1:z ≥ (i:Int)
       ·
        go_wp2_with fail
        (refine Qab ?_;intro w5 hw5)
        have hB5:Blk w5 (w.heap.size+1) 53 #[.slice none 0 0,.int .i64 0]:=by rw [hw5];exact Qbi
        have hb5:Bw w w5:=by rw [hw5];exact Qag
        clear hw5;with_reducible refine (Qax _ _ _ _).mono ?_
        rintro e w2 ⟨⟨A4,n4,m4,rfl,hg4⟩,hb⟩;have hB2:=Blk.below hB5 hb hB5.lt;obtain ⟨c0,c1,f0,f1⟩:=hB2.two;have hb2:Bw w w2:=Zb hb5 hb
        go_wp2_with fail
        refine bodyPost_ret (v:=.agg #[.slice A4 n4 m4,.int .i64 5]) (by simp [results,results105,go_sem,c0,c1]) rfl ?_
        first | exact ⟨Qca.no Sd,Qag⟩ | exact ⟨Qdf.no (Wg.mono (B:=w5.heap.size) (Wg.setCell (Wg.setCell hg4 hB5.lt _) hB5.lt _) hb5.size) Sd,Qag⟩
       (go_wp2_with fail);go_roundw;(case rel =>refine ⟨j+1,Oo,by go_num,Bel.alloc hbl,hNN.alloc _,hRR.alloc _,fun r v hr hv=>?_⟩;by_cases e:r=j;{subst e;rw [HX.o] at hv;cases hv;exact ⟨HE1.o,HE2.o,Sn,Sn⟩};{exact HA.o r v Oo hv});case measure=>simp [intOf];omega
     · obtain rfl:j=n:=by omega
       have HVA:=Zh (show ∀ v∈N.vs,Rdn i v from fun v hv=>by
        obtain ⟨r,hr⟩:=Yr hv;exact HA.o r v (by rw [←HLV.o];exact (Zs hr).1) hr)
       clear HA;obtain ⟨w3,hw3⟩:=Zx wr;subst hw3;have hmk:=Qdp j Oo;(go_wp2_with fail);(refine Qai ?_;intro w4 hw4);(have hb4:Bw w w4:=by rw [hw4];exact Qag);(have hN4:Blk w4 w.heap.size 26 #[.slice A j c,.slice B m d,.slice C i e]:=by rw [hw4];exact Qiq);(have hR4:Blk w4 (w.heap.size+1) 53 #[.slice none 0 0,.int .i64 0]:=by rw [hw4];exact Qiq);(have hI4:Blk w4 w3.heap.size 3 (Qbg (.int .i64 0) j):=by rw [hw4];exact Qbi);(have hO4:Blk w4 (w3.heap.size+1) 3 (Qbg (.int .i64 0) j):=by rw [hw4];exact Qbi);obtain ⟨g,hg⟩:=Zx w3.heap.size;rw [←hg] at hI4 hO4 zR;rw [←hg];clear hw4 hmk n0 n1 n2 zN hbl hNN hRR hj hlt hg;(go_loopw [9] (fun q W=>∃ r:Nat,r≤m∧q=.int .i64 r∧Bw w W∧Blk W w.heap.size 26 #[.slice A j c,.slice B m d,.slice C i e]∧Blk W (w.heap.size+1) 53 #[.slice none 0 0,.int .i64 0]∧Blk W g 3 (Qbr (Qws (·.2.1) (N.ar.take r) j))∧Blk W (g+1) 3 (Qbr (Qws (·.1) (N.ar.take r) j))∧∀ p a,p<r→N.ar[p]?=some a→ArcOk j a) (fun q _=>m-(intOf q).toNat));case atStart=>exact ⟨0,Nat.zero_le _,rfl,hb4,hN4,hR4,by rw [List.take_zero,Qjt];exact hI4,by rw [List.take_zero,Qjt];exact hO4,fun _ _ h=>absurd h (Nat.not_lt_zero _)⟩
       case round =>
        clear hb4 hN4 hR4 hI4 hO4;obtain ⟨r,hr,rfl,hbl,hNN,hRR,hI,hO,hall⟩:=hrel;have HA:=Zh hall;clear hall;obtain ⟨n0,n1,n2⟩:=hNN.three;have zN:=hNN.lt;have zI:=hI.lt;have zO:=hO.lt;by_cases hlt:r<m
        · obtain ⟨b,o,x,y,z,rfl,hx,cx,cy,cz⟩:=(HH.o.2.1.below hbl).at_ hlt;(have i1:0≤(r:Int):=Oo);(have i2:(r:Int)<m:=Oo);have HX:=Zh hx;clear hx;by_cases x0:x<0
          ·
           go_wp2_with fail
           (refine Qab ?_;intro w5 hw5)
           have hB5:Blk w5 (w.heap.size+1) 53 #[.slice none 0 0,.int .i64 0]:=by rw [hw5];exact Qbi
           have hb5:Bw w w5:=by rw [hw5];exact Qag
           clear hw5;with_reducible refine (Qax _ _ _ _).mono ?_
           rintro e w2 ⟨⟨A4,n4,m4,rfl,hg4⟩,hb⟩;have hB2:=Blk.below hB5 hb hB5.lt;obtain ⟨c0,c1,f0,f1⟩:=hB2.two;have hb2:Bw w w2:=Zb hb5 hb
           go_wp2_with fail
           refine bodyPost_ret (v:=.agg #[.slice A4 n4 m4,.int .i64 5]) (by simp [results,results105,go_sem,c0,c1]) rfl ?_
           first | exact ⟨Qca.no Sd,Qag⟩ | exact ⟨Qdf.no (Wg.mono (B:=w5.heap.size) (Wg.setCell (Wg.setCell hg4 hB5.lt _) hB5.lt _) hb5.size) Sd,Qag⟩
          by_cases x1:x ≥ (j:Int)
          ·
           go_wp2_with fail
           (refine Qab ?_;intro w5 hw5)
           have hB5:Blk w5 (w.heap.size+1) 53 #[.slice none 0 0,.int .i64 0]:=by rw [hw5];exact Qbi
           have hb5:Bw w w5:=by rw [hw5];exact Qag
           clear hw5;with_reducible refine (Qax _ _ _ _).mono ?_
           rintro e w2 ⟨⟨A4,n4,m4,rfl,hg4⟩,hb⟩;have hB2:=Blk.below hB5 hb hB5.lt;obtain ⟨c0,c1,f0,f1⟩:=hB2.two;have hb2:Bw w w2:=Zb hb5 hb
           go_wp2_with fail
           refine bodyPost_ret (v:=.agg #[.slice A4 n4 m4,.int .i64 5]) (by simp [results,results105,go_sem,c0,c1]) rfl ?_
           first | exact ⟨Qca.no Sd,Qag⟩ | exact ⟨Qdf.no (Wg.mono (B:=w5.heap.size) (Wg.setCell (Wg.setCell hg4 hB5.lt _) hB5.lt _) hb5.size) Sd,Qag⟩
          by_cases y0:y<0
          ·
           go_wp2_with fail
           (refine Qab ?_;intro w5 hw5)
           have hB5:Blk w5 (w.heap.size+1) 53 #[.slice none 0 0,.int .i64 0]:=by rw [hw5];exact Qbi
           have hb5:Bw w w5:=by rw [hw5];exact Qag
           clear hw5;with_reducible refine (Qax _ _ _ _).mono ?_
           rintro e w2 ⟨⟨A4,n4,m4,rfl,hg4⟩,hb⟩;have hB2:=Blk.below hB5 hb hB5.lt;obtain ⟨c0,c1,f0,f1⟩:=hB2.two;have hb2:Bw w w2:=Zb hb5 hb
           go_wp2_with fail
           refine bodyPost_ret (v:=.agg #[.slice A4 n4 m4,.int .i64 5]) (by simp [results,results105,go_sem,c0,c1]) rfl ?_
           first | exact ⟨Qca.no Sd,Qag⟩ | exact ⟨Qdf.no (Wg.mono (B:=w5.heap.size) (Wg.setCell (Wg.setCell hg4 hB5.lt _) hB5.lt _) hb5.size) Sd,Qag⟩
          by_cases y1:y ≥ (j:Int)
          ·
           go_wp2_with fail
           (refine Qab ?_;intro w5 hw5)
           have hB5:Blk w5 (w.heap.size+1) 53 #[.slice none 0 0,.int .i64 0]:=by rw [hw5];exact Qbi
           have hb5:Bw w w5:=by rw [hw5];exact Qag
           clear hw5;with_reducible refine (Qax _ _ _ _).mono ?_
           rintro e w2 ⟨⟨A4,n4,m4,rfl,hg4⟩,hb⟩;have hB2:=Blk.below hB5 hb hB5.lt;obtain ⟨c0,c1,f0,f1⟩:=hB2.two;have hb2:Bw w w2:=Zb hb5 hb
           go_wp2_with fail
           refine bodyPost_ret (v:=.agg #[.slice A4 n4 m4,.int .i64 5]) (by simp [results,results105,go_sem,c0,c1]) rfl ?_
           first | exact ⟨Qca.no Sd,Qag⟩ | exact ⟨Qdf.no (Wg.mono (B:=w5.heap.size) (Wg.setCell (Wg.setCell hg4 hB5.lt _) hB5.lt _) hb5.size) Sd,Qag⟩
          have HF1:=Zh (show ∀ V,Calls prog 158 #[.int .i64 z] V fun e w'=>e=.returned (.bool (wOk z))∧V=w' from fun V=>Qgs z V);cases e1:wOk z;{rw [e1] at HF1;(go_wp2_with fail);(with_reducible refine (HF1.o _).mono ?_);rintro e w' ⟨rfl,rfl⟩;(go_wp2_with fail);(refine Qab ?_;intro w5 hw5);(have hB5:Blk w5 (w.heap.size+1) 53 #[.slice none 0 0,.int .i64 0]:=by rw [hw5];exact Qbi);(have hb5:Bw w w5:=by rw [hw5];exact Qag);(clear hw5;with_reducible refine (Qax _ _ _ _).mono ?_);rintro e w2 ⟨⟨A4,n4,m4,rfl,hg4⟩,hb⟩;have hB2:=Blk.below hB5 hb hB5.lt;obtain ⟨c0,c1,f0,f1⟩:=hB2.two;have hb2:Bw w w2:=Zb hb5 hb;(go_wp2_with fail);refine bodyPost_ret (v:=.agg #[.slice A4 n4 m4,.int .i64 8]) (by simp [results,results105,go_sem,c0,c1]) rfl ?_;exact Kag};(rw [e1] at HF1;have HE1:=Zh e1;clear e1;obtain ⟨u,rfl⟩:∃ u:Nat,x=u:=⟨x.toNat,Oo⟩;obtain ⟨v,rfl⟩:∃ v:Nat,y=v:=⟨y.toNat,Oo⟩;have hu:u<j:=Oo);(have hvn:v<j:=Oo);(have HX1:=Zh (Qjs (f:=(·.2.1)) (n:=j) (v:=v) HX.o rfl hvn);have HX2:=Zh (Qjs (f:=(·.1)) (n:=j) (v:=u) HX.o rfl hu);have c1:=hI.cellI (Qdi (f:=(·.2.1)) (l:=N.ar.take r) hvn);have c2:=hO.cellI (Qdi (f:=(·.1)) (l:=N.ar.take r) hu);have d1:=Qni (·.2.1) N.ar r v;have d2:=Qni (·.1) N.ar r u;generalize (N.ar.take r).countP (fun a=>a.2.1 == (v:Int))=p at *;generalize (N.ar.take r).countP (fun a=>a.1 == (u:Int))=q at *;have f1:=hI.frozen v;have f2:=hO.frozen u;obtain ⟨W2,hW2⟩:=Zx (((wr.setCell ⟨g+1,u,none⟩ (.int .i64 ((q:Int)+1))).setCell ⟨g,v,none⟩ (.int .i64 ((p:Int)+1))).alloc (.cells #[.int .i64 u,.int .i64 v,.int .i64 z] 141));have HW2:=Zh hW2;have hb2:Bw w W2:=by rw [hW2];exact Bel.alloc ((hbl.setCell Sn _).setCell Sn _));have HN2:=Zh (show Blk W2 w.heap.size 26 #[.slice A j c,.slice (some ⟨b,o,none⟩) m d,.slice C i e] from by rw [hW2];exact Qiq);have HR2:=Zh (show Blk W2 (w.heap.size+1) 53 #[.slice none 0 0,.int .i64 0] from by rw [hW2];exact Qiq)
          have HI2:=Zh (show Blk W2 g 3 (Qbr (Qws (·.2.1) (N.ar.take (r+1)) j)) from by
           rw [hW2];exact (Blk.setI (hI.far_ Oo _) HX1.o).alloc _)
          have HO2:=Zh (show Blk W2 (g+1) 3 (Qbr (Qws (·.1) (N.ar.take (r+1)) j)) from by
           rw [hW2];exact ((hO.setI HX2.o).far_ Oo _).alloc _)
          clear hW2 hI hO hNN hRR;(go_wp2_with fail);(with_reducible refine (HF1.o _).mono ?_);rintro e w' ⟨rfl,rfl⟩;(go_wp2_with fail);rw [←HW2.o];go_roundw;(case rel =>refine ⟨r+1,Oo,by go_num,hb2,HN2.o,HR2.o,HI2.o,HO2.o,fun p' a hp ha=>?_⟩;by_cases e:p'=r;{subst e;rw [HX.o] at ha;cases ha;exact ⟨Sn,Sn,Sn,Sn,HE1.o⟩};{exact HA.o p' a Oo ha});case measure=>simp [intOf];omega
        · (obtain rfl:r=m:=Oo);rw [Ye (by rw [HLA.o];exact Zn _)] at hI hO
          have HAA:=Zh (show ∀ a∈N.ar,ArcOk j a from fun a ha=>by
           obtain ⟨p,hp⟩:=Yr ha;exact HA.o p a (by rw [←HLA.o];exact (Zs hp).1) hp)
          clear HA;obtain ⟨w6,hw6⟩:=Zx wr;subst hw6;(go_wp2_with fail);clear n0 n1 n2 hlt hr;(go_loopw [11] (fun q W=>∃ s:Nat,s≤j∧q=.int .i64 s∧Bw w6 W∧∀ (p:Nat) v t,p<s→N.vs[p]?=some v→N.ts[v.2.2.toNat]?=some t→(cntTo N.ar p:Int)=t.ins∧(cntFr N.ar p:Int)=t.outs) (fun q _=>j-(intOf q).toNat));case atStart=>exact ⟨0,Nat.zero_le _,rfl,Zr _ _,fun _ _ _ h=>absurd h (Nat.not_lt_zero _)⟩
          case round =>
           obtain ⟨s,hs,rfl,hb2,hall⟩:=hrel;have HA:=Zh hall;clear hall;have hNr:=hNN.below hb2 zN;have hRr:=hRR.below hb2 hRR.lt;have hIr:=hI.below hb2 zI;have hOr:=hO.below hb2 zO;have hblr:Bw w wr:=Zb hbl hb2;obtain ⟨n0,n1,n2⟩:=hNr.three;have zr:=hb2.size;by_cases hlt2:s<j
           · obtain ⟨b,o,x,y,z,rfl,hx,cx,cy,cz⟩:=(HH.o.1.below hblr).at_ hlt2;(have hok:=HVA.o _ (Zm hx);have t0:=hok.t0;have t1:=hok.t1;simp only at t0 t1;obtain ⟨u,rfl⟩:∃ u:Nat,z=u:=⟨z.toNat,Oo⟩;have hu:u<i:=Oo);obtain ⟨b',o',t,rfl,htt,k0,k1,A',n',c',k2,_,_,_⟩:=(HH.o.2.2.below hblr).at_ hu;obtain ⟨ti,to_,tc⟩:=t;simp only at k0 k1;have HX:=Zh hx;have HTT:=Zh htt;have c1:=hIr.cellI (Qdi (f:=(·.2.1)) (l:=N.ar) hlt2);have c2:=hOr.cellI (Qdi (f:=(·.1)) (l:=N.ar) hlt2);obtain ⟨p,hp⟩:=Zx (N.ar.countP (fun a=>a.2.1 == (s:Int)));obtain ⟨q,hq⟩:=Zx (N.ar.countP (fun a=>a.1 == (s:Int)));rw [←hp] at c1;rw [←hq] at c2;have HP:=Zh hp;have HQ:=Zh hq
             have HSX:=Zh (show ∀ V,Bw wr V→V.cell? ⟨w.heap.size,0,none⟩=some (.slice (some ⟨b,o,none⟩) j c)∧V.cell? ⟨w.heap.size,2,none⟩=some (.slice (some ⟨b',o',none⟩) i e)∧V.cell? ⟨b,o+s*3+2,none⟩=some (.int .i64 u)∧V.cell? ⟨b',o'+u*3,none⟩=some (.int .i64 ti)∧V.cell? ⟨b',o'+u*3+1,none⟩=some (.int .i64 to_)∧V.cell? ⟨b',o'+u*3+2,none⟩=some (.slice A' n' c') from fun V hV =>
              ⟨Zc hV (Zn _) n0,Zc hV (Zn _) n2,Zc hV (Zn _) cz,Zc hV (Zn _) k0,Zc hV (Zn _) k1,Zc hV (Zn _) k2⟩)
             (have i1:0≤(s:Int):=Oo);(have i2:(s:Int)<j:=Oo);(have i3:0≤(u:Int):=Oo);(have i4:(u:Int)<i:=Oo);clear hx htt hok hp hq cx cy cz k0 k1 k2 n1;(go_wp2_with fail);refine wp_region_held_drew (S:=fun V=>Bw wr V) Kf (Zr _ _).drew (fun _=>?_);refine tzd 0 160 ?_;refine tzd 4 164 ?_;refine tzb 8 168 ?_;refine Zk 10 (fun K hK=>?_);go_simp;refine hK.out _ _ (by repeat (first|exact Zr _ _|apply Below.drew|apply Bel.alloc)) (fun _=>?_);(clear hK K;refine Zk 11 (fun K hK=>?_);go_simp;obtain ⟨w7,hw7⟩:=Zx ((wr.alloc (.cells #[.int .i64 ti,.int .i64 to_,.slice A' n' c'] 137)).drew);rw [←hw7];have hb7:Bw wr w7:=by rw [hw7];exact ((Zr _ _).alloc (Zn _) _).drew);(have hT7:Blk w7 wr.heap.size 137 #[.int .i64 ti,.int .i64 to_,.slice A' n' c']:=by rw [hw7];exact Qbi);refine hK.out _ _ hb7 (fun _=>?_);clear hK K hw7;refine Zd ?_;have hR7:=hRr.below hb7 hRr.lt;have hbl7:Bw w w7:=Zb hblr hb7;have c1':=Zc hb7 (Zn _) c1;have c2':=Zc hb7 (Zn _) c2;obtain ⟨e0,e1,_⟩:=hT7.three;clear c1 c2 n0 n2;by_cases p16:(p:Int) > 16
             ·
              go_wp2_with fail
              (refine Qab ?_;intro w5 hw5)
              have hB5:Blk w5 (w.heap.size+1) 53 #[.slice none 0 0,.int .i64 0]:=by rw [hw5];exact Qbi
              have hb5:Bw w w5:=by rw [hw5];exact Qag
              clear hw5;with_reducible refine (Qax _ _ _ _).mono ?_
              rintro e w2 ⟨⟨A4,n4,m4,rfl,hg4⟩,hb⟩;have hB2:=Blk.below hB5 hb hB5.lt;obtain ⟨c0,c1,f0,f1⟩:=hB2.two;have hb2:Bw w w2:=Zb hb5 hb
              go_wp2_with fail
              refine bodyPost_ret (v:=.agg #[.slice A4 n4 m4,.int .i64 4]) (by simp [results,results105,go_sem,c0,c1]) rfl ?_
              first | exact ⟨Qca.no Sd,Qag⟩ | exact ⟨Qdf.no (Wg.mono (B:=w5.heap.size) (Wg.setCell (Wg.setCell hg4 hB5.lt _) hB5.lt _) hb5.size) Sd,Qag⟩
             by_cases q16:(q:Int) > 16
             ·
              go_wp2_with fail
              (refine Qab ?_;intro w5 hw5)
              have hB5:Blk w5 (w.heap.size+1) 53 #[.slice none 0 0,.int .i64 0]:=by rw [hw5];exact Qbi
              have hb5:Bw w w5:=by rw [hw5];exact Qag
              clear hw5;with_reducible refine (Qax _ _ _ _).mono ?_
              rintro e w2 ⟨⟨A4,n4,m4,rfl,hg4⟩,hb⟩;have hB2:=Blk.below hB5 hb hB5.lt;obtain ⟨c0,c1,f0,f1⟩:=hB2.two;have hb2:Bw w w2:=Zb hb5 hb
              go_wp2_with fail
              refine bodyPost_ret (v:=.agg #[.slice A4 n4 m4,.int .i64 4]) (by simp [results,results105,go_sem,c0,c1]) rfl ?_
              first | exact ⟨Qca.no Sd,Qag⟩ | exact ⟨Qdf.no (Wg.mono (B:=w5.heap.size) (Wg.setCell (Wg.setCell hg4 hB5.lt _) hB5.lt _) hb5.size) Sd,Qag⟩
             by_cases m1:(p:Int)=ti;rotate_left;{(have d1:((p:Int) != ti)=true:=by simpa using m1);(have d2:((p:Int) == ti)=false:=by simpa using m1);clear m1;(go_wp2_with fail);(go_quiet (fail));(go_wp2_with fail);(refine Qab ?_;intro w5 hw5);(have hB5:Blk w5 (w.heap.size+1) 53 #[.slice none 0 0,.int .i64 0]:=by rw [hw5];exact Qbi);(have hb5:Bw w w5:=by rw [hw5];exact Qag);exact Kaz};(subst m1;have d1:(((p:Nat):Int) != ((p:Nat):Int))=false:=Sm);by_cases m2:(q:Int)=to_;rotate_left;{(have d3:((q:Int) != to_)=true:=by simpa using m2);(have d4:((q:Int) == to_)=false:=by simpa using m2);clear m2;(go_wp2_with fail);(go_quiet (fail));(go_wp2_with fail);(refine Qab ?_;intro w5 hw5);(have hB5:Blk w5 (w.heap.size+1) 53 #[.slice none 0 0,.int .i64 0]:=by rw [hw5];exact Qbi);(have hb5:Bw w w5:=by rw [hw5];exact Qag);exact Kaz};(subst m2;have d2:(((q:Nat):Int) != ((q:Nat):Int))=false:=Sm);(go_wp2_with fail);(go_quiet (fail));(go_wp2_with fail);go_roundw;(case rel =>refine ⟨s+1,Oo,by go_num,Qbd (Zb hb2 hb7) _,fun p' v' t' hp' hv' ht'=>?_⟩;by_cases e:p'=s;{subst e;rw [HX.o] at hv';cases hv';simp only [Yl] at ht';rw [HTT.o] at ht';cases ht';exact ⟨by rw [HP.o];rfl,by rw [HQ.o];rfl⟩};{exact HA.o p' v' t' Oo hv' ht'});case measure=>simp [intOf];omega
           {(obtain rfl:s=j:=Oo);obtain ⟨c0,c1,f0,f1⟩:=hRr.two;(go_wp2_with fail);refine bodyPost_ret (v:=.agg #[.slice none 0 0,.int .i64 0]) (by simp [results,results105,go_sem,c0,c1]) rfl ?_;refine ⟨⟨_,_,_,_,rfl,.inl ⟨rfl,⟨by rw [HLV.o];omega,by rw [HLA.o];omega,by rw [HLT.o];omega,HTA.o,by rw [HLT.o];exact HVA.o,by rw [HLV.o];exact HAA.o,fun p v t hv ht=>?_⟩⟩⟩,Qag⟩;exact HA.o p v t (by rw [←HLV.o];exact (Zs hv).1) hv ht}
def Qkr (G:Prop)(e:Ending):Prop:=∃ b:Bool,e=.returned (.bool b)∧(b=true→G)
structure FewOk (N:Qak):Prop where
 v:N.vs.length≤80
 a:N.ar.length≤300
 t:N.ts.length≤80
 c:∀ t∈N.ts,t.costs.length≤300
theorem few_any (A B C:Oz)(n m k c d e:Nat)(N:Qak)(w:World)(h:Qcp w A B C n m k N) :
 Calls prog 104 #[.agg #[.slice A n c,.slice B m d,.slice C k e]] w fun e w'=>Qkr (FewOk N) e∧Bw w w':=by
 have HH:=Zh h;have HLV:=Zh h.1.1;have HLA:=Zh h.2.1.1;have HLT:=Zh h.2.2.1;clear h;by_cases q0:(n:Int) > 80;{(go_enter func104,ntmps104);exact Kbm};by_cases q1:(m:Int) > 300;{(go_enter func104,ntmps104);exact Kbm};by_cases q2:(k:Int) > 80;{(go_enter func104,ntmps104);exact Kbm};go_enter func104,ntmps104
 go_wp2_with fail
 (refine Qai ?_;intro w1 hw1);have hb1:Bw w w1:=by rw [hw1];exact Qag
 have hN1:Blk w1 w.heap.size 26 #[.slice A n c,.slice B m d,.slice C k e]:=by rw [hw1];exact Blk.new _ _ _
 clear hw1;obtain ⟨n0,n1,n2⟩:=hN1.three;have zN:=hN1.lt;have H1:=Zh (HH.o.below hb1);go_loop [3] (fun q=>∃ i:Nat,i≤k∧q=.int .i64 i∧∀ j t,j<i→N.ts[j]?=some t→t.costs.length≤300) (fun q=>k-(intOf q).toNat)
 case atStart=>exact ⟨0,Nat.zero_le _,rfl,fun _ _ h=>absurd h (Nat.not_lt_zero _)⟩
 case round =>
  obtain ⟨i,hi,rfl,hall⟩:=hrel;have HA:=Zh hall;clear hall;by_cases hlt:i<k
  {obtain ⟨b,o,t,rfl,ht,k0,k1,A',n',c',k2,hr,hc1,hc2⟩:=H1.o.2.2.at_ hlt;(have i1:0≤(i:Int):=Oo);(have i2:(i:Int)<k:=Oo);have HT:=Zh ht;have HC:=Zh hr.1;clear ht hr;by_cases q3:(n':Int) > 300;{(go_wp2_with fail);go_ret;exact ⟨⟨false,rfl,fun h=>by cases h⟩,hb1⟩};{(go_wp2_with fail);(go_round);(case rel =>refine ⟨i+1,Oo,by go_num,fun j y hj hy=>?_⟩;by_cases e:j=i;{subst e;rw [HT.o] at hy;cases hy;rw [HC.o];omega};{exact HA.o j y Oo hy});case measure=>simp [intOf];omega}};{(obtain rfl:i=k:=Oo);(go_wp2_with fail);go_ret;refine ⟨⟨true,rfl,fun _=>⟨by rw [HLV.o];omega,by rw [HLA.o];omega,by rw [HLT.o];omega,fun t ht=>?_⟩⟩,hb1⟩;obtain ⟨j,hj⟩:=Yr ht;exact HA.o j t (by rw [←HLT.o];exact (Zs hj).1) hj}
theorem Qmo (A:Oz)(n m:Nat)(c:Int)(V:World):(Instr.field 53 (.agg #[.slice A n m,.int .i64 c]) 1).run prog V=.ok (.int .i64 c) V:=Kf
theorem may3_any (A B C:Oz)(n m k c d e:Nat)(N:Qak)(w:World)(h:Qcp w A B C n m k N)(hn:n≤9223372036854775807)(hm:m≤9223372036854775807)(hk:k≤9223372036854775807) :
 Calls prog 53 #[.agg #[.slice A n c,.slice B m d,.slice C k e]] w fun e w'=>Qkr (FewOk N∧Qar N) e∧Bw w w':=by
 go_enter func53,ntmps53
 go_wp2_with fail
 (refine Qab ?_;intro w1 hw1);have hb1:Bw w w1:=by rw [hw1];exact Qag
 have hN1:Blk w1 w.heap.size 26 #[.slice A n c,.slice B m d,.slice C k e]:=by rw [hw1];exact Blk.new _ _ _
 clear hw1;with_reducible refine (few_any A B C n m k c d e N w1 (h.below hb1)).mono ?_
 rintro e' w2 ⟨⟨b,rfl,hf⟩,hb2⟩;have hb2':=Zb hb1 hb2;obtain ⟨n0,n1,n2⟩:=(hN1.below hb2 hN1.lt).three;cases b;{(go_wp2_with fail);go_ret;exact ⟨⟨false,rfl,fun h=>by cases h⟩,Qag⟩};have HF:=Zh (hf rfl);clear hf;go_wp2_with fail
 with_reducible refine (Qop A B C n m k c d e N w2 (h.below hb2') hn hm hk).mono ?_
 rintro e' w3 ⟨⟨A4,k4,c4,x,rfl,hx⟩,hb3⟩;have hb3':=Zb hb2' hb3;have hfe:=Qmo A4 k4 c4 x w3;clear hn hm hk h n0 n1 n2;rcases hx with ⟨rfl,hG⟩|hx
 {have HG:=Zh hG;clear hG;(go_wp2_with fail);go_ret;exact ⟨⟨true,rfl,fun _=>⟨HF.o,HG.o⟩⟩,hb3'⟩};{(go_wp2_with fail);go_ret;exact ⟨⟨_,rfl,fun h=>absurd (by simpa using h) hx⟩,hb3'⟩}
structure Rdm (N:Qak):Prop where
 v:N.vs.length≤24
 a:N.ar.length≤90
 few:FewOk N
 ok:Qar N
theorem Qox (A B C:Oz)(n m k c d e:Nat)(N:Qak)(w:World)(h:Qcp w A B C n m k N)(hk:k≤9223372036854775807) :
 Calls prog 19 #[.agg #[.slice A n c,.slice B m d,.slice C k e]] w fun e w'=>Qkr (Rdm N) e∧Bw w w':=by
 have HLV:=Zh h.1.1;have HLA:=Zh h.2.1.1;have HH:=Zh h;have HK:=Zh hk;clear hk h;by_cases q0:(n:Int)≤24;rotate_left;{(go_enter func19,ntmps19);exact Kbm};by_cases q1:(m:Int)≤90;rotate_left;{(go_enter func19,ntmps19);exact Kbm};go_enter func19,ntmps19
 go_wp2_with fail
 (refine Qab ?_;intro w1 hw1);have hb1:Bw w w1:=by rw [hw1];exact Qag
 clear hw1;with_reducible refine (may3_any A B C n m k c d e N w1 (HH.o.below hb1) Oo Oo HK.o).mono ?_
 rintro e' w2 ⟨⟨b,rfl,hf⟩,hb2⟩;have HF:=Zh hf;clear hf;have hb2':=Zb hb1 hb2;go_wp2_with fail
 go_ret;exact ⟨⟨b,rfl,fun h=>⟨by rw [HLV.o];omega,by rw [HLA.o];omega,(HF.o h).1,(HF.o h).2⟩⟩,hb2'⟩
theorem Qnw:(Tryz.prog.info? 2).map (fun i=>(i.zero,i.size,i.bytes))=some (some (.int .i64 0),1,8):=Kf
theorem Rib (A:Oz)(n c:Nat)(t:Qgc)(w:World)(h:RdI w A n t.costs)(hn:n≤1000000) :
 Calls prog 109 #[.agg #[.int .i64 t.ins,.int .i64 t.outs,.slice A n c]] w fun e w'=>∃ A' c',e=.returned (.agg #[.int .i64 t.ins,.int .i64 t.outs,.slice A' n c'])∧Own w' w.heap.size 2 1 A' n c' (Qae t.costs)∧Bw w w':=by
 obtain ⟨i,o,cs⟩:=t;have h:RdI w A n cs:=h;simp only;have HR:=Zh h;clear h;go_enter func109,ntmps109
 go_wp2_with fail
 (refine Qai ?_;intro w1 hw1);have hb1:Bw w w1:=by rw [hw1];exact Qag
 have hT1:Blk w1 w.heap.size 137 #[.int .i64 i,.int .i64 o,.slice A n c]:=by rw [hw1];exact Qbi
 have hB1:Blk w1 (w.heap.size+1) 198 #[.int .i64 0,.int .i64 0,.slice none 0 0]:=by rw [hw1];exact Qbi
 have hz1:w1.heap.size=w.heap.size+1+1:=by rw [hw1];simp
 clear hw1;obtain ⟨t0,t1,t2⟩:=hT1.three;have hb0:Below (w.heap.size+1) w1 w1.drew:=(Zr _ _).drew;have HSX:=Zh (show ∀ V,Below (w.heap.size+1) w1 V→V.cell? ⟨w.heap.size,0,none⟩=some (.int .i64 i)∧V.cell? ⟨w.heap.size,1,none⟩=some (.int .i64 o)∧V.cell? ⟨w.heap.size,2,none⟩=some (.slice A n c) from fun V hV=>⟨(hV.cell (Nat.lt_succ_self _)).trans t0,(hV.cell (Nat.lt_succ_self _)).trans t1,(hV.cell (Nat.lt_succ_self _)).trans t2⟩);clear t0 t1 t2;refine wp_region_held_drew (S:=fun V=>Below (w.heap.size+1) w1 V) Kf hb0 (fun _=>?_);refine tzd 0 3 ?_;refine tzb 5 8 ?_;refine Zk 4 (fun K hK=>?_);go_simp;obtain ⟨W,hW⟩:=Zx ((w1.alloc (.cells #[] 2)).drew);rw [←hW];have hownW:Own W (w.heap.size+1+1) 2 1 (some ⟨w1.heap.size,0,none⟩) 0 0 []:=by{rw [hW];exact Own.drew (Own.lit w1 #[] 0 Oo Oo rfl)};rw [hz1] at hownW;have hbW:Below (w.heap.size+1) w1 W:=by rw [hW];exact ((Zr _ _).alloc Oo _).drew
 have hB2:Blk W (w.heap.size+1) 198 #[.int .i64 0,.int .i64 0,.slice none 0 0]:=by rw [hW];exact Qiq
 have hbwW:Bw w W:=hb1.trans (hbW.mono Oo);have hrW:Rds W 1 A n (Qae cs):=(HR.o.below hbwW).rdsI;have hzW:w.heap.size+1+1≤W.heap.size:=by have:=hbW.size;omega
 clear hW;refine hK.out _ _ hbW (fun _=>?_);clear hK K;refine Zk 7 (fun K hK=>?_);with_reducible refine Qbc (some 10) rfl rfl (.tmp 7) (.tmp 9) 37 rfl 2 _ 1 8 Qnw underlying37 rfl Oo rfl rfl hownW hrW (Qaq _) Oo Oo hzW ?_
 intro A' c' w' hown' hg' _;have hb5:Below (w.heap.size+1) w1 w':=Zo hbW hg' (hownW.mono Oo) Oo;have hb6:Bw w w':=Zo hbwW hg' (hownW.mono Oo) Oo;have hB':=hB2.grown hg' (hownW.ne Oo);rw [Yz,List.nil_append] at hown';have HO:=Zh (hown'.mono (show w.heap.size+2≤w.heap.size+1+1 by omega));refine hK.out _ _ hb5 (fun _=>?_);clear hK K hownW hrW hg' hown';simp only [Act.put,Yi,Yj,Yk,Yz];obtain ⟨c0,c1,c2⟩:=hB'.three;have f0:=hB'.frozen 0;have f1:=hB'.frozen 1;have f2:=hB'.frozen 2;refine tz 8 11 ?_;refine Zk 9 (fun K hK=>?_);go_simp;refine hK.out _ _ (((hb5.setCell (Zn _) _).setCell (Zn _) _).setCell (Zn _) _) (fun _=>?_);clear hK K;refine Zd ?_;go_wp2_with fail
 refine bodyPost_ret (v:=.agg #[.int .i64 i,.int .i64 o,.slice A' n c']) (by simp [results,results109,go_sem,c0,c1,c2]) rfl ?_;refine ⟨A',c',rfl,?_,Qag⟩;have:=ownsRow_setCell_below (ownsRow_setCell_below (ownsRow_setCell_below HO.o (a:=⟨w.heap.size+1,0,none⟩) (by show w.heap.size+1<w.heap.size+2;omega) (.int .i64 i)) (a:=⟨w.heap.size+1,1,none⟩) (by show w.heap.size+1<w.heap.size+2;omega) (.int .i64 o)) (a:=⟨w.heap.size+1,2,none⟩) (by show w.heap.size+1<w.heap.size+2;omega) (.slice A' n c');exact Own.mono this Oo
def YwO (W:World)(B:Nat)(A:Oz)(n c:Nat)(xs:List Value)(ls:List Qgc):Prop :=
 Own W B 198 3 A n c xs∧ls.length=n∧∀ j t,ls[j]?=some t→∃ A2 n2 c2,xs[j*3]?=some (.int .i64 t.ins)∧xs[j*3+1]?=some (.int .i64 t.outs)∧xs[j*3+2]?=some (.slice A2 n2 c2)∧RdI W A2 n2 t.costs∧(∀ g,Qaa A2=some g→B≤g∧g<W.heap.size∧Qaa A≠some g)∧n2≤c2∧c2≤9223372036854775807
theorem YwO.nil (W:World)(B:Nat):YwO W B none 0 0 [] []:=⟨Own.nil _ _ _ _,rfl,fun j l h=>by simp at h⟩
theorem YwO.rdY {W:World}{B n c:Nat}{A:Oz}{xs:List Value}{ls:List Qgc}(h:YwO W B A n c xs ls):RdY W A n ls :=
 ⟨h.2.1,fun i t ht=>by
  obtain ⟨A2,n2,c2,h1,h2,h3,h4,_,h5,h6⟩:=h.2.2 i t ht;obtain ⟨b,o,e,k1⟩:=h.1.rds.2 _ _ h1;obtain ⟨b',o',e',k2⟩:=h.1.rds.2 _ _ h2;rw [e] at e';cases e'
  obtain ⟨b',o',e',k3⟩:=h.1.rds.2 _ _ h3;rw [e] at e';cases e'
  exact ⟨b,o,e,k1,by rw [Nat.add_assoc];exact k2,A2,n2,c2,by rw [Nat.add_assoc];exact k3,h4,h5,h6⟩⟩
theorem YwO.push {W w':World}{B n c c' m d:Nat}{A A' R:Oz}{xs:List Value}{ls:List Qgc}{t:Qgc}(h:YwO W B A n c xs ls)
 (hown:Own w' B 198 3 A' (n+1) c' (xs ++[.int .i64 t.ins,.int .i64 t.outs,.slice R m d])) (hg:W.grownBy w' (Qaa A)) (hat:Qaa A'=Qaa A∨Qaa A'=some W.heap.size)
 (hr:RdI W R m t.costs) (hne:∀ g,Qaa R=some g→B≤g∧g<W.heap.size∧Qaa A≠some g) (h4:m≤d) (h5:d≤9223372036854775807):YwO w' B A' (n+1) c' (xs ++[.int .i64 t.ins,.int .i64 t.outs,.slice R m d]) (ls ++[t]):=by
 have hxl:xs.length=ls.length*3:=by rw [h.1.1,h.2.1]
 have new:∀ Y:Oz,(∀ g,Qaa Y=some g→B≤g∧g<W.heap.size∧Qaa A≠some g)→∀ g,Qaa Y=some g→B≤g∧g<w'.heap.size∧Qaa A'≠some g:=fun Y hY g e=>by{obtain ⟨k0,k1,k2⟩:=hY g e;refine ⟨k0,Yu k1 hg.size,fun e2=>?_⟩;exact Kbh};refine ⟨hown,by simp [h.2.1],fun j t' hl=>?_⟩;rcases Nat.lt_trichotomy j ls.length with hj|hj|hj
 {rw [Yc hj] at hl;obtain ⟨A2,n2,c2,p1,p2,p3,k2,k3,k4,k5⟩:=h.2.2 j t' hl;exact ⟨A2,n2,c2,by rw [Yc Oo];exact p1,by rw [Yc Oo];exact p2,by rw [Yc Oo];exact p3,k2.grownN hg (fun g e=>(k3 g e).2.2),new A2 k3,k4,k5⟩};{subst hj;rw [Yb (Zn _),Yy] at hl;cases hl;refine ⟨R,m,d,?_,?_,?_,hr.grownN hg (fun g e=>(hne g e).2.2),new R hne,h4,h5⟩;{rw [←hxl,Yb (Zn _),Yy];rfl};{rw [←hxl,Yb Oo,Nat.add_sub_cancel_left];rfl};{rw [←hxl,Yb Oo,Nat.add_sub_cancel_left];rfl}};{rw [Yd (by simp;omega)] at hl;cases hl}
theorem YwO.below {W W':World}{B n c:Nat}{A:Oz}{xs:List Value}{ls:List Qgc}(h:YwO W B A n c xs ls)(hb:Bw W W'):YwO W' B A n c xs ls :=
 ⟨h.1.below hb,h.2.1,fun i l hl=>by
  obtain ⟨A',n',c',p1,p2,p3,h2,h3,h4,h5⟩:=h.2.2 i l hl;exact ⟨A',n',c',p1,p2,p3,h2.below hb,fun g hg=>⟨(h3 g hg).1,Yu (h3 g hg).2.1 hb.size,(h3 g hg).2.2⟩,h4,h5⟩⟩
theorem YwO.far {W W':World}{B n c:Nat}{A:Oz}{xs:List Value}{ls:List Qgc}(h:YwO W B A n c xs ls){g:Nat} (hg:W.grownBy W' (some g)) (hB:g<B):YwO W' B A n c xs ls :=
 ⟨h.1.far hg (.inr (fun e=>by have:=(h.1.lt g e).1;omega)),h.2.1,fun i l hl=>by
  obtain ⟨A',n',c',p1,p2,p3,h2,h3,h4,h5⟩:=h.2.2 i l hl;refine ⟨A',n',c',p1,p2,p3,h2.grownN hg (fun k hk e=>?_),fun k hk=>⟨(h3 k hk).1,Yu (h3 k hk).2.1 hg.size,(h3 k hk).2.2⟩,h4,h5⟩
  cases e
  have:=(h3 g hk).1;omega⟩
def Le (w w':World):Prop:=∀ a v,w.cell? a=some v→w'.cell? a=some v
theorem Le.refl (w:World):Le w w:=fun _ _ h=>h
theorem Le.trans {a b c:World}(h:Le a b)(k:Le b c):Le a c:=fun x v hx=>k x v (h x v hx)
theorem Le.below {w w':World}(hb:Bw w w'):Le w w':=fun _ _ h=>Zc hb (Zn _) h
section
variable {w w':World} {A:Oz} {n:Nat}
theorem RdK.le {k:IntKind}{l:Iz}(h:RdK k w A n l)(hl:Le w w'):RdK k w' A n l :=
 ⟨h.1,fun i x hx=>by obtain ⟨b,o,e,hc⟩:=h.2 i x hx;exact ⟨b,o,e,hl _ _ hc⟩⟩
theorem RdB.le {l:List Bool}(h:RdB w A n l)(hl:Le w w'):RdB w' A n l :=
 ⟨h.1,fun i x hx=>by obtain ⟨b,o,e,hc⟩:=h.2 i x hx;exact ⟨b,o,e,hl _ _ hc⟩⟩
theorem RdP.le {l:Pz} (h:RdP w A n l) (hl:Le w w'):RdP w' A n l :=
 ⟨h.1,fun i x hx=>by obtain ⟨b,o,e,hc,hd⟩:=h.2 i x hx;exact ⟨b,o,e,hl _ _ hc,hl _ _ hd⟩⟩
theorem Rd3.le {l:List Tri}(h:Rd3 w A n l)(hl:Le w w'):Rd3 w' A n l :=
 ⟨h.1,fun i x hx=>by obtain ⟨b,o,e,h1,h2,h3⟩:=h.2 i x hx;exact ⟨b,o,e,hl _ _ h1,hl _ _ h2,hl _ _ h3⟩⟩
theorem RdT.le {ls:Lz} (h:RdT w A n ls) (hl:Le w w'):RdT w' A n ls :=
 ⟨h.1,fun i l hx=>by obtain ⟨b,o,A',n',c',h1,h2,h3,h4⟩:=h.2 i l hx;exact ⟨b,o,A',n',c',h1,hl _ _ h2,h3.le hl,h4⟩⟩
theorem Qtm.le {b o:Nat}{t:Qgc}(h:Qtm w b o t)(hl:Le w w'):Qtm w' b o t:=by obtain ⟨h1,h2,A,n,c,h3,h4,h5⟩:=h;exact ⟨hl _ _ h1,hl _ _ h2,A,n,c,hl _ _ h3,h4.le hl,h5⟩
theorem RdY.le {l:List Qgc}(h:RdY w A n l)(hl:Le w w'):RdY w' A n l :=
 ⟨h.1,fun i t ht=>by obtain ⟨b,o,e,hc⟩:=h.2 i t ht;exact ⟨b,o,e,hc.le hl⟩⟩
theorem Qcp.le {B C:Oz}{m k:Nat}{N:Qak}(h:Qcp w A B C n m k N)(hl:Le w w'):Qcp w' A B C n m k N:=⟨h.1.le hl,h.2.1.le hl,h.2.2.le hl⟩
end
noncomputable def msk (W:World) (G:Nat→Prop):World:=by classical exact { W with heap:=W.heap.mapIdx (fun i o=>if G i then o else .cells #[] 0) }
theorem Rgv {W:World}{G:Nat→Prop}{b:Nat}(h:G b):(msk W G).heap[b]?=W.heap[b]?:=by
 unfold msk;simp only [Array.getElem?_mapIdx]
 cases W.heap[b]? with
 | none=>rfl
 | some o=>simp [h]
theorem Qat {W:World}{G:Nat→Prop}{a:Addr}{v:Value}:(msk W G).cell? a=some v↔G a.block∧W.cell? a=some v:=by
 by_cases h:G a.block;{unfold World.cell?;rw [Rgv h];simp [h]}
 · unfold World.cell? msk;simp only [Array.getElem?_mapIdx]
   cases W.heap[a.block]? with
   | none=>simp [h]
   | some o=>simp [h]
theorem Qan (W:World)(G:Nat→Prop):Le (msk W G) W:=fun _ _ h=>(Qat.1 h).2
theorem Qbj {W:World}{G G':Nat→Prop}(h:∀ b,G b→G' b):Le (msk W G) (msk W G'):=fun _ _ hc=>Qat.2 ⟨h _ (Qat.1 hc).1,(Qat.1 hc).2⟩
def Qaz (G:Nat→Prop)(W W':World):Prop:=∀ b,G b→b<W.heap.size→W'.heap[b]?=W.heap[b]?
theorem Qaz.refl (G:Nat→Prop)(W:World):Qaz G W W:=fun _ _ _=>rfl
theorem Qaz.trans {G:Nat→Prop}{a b c:World}(h:Qaz G a b)(k:Qaz G b c)(hz:a.heap.size≤b.heap.size):Qaz G a c:=fun i hi hl=>(k i hi Oo).trans (h i hi hl)
theorem Qaz.below {G:Nat→Prop}{W W':World}(h:Bw W W'):Qaz G W W':=fun b _ hl=>h.block b hl
theorem Qaz.mono {G G':Nat→Prop}{W W':World}(h:Qaz G W W')(hs:∀ b,G' b→G b):Qaz G' W W':=fun b hb hl=>h b (hs b hb) hl
theorem Qaz.grown {G:Nat→Prop}{W W':World}{r:Option Nat}(h:W.grownBy W' r)(hr:∀ b,G b→r≠some b):Qaz G W W':=fun b hb hl=>h.block b hl (fun e=>hr b hb e.symm)
theorem Qaz.set {G:Nat→Prop}(W:World)(g i:Nat)(v:Value)(h:¬G g):Qaz G W (W.setCell ⟨g,i,none⟩ v):=Qaz.grown (Qac W g i v) (fun b hb e=>h (by cases e;exact hb))
theorem Qaz.drewN {G:Nat→Prop}(W:World)(n:Nat):Qaz G W (W.drewN n):=fun _ _ _=>rfl
theorem Qaz.msk {G:Nat→Prop}{W W':World}(h:Qaz G W W'):Le (msk W G) (msk W' G):=fun a v hc=>by obtain ⟨h1,h2⟩:=Qat.1 hc;refine Qat.2 ⟨h1,?_⟩;rw [World.cell?_of_block (h _ h1 (Qaj h2))];exact h2
section
variable {W:World} {G:Nat→Prop} {A:Oz} {n:Nat}
theorem RdK.msk {k:IntKind}{l:Iz}(h:RdK k W A n l)(hg:∀ b,Qaa A=some b→G b):RdK k (msk W G) A n l :=
 ⟨h.1,fun i x hx=>by obtain ⟨b,o,e,hc⟩:=h.2 i x hx;exact ⟨b,o,e,Qat.2 ⟨hg b (by rw [e];rfl),hc⟩⟩⟩
theorem RdB.msk {l:List Bool}(h:RdB W A n l)(hg:∀ b,Qaa A=some b→G b):RdB (msk W G) A n l :=
 ⟨h.1,fun i x hx=>by obtain ⟨b,o,e,hc⟩:=h.2 i x hx;exact ⟨b,o,e,Qat.2 ⟨hg b (by rw [e];rfl),hc⟩⟩⟩
theorem RdP.msk {l:Pz} (h:RdP W A n l) (hg:∀ b,Qaa A=some b→G b):RdP (msk W G) A n l :=
 ⟨h.1,fun i x hx=>by obtain ⟨b,o,e,hc,hd⟩:=h.2 i x hx;exact ⟨b,o,e,Qat.2 ⟨hg b (by rw [e];rfl),hc⟩,Qat.2 ⟨hg b (by rw [e];rfl),hd⟩⟩⟩
theorem Rd3.msk {l:List Tri}(h:Rd3 W A n l)(hg:∀ b,Qaa A=some b→G b):Rd3 (msk W G) A n l :=
 ⟨h.1,fun i x hx=>by
  obtain ⟨b,o,e,h1,h2,h3⟩:=h.2 i x hx;have hb:=hg b (by rw [e];rfl);exact ⟨b,o,e,Qat.2 ⟨hb,h1⟩,Qat.2 ⟨hb,h2⟩,Qat.2 ⟨hb,h3⟩⟩⟩
end
/-! Rows of Qbr, each of the call's own, as the cells of one block. -/
def IkO (W:World)(B g n:Nat) (ls:Lz):Prop :=
 ls.length=n∧g<B∧∃ cs,Blk W g 64 cs∧cs.size=n∧(∀ (v:Nat) (l:Iz),ls[v]?=some l→∃ A c,cs[v]?=some (.slice A l.length c)∧Own W B 3 1 A l.length c (Qae l)) ∧
  ∀ (v v':Nat) A m c A' m' c',v≠v'→cs[v]?=some (.slice A m c)→cs[v']?=some (.slice A' m' c')→Dj A A'
theorem IkO.start {W:World}{B g n:Nat}(hg:g<B) (h:Blk W g 64 (Qbg (.slice none 0 0) n)):IkO W B g n (List.replicate n []):=by exact Kas
theorem IkO.grown {W W':World}{B g n:Nat}{r:Option Nat} {ls:Lz} (h:IkO W B g n ls) (hg:W.grownBy W' r) (hr:∀ b,r=some b→b≠g∧b<B):IkO W' B g n ls:=by
 obtain ⟨h1,h2,cs,h3,h4,h5,h6⟩:=h;refine ⟨h1,h2,cs,h3.grown hg (fun e=>(hr g e).1 rfl),h4,fun v l hl=>?_,h6⟩;obtain ⟨A,c,k1,k2⟩:=h5 v l hl;refine ⟨A,c,k1,k2.far hg ?_⟩
 cases hA:Qaa A with
 | none=>exact .inl rfl
 | some b =>refine .inr (fun e=>?_);have h8:=(k2.lt b hA).1;have h9:=(hr b e.symm).2;omega
theorem IkO.below {W W':World}{B g n:Nat} {ls:Lz} (h:IkO W B g n ls) (hb:Bw W W'):IkO W' B g n ls:=by exact Kbf
theorem IkO.row {W:World}{B g n u:Nat} {ls:Lz} (h:IkO W B g n ls) (hu:u<n):∃ A c l,ls[u]?=some l∧W.cell? ⟨g,u,none⟩=some (.slice A l.length c)∧W.frozen? ⟨g,u,none⟩=false∧Own W B 3 1 A l.length c (Qae l):=by exact Kbc
theorem IkO.lt {W:World}{B g n:Nat} {ls:Lz} (h:IkO W B g n ls):g<W.heap.size:=by obtain ⟨_,_,cs,h3,_⟩:=h;exact h3.lt
theorem IkO.push {W w':World}{B g n u c c':Nat}{A A':Oz} {ls:Lz} {l:Iz} {k:Int} (h:IkO W B g n ls) (hl:ls[u]?=some l) (hc:W.cell? ⟨g,u,none⟩=some (.slice A l.length c))
 (hown:Own w' B 3 1 A' (l.length+1) c' (Qae l ++Qae [k])) (hg:W.grownBy w' (Qaa A)) (hat:Qaa A'=Qaa A∨Qaa A'=some W.heap.size) :
 IkO (w'.setCell ⟨g,u,none⟩ (.slice A' (l.length+1) c')) B g n (ls.set u (l ++[k])):=by
 obtain ⟨h1,h2,cs,h3,h4,h5,h6⟩:=h;have hu:=(Zs hl).1;have hcs:cs[u]?=some (.slice A l.length c):=by rw [←h3.cell];exact hc
 exact Kah
theorem IkO.cellG {W w':World}{B g n u:Nat}{r:Option Nat} {ls:Lz} (h:IkO W B g n ls) (hu:u<n) (hg:W.grownBy w' r) (hr:r≠some g):∃ v,w'.cell? ⟨g,u,none⟩=some v∧w'.frozen? ⟨g,u,none⟩=false:=by exact Kbl
theorem IkO.rdT {W:World}{B g n:Nat} {ls:Lz} (h:IkO W B g n ls):RdT W (some ⟨g,0,none⟩) n ls:=by exact Kcd
theorem IkO.rdM {W:World}{G:Nat→Prop}{B g n:Nat} {ls:Lz} (h:IkO W B g n ls) (hg:G g) (hB:∀ b,B≤b→b<W.heap.size→G b):RdT (msk W G) (some ⟨g,0,none⟩) n ls:=by exact Kbn
/-! The lists of a graph. -/
def idx (f:Tri→Int)(l:List Tri)(v:Int):Iz:=(l.zipIdx.filter (fun p=>f p.1 == v)).map (fun p=>(p.2:Int))
theorem idx_nil (f:Tri→Int)(v:Int):idx f [] v=[]:=rfl
theorem idx_snoc (f:Tri→Int)(l:List Tri)(a:Tri)(v:Int):idx f (l ++[a]) v=idx f l v ++(if f a == v then [(l.length:Int)] else []):=by
 unfold idx;rw [List.zipIdx_append,List.filter_append,List.map_append];congr 1
 cases h:f a == v <;> simp [h]
theorem Qzo {f:Tri→Int}{l:List Tri}{a:Tri}{k:Nat} (h:l[k]?=some a) (v:Int):idx f (l.take (k+1)) v=idx f (l.take k) v ++(if f a == v then [(k:Int)] else []):=by have hlt:=(Zs h).1;rw [Yf hlt,(Zs h).2,idx_snoc,Yw,Nat.min_eq_left Oo]
theorem Qjv (p:Tri→Bool):∀ (l:List Tri) (i:Nat),(l.zipIdx i).countP (fun q=>p q.1)=l.countP p
 | [],_=>rfl
 | a::l,i=>by rw [List.zipIdx_cons,List.countP_cons,List.countP_cons,Qjv p l (i+1)]
theorem Rfk (f:Tri→Int)(l:List Tri)(v:Int):(idx f l v).length=l.countP (fun a=>f a == v):=by unfold idx;rw [List.length_map,←List.countP_eq_length_filter];exact Qjv (fun a=>f a == v) l 0
theorem Qfn {f:Tri→Int}{l:List Tri}{v x:Int}:x∈idx f l v↔∃ (i:Nat) (a:Tri),x=(i:Int)∧l[i]?=some a∧f a=v:=by unfold idx;simp only [List.mem_map,List.mem_filter,beq_iff_eq];exact Kbx
theorem Qqk (f:Tri→Int)(v:Int):∀ l:List Tri,(idx f l v).Pairwise (·<·):=by intro l;unfold idx;rw [List.pairwise_map];refine List.Pairwise.filter _ ?_;rw [List.pairwise_iff_getElem];intro i j hi hj hij;simp;exact hij
def Qnv (f:Tri→Int)(l:List Tri)(n:Nat):Lz:=(List.range n).map (fun v:Nat=>idx f l (v:Int))
theorem Qmq (f:Tri→Int)(l:List Tri)(n:Nat):(Qnv f l n).length=n:=by simp [Qnv]
theorem Qdw {f:Tri→Int}{l:List Tri}{n v:Nat}(h:v<n):(Qnv f l n)[v]?=some (idx f l (v:Int)):=by unfold Qnv;rw [Yt,List.getElem?_range h];rfl
theorem Qmr (f:Tri→Int)(n:Nat):Qnv f [] n=List.replicate n []:=by
 apply List.ext_getElem?;intro i;rcases Nat.lt_or_ge i n with h|h
 {rw [Qdw h,idx_nil];simp [h]};{rw [Yd (by rw [Qmq];exact h),Yd (by simpa using h)]}
theorem Qjz {f:Tri→Int}{l:List Tri}{n v k:Nat}{a:Tri} (ha:l[k]?=some a) (hv:f a=(v:Int)) (h:v<n) :
 (Qnv f (l.take k) n).set v (idx f (l.take k) (v:Int) ++[(k:Int)])=Qnv f (l.take (k+1)) n:=by
 apply List.ext_getElem?;intro i;rcases Nat.lt_or_ge i n with hi|hi
 {rw [Qdw hi,Qzo ha];by_cases e:v=i;{subst e;rw [Yg (by rw [Qmq];exact h)];simp [hv]};{rw [Yh e,Qdw hi];(have:(f a == (i:Int))=false:=by rw [hv];simp;omega);simp [this]}};{rw [Yd (by rw [Yq,Qmq];exact hi),Yd (by rw [Qmq];exact hi)]}
def Qje (l:List Tri)(k:Nat)(a:Tri):Int×Int:=(((idx (·.2.1) (l.take k) a.2.1).length:Nat),((idx (·.1) (l.take k) a.1).length:Nat))
def plcs (l:List Tri):Pz:=l.zipIdx.map (fun p=>Qje l p.2 p.1)
theorem Rah (l:List Tri):(plcs l).length=l.length:=by simp [plcs]
theorem Qsn {l:List Tri}{k:Nat}{a:Tri} (h:l[k]?=some a):(plcs l)[k]?=some (Qje l k a):=by unfold plcs;rw [Yt,List.getElem?_zipIdx,h];simp
theorem Qhi (f:Tri→Int)(l:List Tri)(k:Nat)(v:Int):(idx f (l.take k) v).length≤k:=by rw [Rfk];exact Qni f l k v
